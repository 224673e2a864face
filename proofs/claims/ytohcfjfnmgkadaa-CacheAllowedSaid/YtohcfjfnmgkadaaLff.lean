/- Stores into variables that the region itself makes, in whatever order they come up. What is known of a value by its type alone. Operations that only copy a slot may be executed as soon as they can: regions in which they float. Code, by value: one proposition for a body. A function, by value: from its body's proposition to its contract. -/
import Derived.Test.YtohcfjfnmgkadaaLfe
import Derived.Laws.Sem
set_option linter.unusedVariables false
set_option linter.unusedSimpArgs false
namespace Go.Lf

/-- An owner's entry with another content. -/
def reown (e : Ent) (τ : Ty) (m : Md) (x : τ.den) : Ent := match e with
  | .box _ _ _ => .box τ m x
  | _ => .own τ m x

section
variable {P : Program} {C : Ctx} {N : NP} {w0 : World} {F0 H : NSet} {env : St} {a : Act} {w : World} {F : NSet} {S : Nat → NSet} {d : Nat}

/-- An owner's memory has been written. -/
theorem Inv0.setRoot (hi : Inv0 P N w0 F0 H env a w F S) {r : Nat} (hr : (env r).isOwner = true) {w' : World} {Sr : NSet} {E : Ent} (hE : E.isOwner = true)
    (h1 : w'.os = w.os) (h2 : w'.tape = w.tape) (h3 : w'.output = w.output) (h4 : w.heap.size ≤ w'.heap.size) (h6 : ∀ k, k < w0.heap.size → ¬ H k → w'.heap[k]? = w.heap[k]?)
    (h5 : ∀ b, F b ∨ (∃ t, t ≠ r ∧ S t b) → w'.heap[b]? = w.heap[b]?) (hS : ∀ b, Sr b → (w0.heap.size ≤ b ∨ H b) ∧ b < w'.heap.size ∧ ¬ F b ∧ ∀ t, t ≠ r → ¬ S t b)
    (he : EntOK P F w' (upd (kill env r) r E) (fun t => a.tmps.getD t undef) (fun t => if t = r then Sr else S t) r E) :
    Inv0 P N w0 F0 H (upd (kill env r) r E) a w' F (fun t => if t = r then Sr else S t) := by
  refine ⟨h1.trans hi.os, h2.trans hi.tape, h3.trans hi.output, Nat.le_trans hi.size h4, fun k hk hH => (h6 k hk hH).trans (hi.block k hk hH), fun b hb => Nat.lt_of_lt_of_le (hi.fb b hb) h4, hi.f0, hi.fn, ?_, ?_, ?_, hi.defers, hi.slots⟩
  · intro t b ht
    by_cases h : t = r
    · simp only [h, if_true] at ht
      exact ⟨(hS b ht).1, (hS b ht).2.1, (hS b ht).2.2.1⟩
    · simp only [h, if_false] at ht
      obtain ⟨g1, g2, g3⟩ := hi.sb t b ht
      exact ⟨g1, Nat.lt_of_lt_of_le g2 h4, g3⟩
  · intro t u htu b hb1 hb2
    by_cases h : t = r
    · simp only [h, if_true] at hb1
      by_cases h' : u = r
      · exact htu (h.trans h'.symm)
      · simp only [h', if_false] at hb2
        exact (hS b hb1).2.2.2 u h' hb2
    · simp only [h, if_false] at hb1
      by_cases h' : u = r
      · simp only [h', if_true] at hb2
        exact (hS b hb2).2.2.2 t h hb1
      · simp only [h', if_false] at hb2
        exact hi.sd t u htu b hb1 hb2
  · intro t
    by_cases h : t = r
    · subst h
      rw [upd_same]; exact he
    · rw [upd_ne _ _ h]
      rcases kill_cases env r t with h' | ⟨h', hne⟩
      · rw [h']; trivial
      · rw [h']
        refine EntOK.keep (fun _ h => h) (fun b hb => h5 b (.inl hb)) rfl ?_ ?_ (hi.ent t)
        · intro q hq
          have hqr : q ≠ r := fun e => hne (e ▸ hq)
          refine ⟨fun ho => ?_, fun _ => rfl, by simp [hqr], fun b hb => h5 b (.inr ⟨q, hqr, hb⟩), fun b h1 h2 => absurd h1 h2, fun b hb => (hi.sb q b hb).2.2⟩
          rw [upd_ne _ _ hqr]; unfold kill killE; rw [Ent.owner_root ho]
        · intro _
          exact ⟨by simp [h], fun b hb => h5 b (.inr ⟨t, h, hb⟩), fun b h1 h2 => absurd h1 h2⟩


theorem late_store (hC : CtxOK P C) (hi : Inv0 P N w0 F0 H env a w F S) {T : TypeId} {z : Operand} {o : Oper} (ho : o.op = .store T (.tmp d) z) (hod : o.dst = none) {τ : Ty} {m : Md} {x y : τ.den}
    (he : env d = .box τ m x) (hf : τ.flat = true) (hT : look C.tys T = some τ) (hv : OwnV F w τ .shr none' (a.eval z) y) {K : Act → World → Prop} {Q : Exit → Act → World → Prop}
    (hK : ∀ w' F' S', Inv0 P N w0 F0 H (upd (kill env d) d (.box τ m y)) a w' F' S' → K a w') : o.wp P a w K Q := by
  have h1 := hi.ent d
  rw [he] at h1
  obtain ⟨pl, S0, cs, h1⟩ := h1
  obtain ⟨_, _, b, rfl, hS0, hval, hsb⟩ := h1.box_inj
  obtain ⟨q1, q2, row, T0, q3, q4, q5⟩ := h1.2.1
  obtain ⟨c', hc', hvo⟩ := hv
  obtain ⟨w', k1, k2, k3, k4, k5, k6, k7⟩ := (hC.types T _ hT).storeVar q3 q4 hvo.len hvo.one
  have hval' : a.eval (.tmp d) = .pointer (some ⟨b, 0, none⟩) := hval
  unfold Oper.wp
  have hrun : (execOp a.eval o).run P w = .ok .skip w' := by
    simp [execOp, ho, Instr.storeAt, hval', Instr.sureAddr, hc', k1]
  rw [hrun, Oper.upon_skip, hod]
  have hb := hi.sb d b hsb
  refine hK w' F (fun t => if t = d then S d else S t) ?_
  refine hi.setRoot (by rw [he]; rfl) rfl k5 k6 k7 (by omega) ?_ ?_ ?_ ?_
  · intro k hk hH
    refine k3 k ?_
    rintro rfl
    rcases hb.1 with h | h
    · omega
    · exact hH h
  · intro k hk
    refine k3 k ?_
    rintro rfl
    rcases hk with hk | ⟨t, g1, g2⟩
    · exact hb.2.2 hk
    · exact hi.sd t d g1 k g2 hsb
  · intro k hk
    obtain ⟨g1, g2, g3⟩ := hi.sb d k hk
    exact ⟨g1, by omega, g3, fun t ht hk' => hi.sd t d ht k hk' hk⟩
  · obtain ⟨e1, row', e2, T', e3, e4, e5, e6⟩ := k2
    refine ⟨.mem b 0, S0, c', .inr ⟨rfl, b, rfl, by simpa using hS0, hval, by simpa using hsb⟩, ⟨q1, q2, e2, T', e4, ?_, ?_⟩, hvo.flat hf⟩
    · have := congrArg List.length e6
      simp only [Array.length_toList, List.length_append, List.length_take, List.length_drop, e1] at this
      omega
    · rw [e6]
      simp only [List.take_zero, List.nil_append, seg, List.drop_zero]
      rw [List.take_append_of_le_length (by omega), List.take_of_length_le (by omega)]
end

def noRd : List Row → Nat → Bool
  | [], _ => true
  | r :: l, d => !memN r.rs d && !rootIs r.e d && noRd l d
def zOK (rows : List Row) (anc : List Nat) (draw : Bool) (k : Nat) : Operand → Bool
  | .tmp s => match idxR rows 0 s with
    | some (j, r) => isNilL r.ch && (!draw || (anc.getD k 0).testBit j)
    | none => true
  | _ => true
def zFree (ds : List Nat) : Operand → Bool
  | .tmp s => !memN ds s
  | _ => true

/-- The entry that a late store leaves. -/
def lateE (C : Ctx) (rows : List Row) (env0 : St) (anc : List Nat) (draw : Bool) (o : Oper) (k : Nat) : Option (Nat × Nat × Ent) :=
  match o.op, o.dst, o.guard with
  | .store T (.tmp d) z, none, none => match idxR rows 0 d with
    | some (j, r) => match r.e, (viewO (stR false rows env0) z).e with
      | .box τ m _, .shr σ y => match castD (τ := σ) (σ := τ) y with
        | some y' => bif isNilL r.ch && !usedR rows d && decide (look C.tys T = some τ) && τ.flat && noRd rows d && (!draw || (anc.getD k 0).testBit j) && zOK rows anc draw k z then some (k, d, .box τ m y') else none
        | none => none
      | _, _ => none
    | none => none
  | _, _, _ => none
def lateL (C : Ctx) (rows : List Row) (env0 : St) (anc : List Nat) (draw : Bool) : List Oper → Nat → Option (List (Nat × Nat × Ent))
  | [], _ => some []
  | o :: l, k => match lateE C rows env0 anc draw o k, lateL C rows env0 anc draw l (k + 1) with
    | some x, some xs => some (x :: xs)
    | _, _ => none
def zFreeL (ds : List Nat) : List Oper → Bool
  | [] => true
  | o :: l => (match o.op with
    | .store _ _ z => zFree ds z
    | _ => true) && zFreeL ds l
def tgts : List (Nat × Nat × Ent) → List Nat
  | [] => []
  | (_, d, _) :: l => d :: tgts l

def patE (T : Nat → Bool) : List (Nat × Nat × Ent) → Nat → Option Ent
  | [], _ => none
  | (k, d, e) :: l, t => bif Nat.beq d t && T k then some e else patE T l t
def patR (T : Nat → Bool) (ls : List (Nat × Nat × Ent)) (r : Row) : Row := match patE T ls r.d with
  | some e => { r with e := e }
  | none => r

/-- A region whose effects are all late stores. -/
def regionL (C : Ctx) (draw : Bool) (st : St) (ops : List Oper) : Option (Prop × St) :=
  match genRows false C st ops [] with
  | (c, rows, tail) => match lateL C rows st (ancB ops) draw tail rows.length with
    | some ls => bif nodupN (tgts ls) && zFreeL (tgts ls) tail && (!draw || (lowB ops 0 && gdB (ancB ops) ops 0 && raceB (ancB ops) rows rows 0)) then some (c, stF (rows.map (patR (fun _ => true) ls)) st) else none
    | none => none

/-- Both kinds of region. -/
def regionB (C : Ctx) (stp : St → Oper → Option (Prop × St)) (draw : Bool) (st : St) (ops : List Oper) : Option (Prop × St) :=
  match regionE C stp draw st ops with
  | some r => some r
  | none => match regionL C draw st ops with
    | some r => some r
    | none => regionP C stp draw (dropAll st C.ded) ops
/-- Where neither goes, what is named may become shared first. -/
def regionA (C : Ctx) (stp : St → Oper → Option (Prop × St)) (draw : Bool) (st : St) (ops : List Oper) : Option (Prop × St) :=
  match regionB C stp draw st ops with
  | some r => some r
  | none => regionB C stp draw (frzA st C.fzs) ops

section
variable {P : Program} {C : Ctx} {w0 : World} {F0 H : NSet} {env0 : St} {ops : Array Oper} {rows : List Row} {Q : Exit → Act → World → Prop}

structure LateF (C : Ctx) (rows : List Row) (env0 : St) (anc : List Nat) (draw : Bool) (o : Oper) (k d : Nat) (e : Ent) : Prop where
  ex : ∃ (T : TypeId) (z : Operand) (j : Nat) (r : Row) (τ : Ty) (m : Md) (x y : τ.den), o.op = .store T (.tmp d) z ∧ o.dst = none ∧ o.guard = none ∧ idxR rows 0 d = some (j, r) ∧ r.e = .box τ m x ∧
    (viewO (stR false rows env0) z).e = .shr τ y ∧ e = .box τ m y ∧ r.ch = [] ∧ usedR rows d = false ∧ look C.tys T = some τ ∧ τ.flat = true ∧ noRd rows d = true ∧
    (draw = true → (anc.getD k 0).testBit j = true) ∧ zOK rows anc draw k z = true

theorem lateE_ok {anc : List Nat} {draw : Bool} {o : Oper} {k k' d : Nat} {e : Ent} (h : lateE C rows env0 anc draw o k = some (k', d, e)) : k' = k ∧ LateF C rows env0 anc draw o k d e := by
  unfold lateE at h
  split at h
  · rename_i T d0 z h1 h2 h3
    split at h
    · rename_i j r hj
      split at h
      · rename_i τ m x σ y he hz
        split at h
        · rename_i y' hy
          cases hb : (isNilL r.ch && !usedR rows d0 && decide (look C.tys T = some τ) && τ.flat && noRd rows d0 && (!draw || (anc.getD k 0).testBit j) && zOK rows anc draw k z)
          · rw [hb] at h; cases h
          rw [hb] at h
          simp only [cond_true, Option.some.injEq, Prod.mk.injEq] at h
          obtain ⟨rfl, rfl, rfl⟩ := h
          simp only [Bool.and_eq_true, Bool.not_eq_true', decide_eq_true_eq, Bool.or_eq_true, isNilL_iff] at hb
          obtain ⟨⟨⟨⟨⟨⟨b1, b2⟩, b3⟩, b4⟩, b5⟩, b6⟩, b7⟩ := hb
          have := castD_some hy
          injection this with e1 e2
          subst e1; cases e2
          refine ⟨rfl, ⟨T, z, j, r, σ, m, x, y, h1, h2, h3, hj, he, hz, rfl, b1, b2, b3, b4, b5, fun hd => ?_, b7⟩⟩
          rcases b6 with b6 | b6
          · rw [hd] at b6; cases b6
          · exact b6
        · cases h
      · cases h
    · cases h
  · cases h

theorem lateL_ok {anc : List Nat} {draw : Bool} : ∀ {l : List Oper} {k : Nat} {ls : List (Nat × Nat × Ent)}, lateL C rows env0 anc draw l k = some ls →
    ls.length = l.length ∧ ∀ j x, ls[j]? = some x → x.1 = k + j ∧ ∃ o, l[j]? = some o ∧ LateF C rows env0 anc draw o (k + j) x.2.1 x.2.2
  | [], k, ls, h => by
    simp only [lateL, Option.some.injEq] at h
    subst h; exact ⟨rfl, fun j x h => by simp at h⟩
  | o :: l, k, ls, h => by
    simp only [lateL] at h
    split at h
    · rename_i x xs h1 h2
      simp only [Option.some.injEq] at h
      subst h
      obtain ⟨g1, g2⟩ := lateL_ok h2
      refine ⟨by simp [g1], fun j y hy => ?_⟩
      cases j with
      | zero =>
        simp only [List.getElem?_cons_zero, Option.some.injEq] at hy
        subst hy
        obtain ⟨k', d, e⟩ := x
        obtain ⟨q1, q2⟩ := lateE_ok h1
        exact ⟨q1, o, rfl, q2⟩
      | succ j =>
        obtain ⟨q1, o', q2, q3⟩ := g2 j y (by simpa using hy)
        exact ⟨by omega, o', by simpa using q2, by rw [show k + (j + 1) = k + 1 + j from by omega]; exact q3⟩
    · cases h

theorem noRd_ok {d : Nat} : ∀ {l : List Row}, noRd l d = true → ∀ r ∈ l, d ∉ r.rs ∧ r.e.root ≠ some d
  | q :: l, h, r, hr => by
    simp only [noRd, Bool.and_eq_true, Bool.not_eq_true'] at h
    rcases List.mem_cons.1 hr with rfl | hr
    · refine ⟨fun hm => ?_, rootIs_ne h.1.2⟩
      have := memN_mem.2 hm
      rw [h.1.1] at this; cases this
    · exact noRd_ok h.2 r hr

theorem patE_none {T : Nat → Bool} {t : Nat} : ∀ {ls : List (Nat × Nat × Ent)}, (∀ x ∈ ls, x.2.1 = t → T x.1 = false) → patE T ls t = none
  | [], _ => rfl
  | (k, d, e) :: l, h => by
    simp only [patE]
    have ih := patE_none (t := t) (T := T) (fun x hx => h x (List.mem_cons_of_mem _ hx))
    cases hb : Nat.beq d t
    · simpa using ih
    · have := h (k, d, e) (List.mem_cons_self) (nbeq_iff.1 hb)
      simp only at this
      simp only [this, Bool.and_false, cond_false]; exact ih
theorem patE_some {T : Nat → Bool} {t : Nat} {e : Ent} : ∀ {ls : List (Nat × Nat × Ent)}, patE T ls t = some e → ∃ x ∈ ls, x.2.1 = t ∧ T x.1 = true ∧ x.2.2 = e
  | (k, d, e') :: l, h => by
    simp only [patE] at h
    cases hb : (Nat.beq d t && T k)
    · rw [hb] at h
      obtain ⟨x, h1, h2⟩ := patE_some h
      exact ⟨x, List.mem_cons_of_mem _ h1, h2⟩
    · rw [hb] at h
      simp only [cond_true, Option.some.injEq] at h
      simp only [Bool.and_eq_true] at hb
      exact ⟨_, List.mem_cons_self, nbeq_iff.1 hb.1, hb.2, h⟩
theorem patE_congr {T T' : Nat → Bool} {t : Nat} : ∀ {ls : List (Nat × Nat × Ent)}, (∀ x ∈ ls, x.2.1 = t → T x.1 = T' x.1) → patE T ls t = patE T' ls t
  | [], _ => rfl
  | (k, d, e) :: l, h => by
    simp only [patE]
    rw [patE_congr (t := t) (T := T) (T' := T') (ls := l) (fun x hx => h x (List.mem_cons_of_mem _ hx))]
    cases hb : Nat.beq d t
    · rfl
    · have := h (k, d, e) (List.mem_cons_self) (nbeq_iff.1 hb)
      simp only at this
      rw [this]
theorem tgts_mem {ls : List (Nat × Nat × Ent)} {t : Nat} : t ∈ tgts ls ↔ ∃ x ∈ ls, x.2.1 = t := by
  induction ls with
  | nil => simp [tgts]
  | cons y l ih =>
    obtain ⟨k, d, e⟩ := y
    simp only [tgts, List.mem_cons, ih]
    constructor
    · rintro (rfl | ⟨x, h1, h2⟩)
      · exact ⟨_, .inl rfl, rfl⟩
      · exact ⟨x, .inr h1, h2⟩
    · rintro ⟨x, rfl | h1, h2⟩
      · exact .inl h2.symm
      · exact .inr ⟨x, h1, h2⟩
theorem patE_hit {T : Nat → Bool} : ∀ {ls : List (Nat × Nat × Ent)} {x : Nat × Nat × Ent}, nodupN (tgts ls) = true → x ∈ ls → T x.1 = true → patE T ls x.2.1 = some x.2.2
  | (k, d, e) :: l, x, hn, hx, hT => by
    simp only [patE]
    rcases List.mem_cons.1 hx with rfl | hx
    · simp only at hT
      simp only [Nat.beq_refl, hT, Bool.and_self, cond_true]
    · obtain ⟨g1, g2⟩ := nodup_cons (show nodupN (d :: tgts l) = true from hn)
      have hne : d ≠ x.2.1 := fun h => g1 (tgts_mem.2 ⟨x, hx, h.symm⟩)
      simp only [nbeq_ne hne, Bool.false_and, cond_false]
      exact patE_hit g2 hx hT
theorem tgts_inj : ∀ {ls : List (Nat × Nat × Ent)} {x y : Nat × Nat × Ent}, nodupN (tgts ls) = true → x ∈ ls → y ∈ ls → x.2.1 = y.2.1 → x = y
  | (k, d, e) :: l, x, y, hn, hx, hy, h => by
    obtain ⟨g1, g2⟩ := nodup_cons (show nodupN (d :: tgts l) = true from hn)
    rcases List.mem_cons.1 hx with rfl | hx
    · rcases List.mem_cons.1 hy with rfl | hy
      · rfl
      · exact absurd (tgts_mem.2 ⟨y, hy, h.symm⟩) g1
    · rcases List.mem_cons.1 hy with rfl | hy
      · exact absurd (tgts_mem.2 ⟨x, hx, h⟩) g1
      · exact tgts_inj g2 hx hy h

theorem patR_d {T : Nat → Bool} {ls : List (Nat × Nat × Ent)} {r : Row} : (patR T ls r).d = r.d ∧ (patR T ls r).used = r.used ∧ (patR T ls r).gb = r.gb ∧ (patR T ls r).ch = r.ch := by
  unfold patR
  split <;> exact ⟨rfl, rfl, rfl, rfl⟩
theorem patR_none {T : Nat → Bool} {ls : List (Nat × Nat × Ent)} {r : Row} (h : patE T ls r.d = none) : patR T ls r = r := by
  unfold patR; rw [h]

/-- A late store, whenever it comes up. -/
theorem late_ok (hC : CtxOK P C) (ht : Tab false C env0 ops rows) {ls : List (Nat × Nat × Ent)} (hnd : nodupN (tgts ls) = true) {anc : List Nat} {draw : Bool} {T : Nat → Bool} {k d : Nat} {e : Ent} (hx : (k, d, e) ∈ ls)
    (hk : rows.length ≤ k) (hkinj : ∀ u ∈ ls, ∀ v ∈ ls, u.1 = v.1 → u = v) {o : Oper} (ho : ops[k]? = some o) (hf : LateF C rows env0 anc draw o k d e) (hzf : ∀ T0 a0 z, o.op = .store T0 a0 z → zFree (tgts ls) z = true)
    (hTk : T k = false) (hanc : ∀ j, j < rows.length → (draw = true → (anc.getD k 0).testBit j = true) → T j = true) (hroot : ∀ t, (env0 t).root ≠ some d) (hbox : ∀ u ∈ ls, u.2.2.root ≠ some d) :
    ∀ a w, InvT P C w0 F0 H env0 (rows.map (patR T ls)) T a w → wpOp P ops Q k (InvT P C w0 F0 H env0 (rows.map (patR (addT T k) ls)) (addT T k)) a w := by
  intro a w ⟨F, S, hi, hund⟩
  obtain ⟨T0, z, j, r, τ, m, x, y, h1, h2, h3, h4, h5, h6, rfl, h7, h8, h9, h10, h11, h12, h13⟩ := hf.ex
  obtain ⟨_, g2, g3⟩ := idxR_ok h4
  simp only [Nat.sub_zero] at g2
  have hrd : r.d = d := (lookR_mem g3).2
  have hjl : j < rows.length := by
    rcases Nat.lt_or_ge j rows.length with h | h
    · exact h
    · rw [List.getElem?_eq_none h] at g2; cases g2
  have hTj : T j = true := hanc j hjl h12
  have hmap : ∀ {T : Nat → Bool} {i : Nat} {q : Row}, rows[i]? = some q → (rows.map (patR T ls))[i]? = some (patR T ls q) := by
    intro T i q hq; simp [hq]
  have hback : ∀ {T : Nat → Bool} {i : Nat} {q' : Row}, (rows.map (patR T ls))[i]? = some q' → ∃ q, rows[i]? = some q ∧ q' = patR T ls q := by
    intro T i q' hq
    simp only [List.getElem?_map, Option.map_eq_some_iff] at hq
    obtain ⟨q, e1, e2⟩ := hq
    exact ⟨q, e1, e2.symm⟩
  have hud : ∀ T, UD (rows.map (patR T ls)) := by
    intro T i i' q q' hq hq' hd
    obtain ⟨p, e1, rfl⟩ := hback hq
    obtain ⟨p', e2, rfl⟩ := hback hq'
    rw [patR_d.1, patR_d.1] at hd
    exact ht.ud i i' p p' e1 e2 hd
  -- the variable
  have hpn : patE T ls d = none := by
    refine patE_none fun u hu hd => ?_
    have := tgts_inj hnd hu hx hd
    rw [this]; exact hTk
  have hrj : (rows.map (patR T ls))[j]? = some r := by
    rw [hmap g2, patR_none (by rw [hrd]; exact hpn)]
  have hused : ∀ (T' T : Nat → Bool) t, usedR rows t = false → usedR (sel (rows.map (patR T' ls)) T 0) t = false := by
    intro T' T t h
    cases hu : usedR (sel (rows.map (patR T' ls)) T 0) t
    · rfl
    · obtain ⟨q, q1, q2⟩ := usedR_mem.1 hu
      obtain ⟨i, e1, _⟩ := mem_sel _ 0 q1
      obtain ⟨p, e2, rfl⟩ := hback e1
      rw [patR_d.2.1] at q2
      have := usedR_mem.2 ⟨p, List.mem_of_getElem? e2, q2⟩
      rw [h] at this; cases this
  have hgbr : r.gb = true := (ht.gb j g2).2 (by rw [h7]; intro x hx; cases hx)
  have henv : stR true (sel (rows.map (patR T ls)) T 0) env0 d = .box τ m x := by
    have hl := (hud T).look hrj hTj
    rw [hrd] at hl
    have hb : baseR true (sel (rows.map (patR T ls)) T 0) env0 d = .box τ m x := by
      unfold baseR; rw [hl]; simp only [Row.ent, cond_true, hgbr, h5]
    rw [stR_base (hused T T d h8) (by rw [hb]; intro q hq; cases hq), hb]
  -- the value
  have hval : OwnV F w τ .shr none' (a.eval z) y := by
    have hview : ViewOK P F w (stR true (sel (rows.map (patR T ls)) T 0) env0) (fun t => a.tmps.getD t undef) S (a.eval z) (viewO (stR false rows env0) z) := by
      refine viewT_ok hi ?_ ?_
      · cases z with
        | tmp s =>
          intro q hq
          simp only [zOK] at h13
          obtain ⟨hq1, hq2⟩ := lookR_mem hq
          cases hidx : idxR rows 0 s with
          | none =>
            exfalso
            have : ∀ (l : List Row) (n : Nat), idxR l n s = none → lookR l s = none := by
              intro l
              induction l with
              | nil => intro n _; rfl
              | cons p l ih =>
                intro n hn
                simp only [idxR] at hn
                cases hb : Nat.beq p.d s
                · rw [hb] at hn; simp only [lookR, hb, cond_false]; exact ih _ hn
                · rw [hb] at hn; cases hn
            rw [this rows 0 hidx] at hq; cases hq
          | some jr =>
            obtain ⟨jz, rz⟩ := jr
            rw [hidx] at h13
            simp only [Bool.and_eq_true, isNilL_iff] at h13
            obtain ⟨_, e1, e2⟩ := idxR_ok hidx
            simp only [Nat.sub_zero] at e1
            rw [hq] at e2; injection e2 with e2; subst e2
            exact (ht.gb jz e1).2 (by rw [h13.1]; intro x hx; cases hx)
        | _ => trivial
      · rintro s rfl
        have hst : stR false rows env0 s = .shr τ y := h6
        have hus : usedR rows s = false := by
          rcases stR_cases false rows env0 s with h | ⟨_, h, _⟩
          · rw [hst] at h; cases h
          · exact h
        refine ⟨⟨?_, by rw [hus]; exact hused T T s hus⟩, fun q hq => by rw [hst] at hq; cases hq⟩
        have hsn : s ∉ tgts ls := by
          have := hzf T0 _ _ h1
          simp only [zFree, Bool.not_eq_true'] at this
          intro hm
          have h' := memN_mem.2 hm
          rw [this] at h'; cases h'
        have hall : sel rows (fun _ => true) 0 = rows := sel_all rows 0 (fun _ _ => rfl)
        have h0 := lookR_congr2 (s := s) (T := fun _ => true) (T' := T) rows (rows.map (patR T ls)) 0 (by simp) (fun i q q' hq hq' => ?_)
        · rw [hall] at h0; exact h0.symm
        · obtain ⟨p, e1, rfl⟩ := hback hq'
          rw [hq] at e1; injection e1 with e1; subst e1
          refine ⟨patR_d.1, fun hd => ⟨?_, ?_⟩⟩
          · symm
            simp only [zOK] at h13
            have hil : i < rows.length := by
              rcases Nat.lt_or_ge i rows.length with h | h
              · exact h
              · rw [List.getElem?_eq_none h] at hq; cases hq
            have hidx : ∀ (l : List Row) (n : Nat), (∃ p ∈ l, p.d = s) → ∃ v, idxR l n s = some v := by
              intro l
              induction l with
              | nil => rintro n ⟨_, h, _⟩; cases h
              | cons p l ih =>
                rintro n ⟨p', hp', hd'⟩
                simp only [idxR]
                cases hb : Nat.beq p.d s
                · rcases List.mem_cons.1 hp' with rfl | hp'
                  · rw [nbeq_iff.2 hd'] at hb; cases hb
                  · exact ih _ ⟨p', hp', hd'⟩
                · exact ⟨_, rfl⟩
            obtain ⟨⟨jz, rz⟩, hv⟩ := hidx rows 0 ⟨q, List.mem_of_getElem? hq, hd⟩
            rw [hv] at h13
            simp only [Bool.and_eq_true, Bool.or_eq_true, Bool.not_eq_true'] at h13
            obtain ⟨_, e1, e2⟩ := idxR_ok hv
            simp only [Nat.sub_zero] at e1
            have : i = jz := ht.ud i jz q rz hq e1 (by rw [hd, (lookR_mem e2).2])
            subst this
            rw [Nat.zero_add]
            refine hanc i hil (fun hdr => ?_)
            rcases h13.2 with h | h
            · rw [hdr] at h; cases h
            · exact h
          · exact patR_none (patE_none fun u hu hd' => absurd (tgts_mem.2 ⟨u, hu, hd'.trans hd⟩) hsn)
    have := hview.ent (by rw [h6]; rfl) 0 (by rw [h6]; simp [Ent.root])
    rw [h6] at this
    exact this
  unfold wpOp
  rw [ho]
  simp only []
  have hw : Region.wanted o (yielded ops a.tmps) = true := by unfold Region.wanted; rw [h3]
  rw [hw]
  simp only [if_true]
  left
  refine late_store hC hi h1 h2 henv h10 h9 hval (Q := Q) ?_
  intro w' F' S' hinv
  refine ⟨F', S', ?_, ?_⟩
  · -- the table with the new content
    have hsame : ∀ t, t ≠ d → patE (addT T k) ls t = patE T ls t := by
      intro t htd
      refine patE_congr fun u hu hd => ?_
      by_cases huk : u.1 = k
      · have := hkinj u hu _ hx huk
        rw [this] at hd; exact absurd hd.symm htd
      · simp [addT, nbeq_ne huk]
    have hselT : sel (rows.map (patR (addT T k) ls)) (addT T k) 0 = sel (rows.map (patR (addT T k) ls)) T 0 := by
      have aux : ∀ (l : List Row) (n : Nat), n + l.length ≤ k → sel l (addT T k) n = sel l T n := by
        intro l
        induction l with
        | nil => intro n _; rfl
        | cons p l ih =>
          intro n hn
          simp only [List.length_cons] at hn
          have : addT T k n = T n := by simp [addT, nbeq_ne (show n ≠ k by omega)]
          simp only [sel, this]
          rw [ih (n + 1) (by omega)]
      exact aux _ 0 (by simpa using hk)
    rw [hselT]
    have hU : ∀ t, usedR (sel (rows.map (patR (addT T k) ls)) T 0) t = usedR (sel (rows.map (patR T ls)) T 0) t := by
      intro t
      refine usedR_congr2 _ _ 0 (by simp) fun i q q' hq hq' => ?_
      obtain ⟨p, e1, rfl⟩ := hback hq
      obtain ⟨p', e2, rfl⟩ := hback hq'
      rw [e1] at e2; injection e2 with e2; subst e2
      exact ⟨by rw [patR_d.2.1, patR_d.2.1], fun _ => rfl⟩
    have hB : ∀ t, t ≠ d → baseR true (sel (rows.map (patR (addT T k) ls)) T 0) env0 t = baseR true (sel (rows.map (patR T ls)) T 0) env0 t := by
      intro t htd
      have : lookR (sel (rows.map (patR (addT T k) ls)) T 0) t = lookR (sel (rows.map (patR T ls)) T 0) t := by
        refine lookR_congr2 _ _ 0 (by simp) fun i q q' hq hq' => ?_
        obtain ⟨p, e1, rfl⟩ := hback hq
        obtain ⟨p', e2, rfl⟩ := hback hq'
        rw [e1] at e2; injection e2 with e2; subst e2
        refine ⟨by rw [patR_d.1, patR_d.1], fun hd => ⟨rfl, ?_⟩⟩
        rw [patR_d.1] at hd
        unfold patR
        rw [hsame p.d (by rw [hd]; exact htd)]
      unfold baseR; rw [this]
    have hS : stR true (sel (rows.map (patR (addT T k) ls)) T 0) env0 = upd (kill (stR true (sel (rows.map (patR T ls)) T 0) env0) d) d (.box τ m y) := by
      funext t
      by_cases htd : t = d
      · subst htd
        rw [upd_same]
        have hl : lookR (sel (rows.map (patR (addT T k) ls)) T 0) r.d = some (patR (addT T k) ls r) := by
          have := (hud (addT T k)).look (hmap (T := addT T k) g2) hTj
          rw [patR_d.1] at this; exact this
        rw [hrd] at hl
        have hp : patE (addT T k) ls t = some (.box τ m y) := patE_hit hnd hx (by simp [addT])
        have hb : baseR true (sel (rows.map (patR (addT T k) ls)) T 0) env0 t = .box τ m y := by
          unfold baseR; rw [hl]
          unfold patR; rw [hrd, hp]
          simp only [Row.ent, cond_true, hgbr]
        rw [stR_base (hused _ _ t h8) (by rw [hb]; intro q hq; cases hq), hb]
      · rw [upd_ne _ _ htd]
        have hkill : ∀ (E : St), (E t).root ≠ some d → kill E d t = E t := by
          intro E hne
          unfold kill killE
          cases hr : (E t).root with
          | none => rfl
          | some q => simp only [nbeq_ne (fun h => hne (by rw [hr, h]) : q ≠ d), cond_false]
        rw [hkill]
        · unfold stR
          rw [hU, hB t htd]
          cases usedR (sel (rows.map (patR T ls)) T 0) t
          · simp only [cond_false]
            cases (baseR true (sel (rows.map (patR T ls)) T 0) env0 t).root with
            | none => rfl
            | some q => simp only [hU]
          · rfl
        · rcases stR_cases true (sel (rows.map (patR T ls)) T 0) env0 t with h | ⟨h, _, _⟩
          · rw [h]; intro h; cases h
          · rw [h]
            unfold baseR
            cases hl : lookR (sel (rows.map (patR T ls)) T 0) t with
            | none => exact hroot t
            | some q =>
              obtain ⟨i, e1, _⟩ := mem_sel _ 0 (lookR_mem hl).1
              obtain ⟨p, e2, rfl⟩ := hback e1
              simp only [Row.ent, cond_true]
              cases (patR T ls p).gb
              · intro h; cases h
              · simp only [cond_true]
                unfold patR
                split
                · rename_i e' he'
                  obtain ⟨u, hu, _, _, rfl⟩ := patE_some he'
                  exact hbox u hu
                · exact (noRd_ok h11 p (List.mem_of_getElem? e2)).2
    rw [hS]; exact hinv
  · intro i q hq hTi hqg
    obtain ⟨p, e1, rfl⟩ := hback hq
    have hil : i < rows.length := by
      rcases Nat.lt_or_ge i rows.length with h | h
      · exact h
      · rw [List.getElem?_eq_none h] at e1; cases e1
    have hik : i ≠ k := by omega
    simp only [addT, nbeq_ne hik, Bool.false_or] at hTi
    have := hund i _ (hmap e1) hTi (by rw [patR_d.2.2.1] at hqg ⊢; exact hqg)
    rw [patR_d.1] at this ⊢
    exact this

theorem regionL_ok (hC : CtxOK P C) {draw : Bool} {st' : St} {c : Prop} (h : regionL C draw env0 ops.toList = some (c, st')) (hc : c)
    {a : Act} {w : World} (hi : Inv P C.np w0 F0 H env0 a w) (hQ : ∀ a' w', Inv P C.np w0 F0 H st' a' w' → Q .normal a' w') : RegW P ops draw Q a w := by
  unfold regionL at h
  generalize hgen : genRows false C env0 ops.toList [] = g at h
  obtain ⟨c1, rows, tail⟩ := g
  simp only [] at h
  split at h
  · rename_i ls hls
    cases hB : (nodupN (tgts ls) && zFreeL (tgts ls) tail && (!draw || (lowB ops.toList 0 && gdB (ancB ops.toList) ops.toList 0 && raceB (ancB ops.toList) rows rows 0)))
    · rw [hB] at h; cases h
    rw [hB] at h
    simp only [cond_true, Option.some.injEq, Prod.mk.injEq] at h
    obtain ⟨rfl, rfl⟩ := h
    simp only [Bool.and_eq_true, Bool.or_eq_true, Bool.not_eq_true'] at hB
    obtain ⟨⟨hnd, hzf⟩, hdr⟩ := hB
    obtain ⟨ht, htail⟩ := genRows_ok (ops := ops) ops.toList [] hgen hc (by simp) (fun i r hr => by simp at hr)
    have htd : tail = ops.toList.drop rows.length := by
      apply List.ext_getElem?
      intro j
      rw [htail j]; simp
    have hlen : rows.length ≤ ops.size := by
      rcases Nat.lt_or_ge ops.size rows.length with h | h
      · obtain ⟨o, ho, _⟩ := ht.facts (List.getElem?_eq_getElem h)
        simp at ho
      · exact h
    obtain ⟨hl1, hl2⟩ := lateL_ok hls
    have hnopd : ∀ (i : Nat) (r : Row) r0 p0, rows[i]? = some r → r.pd ≠ some (r0, p0) := by
      intro i r r0 p0 hr hpd
      obtain ⟨o, _, hf⟩ := ht.facts hr
      rcases hf.op with ⟨_, _, _, h⟩ | ⟨_, _, _, h, _⟩
      · rw [h] at hpd; cases hpd
      · cases h
    have hdB : draw = true → lowB ops.toList 0 = true ∧ gdB (ancB ops.toList) ops.toList 0 = true ∧ raceB (ancB ops.toList) rows rows 0 = true := by
      intro hd
      rcases hdr with h | h
      · rw [hd] at h; cases h
      · exact ⟨h.1.1, h.1.2, h.2⟩
    have hlow : draw = true → ∀ i k, Waits ops i k → k < i := fun hd i k hw => lowB_ok ops.toList 0 (by simp) (hdB hd).1 i k (Nat.zero_le i) hw
    have hancr : ∀ {j k : Nat}, ((ancB ops.toList).getD j 0).testBit k = true → Reach ops j k := by
      intro j k h
      have := ancB_ok h
      simpa using this
    have hmem : ∀ u ∈ ls, ∃ j, ls[j]? = some u := fun u hu => List.mem_iff_getElem?.1 hu
    have hkinj : ∀ u ∈ ls, ∀ v ∈ ls, u.1 = v.1 → u = v := by
      intro u hu v hv h
      obtain ⟨i, hi⟩ := hmem u hu
      obtain ⟨j, hj⟩ := hmem v hv
      have e1 := (hl2 i u hi).1
      have e2 := (hl2 j v hj).1
      have : i = j := by omega
      subst this
      rw [hi] at hj; injection hj
    have hks : ∀ u ∈ ls, rows.length ≤ u.1 := by
      intro u hu
      obtain ⟨i, hi⟩ := hmem u hu
      have := (hl2 i u hi).1
      omega
    have hbox : ∀ u ∈ ls, ∀ d, u.2.2.root ≠ some d := by
      intro u hu d
      obtain ⟨i, hi⟩ := hmem u hu
      obtain ⟨_, o, _, hf⟩ := hl2 i u hi
      obtain ⟨T, z, j, r, τ, m, x, y, _, _, _, _, _, _, he, _⟩ := hf.ex
      rw [he]; intro h; cases h
    have htgt : ∀ u ∈ ls, ∃ (j : Nat) (r : Row), rows[j]? = some r ∧ r.d = u.2.1 ∧ r.ch = [] ∧ noRd rows u.2.1 = true ∧ (draw = true → ((ancB ops.toList).getD u.1 0).testBit j = true) := by
      intro u hu
      obtain ⟨i, hi⟩ := hmem u hu
      obtain ⟨e1, o, _, hf⟩ := hl2 i u hi
      obtain ⟨T, z, j, r, τ, m, x, y, _, _, _, h4, _, _, _, h7, _, _, _, h11, h12, _⟩ := hf.ex
      obtain ⟨_, g2, g3⟩ := idxR_ok h4
      simp only [Nat.sub_zero] at g2
      exact ⟨j, r, g2, (lookR_mem g3).2, h7, h11, by rw [e1]; exact h12⟩
    have hroot : ∀ u ∈ ls, ∀ t, (env0 t).root ≠ some u.2.1 := by
      intro u hu t hr
      obtain ⟨j, r, e1, e2, _⟩ := htgt u hu
      obtain ⟨F, S, hi⟩ := hi
      have := (hi.ent t).root_owner (r := u.2.1) hr
      obtain ⟨o, _, hf⟩ := ht.facts e1
      have hfr := hf.fresh
      rw [e2, this] at hfr; cases hfr
    refine wp_region_run (fun T a w => InvT P C w0 F0 H env0 (rows.map (patR T ls)) T a w) hlow ?_ ?_ ?_
    · intro T i hin hTi hdrw hnd'
      intro a w hJ
      have hwaits : ∀ k, ((ancB ops.toList).getD i 0).testBit k = true → draw = true → T k = true := by
        intro k hk hd
        obtain ⟨hcl, hw⟩ := hdrw hd
        exact reach_of_ready hcl hw (hancr hk)
      by_cases him : i < rows.length
      · have hr : rows[i]? = some rows[i] := List.getElem?_eq_getElem him
        have ho : ops[i]? = some ops[i] := Array.getElem?_eq_getElem hin
        obtain ⟨o', ho', hf⟩ := ht.facts hr
        rw [ho] at ho'; injection ho' with ho'; subst ho'
        have hgd : ∀ g b, ops[i].guard = some (g, b) → T g = true := by
          intro g b hgb
          cases hdd : draw with
          | true =>
            have := gdB_ok (hdB hdd).2.1 i ops[i] g b (by simp [hin]) hgb
            rw [Nat.zero_add] at this
            exact hwaits g this hdd
          | false =>
            rw [hnd' hdd g]
            obtain ⟨gs, hg, _⟩ := hf.guard
            rw [hgb] at hg
            simp only [guardR] at hg
            split at hg
            · rename_i q hq
              rw [List.getElem?_take] at hq
              split at hq
              · rename_i hgi; exact blt_iff.2 hgi
              · cases hq
            · cases hg
        have hag : ∀ s ∈ rows[i].rs, ∀ j q, rows[j]? = some q → q.d = s ∨ s ∈ q.used → T j = Nat.blt j i := by
          intro s hs j q hq hd
          cases hdd : draw with
          | true =>
            obtain ⟨hcl, hw⟩ := hdrw hdd
            have h1 := raceB_ok (hdB hdd).2.2 i _ hr
            rw [Nat.zero_add] at h1
            have h2 := raceB1_ok h1 j q hq (touchB_of hs hd)
            rw [Nat.zero_add] at h2
            rcases h2 with h2 | h2 | h2
            · subst h2; rw [hTi, blt_self]
            · rw [reach_of_ready hcl hw (hancr h2), blt_iff.2 (reach_lt (hlow hdd) (hancr h2))]
            · have hlt := reach_lt (hlow hdd) (hancr h2)
              have e1 : Nat.blt j i = false := by
                cases hb : Nat.blt j i
                · rfl
                · have := blt_iff.1 hb; omega
              rw [e1]
              cases hTj : T j
              · rfl
              · have := hcl.reach (hancr h2) hTj
                rw [hTi] at this; cases this
          | false => exact hnd' hdd j
        have hpat : Pat rows (rows.map (patR T ls)) i rows[i] := by
          refine ⟨by simp, fun j q q' hq hq' => ?_⟩
          simp only [List.getElem?_map, hq, Option.map_some, Option.some.injEq] at hq'
          subst hq'
          refine ⟨patR_d.1, patR_d.2.1, patR_d.2.2.1, fun hqr => patR_none (patE_none fun u hu hd => ?_)⟩
          obtain ⟨_, _, _, _, _, hno, _⟩ := htgt u hu
          exact absurd (hd ▸ hqr) (noRd_ok hno _ (List.mem_of_getElem? hr)).1
        have hr' : (rows.map (patR T ls))[i]? = some rows[i] := by
          simp only [List.getElem?_map, hr, Option.map_some, Option.some.injEq]
          refine patR_none (patE_none fun u hu hd => ?_)
          obtain ⟨j, r, e1, e2, _, _, hanc⟩ := htgt u hu
          have hij : j = i := ht.ud j i r rows[i] e1 hr (e2.trans hd)
          subst hij
          have hku := hks u hu
          cases hdd : draw with
          | true =>
            obtain ⟨hcl, hw⟩ := hdrw hdd
            cases hTu : T u.1
            · rfl
            · have := hcl.reach (hancr (hanc hdd)) hTu
              rw [hTi] at this; cases this
          | false =>
            rw [hnd' hdd u.1]
            cases hb : Nat.blt u.1 j
            · rfl
            · have := blt_iff.1 hb; omega
        have hsame : rows.map (patR (addT T i) ls) = rows.map (patR T ls) := by
          refine List.map_congr_left fun q _ => ?_
          unfold patR
          rw [patE_congr (T := addT T i) (T' := T) fun u hu _ => ?_]
          have := hks u hu
          simp [addT, nbeq_ne (show u.1 ≠ i by omega)]
        refine wpOp_mono ?_ (row_okP hC ht hr hTi ho hgd hpat hr' (fun r0 p0 hpd => absurd hpd (hnopd i _ r0 p0 hr)) hag a w hJ)
        intro a' w' h'
        show InvT P C w0 F0 H env0 (rows.map (patR (addT T i) ls)) (addT T i) a' w'
        rw [hsame]; exact h'
      · have hil : i - rows.length < ls.length := by
          rw [hl1, htd]; simp; omega
        have hls' : ls[i - rows.length]? = some ls[i - rows.length] := List.getElem?_eq_getElem hil
        obtain ⟨e1, o, e2, hf⟩ := hl2 _ _ hls'
        rw [show rows.length + (i - rows.length) = i from by omega] at e1 hf
        have ho : ops[i]? = some o := by
          rw [htail] at e2
          rw [show rows.length + (i - rows.length) = i from by omega] at e2
          exact e2
        have hxm0 : ∀ x : Nat × Nat × Ent, ls[i - rows.length]? = some x → x.1 = i → (i, x.2.1, x.2.2) ∈ ls := by
          rintro ⟨k', d', e'⟩ hx hk'
          have hk' : k' = i := hk'
          rw [← hk']; exact List.mem_of_getElem? hx
        have hxm := hxm0 _ hls' e1
        refine late_ok hC ht hnd hxm (by omega) hkinj ho hf ?_ hTi ?_ (hroot (i, ls[i - rows.length].2.1, ls[i - rows.length].2.2) hxm) (fun u hu => hbox u hu _) a w hJ
        · intro T0 a0 z hz
          have aux : ∀ (l : List Oper) (n : Nat), zFreeL (tgts ls) l = true → l[n]? = some o → zFree (tgts ls) z = true := by
            intro l
            induction l with
            | nil => intro n _ h; simp at h
            | cons p l ih =>
              intro n h1 h2
              simp only [zFreeL, Bool.and_eq_true] at h1
              cases n with
              | zero =>
                simp only [List.getElem?_cons_zero, Option.some.injEq] at h2
                subst h2
                rw [hz] at h1; exact h1.1
              | succ n => exact ih n h1.2 (by simpa using h2)
          exact aux tail _ hzf e2
        · intro j hj hanc
          cases hdd : draw with
          | true => exact hwaits j (hanc hdd) hdd
          | false => rw [hnd' hdd j]; exact blt_iff.2 (by omega)
    · intro T a w hT hJ
      refine hQ a w ?_
      have hsame : rows.map (patR T ls) = rows.map (patR (fun _ => true) ls) := by
        refine List.map_congr_left fun q _ => ?_
        unfold patR
        rw [patE_congr (T := T) (T' := fun _ => true) fun u hu _ => ?_]
        obtain ⟨i, hi⟩ := hmem u hu
        have h1 := (hl2 i u hi).1
        have h2 : i < ls.length := by
          rcases Nat.lt_or_ge i ls.length with h | h
          · exact h
          · rw [List.getElem?_eq_none h] at hi; cases hi
        rw [hl1, htd] at h2
        simp at h2
        exact hT _ (by omega)
      have hJ : InvT P C w0 F0 H env0 (rows.map (patR T ls)) T a w := hJ
      rw [hsame] at hJ
      refine hJ.doneG ?_ ?_ (fun j hj => hT j (by simp at hj; omega))
      · intro i r hr hch
        simp only [List.getElem?_map, Option.map_eq_some_iff] at hr
        obtain ⟨p, e1, rfl⟩ := hr
        rw [patR_d.2.2.2] at hch
        rw [patR_d.2.2.1]
        exact (ht.gb i e1).2 (by rw [hch]; intro x hx; cases hx)
      · intro i r hr
        simp only [List.getElem?_map, Option.map_eq_some_iff] at hr
        obtain ⟨p, e1, rfl⟩ := hr
        obtain ⟨o, _, hf⟩ := ht.facts e1
        rw [patR_d.2.2.2]
        cases hp : patE (fun _ => true) ls p.d with
        | none => rw [patR_none hp]; exact hf.cond.imp (fun h => h) (fun h => h.2)
        | some e =>
          left
          obtain ⟨u, hu, hd, _, _⟩ := patE_some hp
          obtain ⟨j, r, g1, g2, g3, _⟩ := htgt u hu
          have := ht.ud i j p r e1 g1 (hd.symm.trans g2.symm)
          subst this
          rw [e1] at g1; injection g1 with g1; subst g1
          exact g3
    · intro w' hh hos htp hout
      obtain ⟨F, S, hi⟩ := hi
      refine ⟨F, S, ?_, fun j q _ h => by cases h⟩
      have hs : ∀ (l : List Row) (k : Nat), sel l (fun _ => false) k = [] := by
        intro l
        induction l with
        | nil => intro k; rfl
        | cons r l ih => intro k; simp only [sel, cond_false]; exact ih (k + 1)
      rw [hs]
      have he : stR true [] env0 = env0 := by
        funext t
        unfold stR baseR
        simp only [usedR, cond_false, lookR]
        cases (env0 t).root <;> rfl
      rw [he]
      exact hi.world hos htp hout (by rw [hh]; exact Nat.le_refl _) (fun b _ => by rw [hh]) (fun k _ _ => by rw [hh])
  · cases h

theorem regionB_ok (hC : CtxOK P C) {stp : St → Oper → Option (Prop × St)} (hstp : StpOK P C stp) {draw : Bool} {st' : St} {c : Prop} (h : regionB C stp draw env0 ops.toList = some (c, st')) (hc : c)
    {a : Act} {w : World} (hi : Inv P C.np w0 F0 H env0 a w) (hQ : ∀ a' w', Inv P C.np w0 F0 H st' a' w' → Q .normal a' w') : RegW P ops draw Q a w := by
  unfold regionB at h
  split at h
  · rename_i r hr
    simp only [Option.some.injEq] at h
    subst h
    exact region_ok hC hstp hr hc hi hQ
  · split at h
    · rename_i r hr
      simp only [Option.some.injEq] at h
      subst h
      exact regionL_ok hC hr hc hi hQ
    · obtain ⟨F, S, hi⟩ := hi
      exact regionP_ok hC hstp h hc ⟨_, _, hi.dropAll' C.ded⟩ hQ
theorem regionA_ok (hC : CtxOK P C) {stp : St → Oper → Option (Prop × St)} (hstp : StpOK P C stp) {draw : Bool} {st' : St} {c : Prop} (h : regionA C stp draw env0 ops.toList = some (c, st')) (hc : c)
    {a : Act} {w : World} (hi : Inv P C.np w0 F0 H env0 a w) (hQ : ∀ a' w', Inv P C.np w0 F0 H st' a' w' → Q .normal a' w') : RegW P ops draw Q a w := by
  unfold regionA at h
  split at h
  · rename_i r hr
    simp only [Option.some.injEq] at h
    subst h
    exact regionB_ok hC hstp hr hc hi hQ
  · exact regionB_ok hC hstp h hc (frzA_ok hi) hQ
end
end Go.Lf
namespace Go.Lf

def dFact : (τ : Ty) → τ.den → Prop
  | .int k, n => inK k n
  | .slice e, xs => List.length xs ≤ lim ∧ ∀ x, x ∈ (xs : List e.den) → dFact e x
  | .prod a b, x => dFact a x.1 ∧ dFact b x.2
  | .arr n e, xs => List.length xs = n ∧ ∀ x, x ∈ (xs : List e.den) → dFact e x
  | .bool, _ => True
  | .unit, _ => True
  | .str, s => List.length s ≤ lim
  | .abs _, _ => True

theorem Own.fact {F : NSet} {w : World} : ∀ {τ : Ty} {m : Md} {S : NSet} {cs : List Value} {x : τ.den}, Own F w τ m S cs x → dFact τ x
  | .int _, _, _, _, _, h => h.2
  | .bool, _, _, _, _, _ => trivial
  | .str, _, _, _, _, h => h.2
  | .abs _, _, _, _, _, _ => trivial
  | .unit, _, _, _, _, _ => trivial
  | .prod a b, m, S, cs, x, h => by
    obtain ⟨c1, c2, S1, S2, _, _, _, _, h1, h2⟩ := h
    exact ⟨Own.fact h1, Own.fact h2⟩
  | .slice e, m, S, cs, xs, h => by
    obtain ⟨ao, cap, _, hc, hl, h⟩ := h
    refine ⟨hl, ?_⟩
    intro x hx
    obtain ⟨i, hi⟩ := List.mem_iff_getElem?.1 hx
    cases m with
    | own me =>
      rcases h with ⟨_, h⟩ | ⟨b, off, row, T, Si, _, _, _, _, _, _, _, he⟩
      · have hl0 : xs.length ≤ 0 := by omega
        have := List.length_eq_zero_iff.1 (Nat.le_zero.1 hl0)
        rw [this] at hx; cases hx
      · exact Own.fact (he i x hi)
    | shr =>
      rcases h with h | ⟨b, off, row, T, fr, _, _, _, _, he⟩
      · rw [h] at hx; cases hx
      · exact Own.fact (he i x hi)
    | pair _ _ =>
      rcases h with h | ⟨b, off, row, T, fr, _, _, _, _, he⟩
      · rw [h] at hx; cases hx
      · exact Own.fact (he i x hi)
  | .arr n e, m, S, cs, xs, h => by
    obtain ⟨hn, _, Si, _, _, he⟩ := h
    refine ⟨hn, ?_⟩
    intro x hx
    obtain ⟨i, hi⟩ := List.mem_iff_getElem?.1 hx
    exact Own.fact (he i x hi)

theorem OwnV.fact {F S : NSet} {w : World} {τ : Ty} {m : Md} {v : Value} {x : τ.den} (h : OwnV F w τ m S v x) : dFact τ x := by
  obtain ⟨cs, _, h⟩ := h; exact h.fact

def entFact : Ent → Prop
  | .shr τ x => dFact τ x
  | .own τ _ x => dFact τ x
  | .box τ _ x => dFact τ x
  | .saddr τ x => dFact τ x
  | .full e x => dFact (.slice e) x
  | _ => True

theorem EntOK.fact {P : Program} {F : NSet} {w : World} {env : St} {V : Nat → Value} {S : Nat → NSet} {t : Nat} : ∀ {e : Ent}, EntOK P F w env V S t e → entFact e
  | .shr _ _, h => OwnV.fact h
  | .own _ _ _, ⟨_, _, _, h⟩ => h.2.2.fact
  | .box _ _ _, ⟨_, _, _, h⟩ => h.2.2.fact
  | .saddr _ _, ⟨_, _, _, _, _, _, _, _, _, h⟩ => h.fact
  | .full _ _, ⟨_, _, h⟩ => h.fact
  | .dead, _ => trivial
  | .sub _ _, _ => trivial
  | .addr _ _, _ => trivial
  | .pend _ _ _ _ _, _ => trivial
  | .rd _ _ _, _ => trivial
  | .raddr _ _ _, _ => trivial
  | .nilS, _ => trivial
  | .fn _ _ _, _ => trivial
  | .tup _ _ _, _ => trivial
  | .pp _, _ => trivial
  | .nb _ _, _ => trivial
  | .stup _ _, _ => trivial

def factsL : List (Nat × Ent) → List Nat → Prop
  | [], _ => True
  | (k, e) :: l, ks => (bif memN ks k then True else entFact e) ∧ factsL l (k :: ks)

theorem factsL_ok {P : Program} {N : NP} {w0 : World} {F0 H : NSet} {env : St} {a : Act} {w : World} (hi : Inv P N w0 F0 H env a w) {f : List (Nat × Ent)} (hf : ∀ t e, look f t = some e → env t = e) :
    ∀ (l : List (Nat × Ent)) (ks : List Nat), (∀ t e, memN ks t = false → look l t = some e → look f t = some e) → factsL l ks
  | [], _, _ => trivial
  | (k, e) :: l, ks, h => by
    obtain ⟨F, S, hi⟩ := hi
    refine ⟨?_, factsL_ok ⟨F, S, hi⟩ hf l (k :: ks) ?_⟩
    · cases hm : memN ks k
      · have h1 := h k e hm (by simp [look])
        have := hi.ent k
        rw [hf k e h1] at this
        exact this.fact
      · trivial
    · intro t e' ht hl
      simp only [memN] at ht
      cases hk : Nat.beq k t
      · rw [hk] at ht
        exact h t e' ht (by simp only [look, hk, cond_false]; exact hl)
      · rw [hk] at ht; cases ht

def factsK : (ks : List AK) → kdens ks → Prop
  | [], _ => True
  | .val τ :: ks, x => dFact τ x.1 ∧ factsK ks x.2
  | .sptr τ :: ks, x => dFact τ x.1 ∧ factsK ks x.2
  | .fn _ _ :: ks, x => factsK ks x.2

theorem factsK_ok {P : Program} {F : NSet} {w : World} : ∀ {ks : List AK} {vs : List Value} {x : kdens ks}, ArgsOK P F w ks vs x → factsK ks x
  | [], _, _, _ => trivial
  | .val τ :: ks, vs, x, ⟨v, r, _, h1, h2⟩ => ⟨OwnV.fact h1, factsK_ok h2⟩
  | .sptr τ :: ks, vs, x, ⟨v, r, _, h1, h2⟩ => by
    obtain ⟨_, _, _, _, _, _, _, _, _, h⟩ := h1
    exact ⟨h.fact, factsK_ok h2⟩
  | .fn _ _ :: ks, vs, x, ⟨v, r, _, _, h2⟩ => (factsK_ok h2 : factsK ks x.2)
end Go.Lf
namespace Go.Lf

/-- It copies a slot, or a part of a tuple. -/
def floB (o : Oper) : Bool := (match o.guard with
  | none => true
  | some _ => false) && (match o.op, o.dst with
  | .move (.tmp _), some _ => true
  | .extract (.tmp _) _, some _ => true
  | _, _ => false)
def addE (f : Nat) (o : Oper) : Oper := { o with after := o.after.push ⟨f, .data⟩ }
/-- All that it waits for is waited for. -/
def predB (o : Oper) (m : Nat) : Bool := o.after.toList.all fun e => bif Region.binds .any e then m.testBit e.on else true
/-- An edge is added. -/
def addB (anc : List Nat) (o : Oper) (f j : Nat) : Bool := Nat.blt f j && !(anc.getD j 0).testBit f && predB o (anc.getD j 0)
def hoistL (anc : List Nat) (of : Oper) (f : Nat) : List Oper → Nat → List Oper
  | [], _ => []
  | o :: l, j => (bif addB anc of f j then addE f o else o) :: hoistL anc of f l (j + 1)
def selB (o : Oper) : Bool := match o.op with
  | .select _ _ => false
  | _ => true
/-- Whatever does not wait for it, nor it for that, does not touch what it touches. -/
def freeB (ops : Array Oper) (anc : List Nat) (of : Oper) (f : Nat) : List Oper → Nat → Bool
  | [], _ => true
  | o :: l, j => selB o && (Nat.beq j f || (anc.getD j 0).testBit f || (anc.getD f 0).testBit j || of.apart ops o) && freeB ops anc of f l (j + 1)
def hoist1 (ops : List Oper) (f : Nat) : List Oper := match ops[f]? with
  | some of => bif floB of && freeB ops.toArray (ancB ops) of f ops 0 then hoistL (ancB ops) of f ops 0 else ops
  | none => ops
def hoistN : Nat → List Oper → List Oper
  | 0, ops => ops
  | n + 1, ops => hoist1 (hoistN n ops) n
def hoist (ops : List Oper) : List Oper := hoistN ops.length ops

section
variable {P : Program} {Q : Exit → Act → World → Prop}

theorem hoistL_get {anc : List Nat} {of : Oper} {f : Nat} : ∀ {l : List Oper} {k : Nat} (j : Nat), (hoistL anc of f l k)[j]? = (l[j]?).map fun o => bif addB anc of f (k + j) then addE f o else o
  | [], k, j => by simp [hoistL]
  | o :: l, k, 0 => by simp [hoistL]
  | o :: l, k, j + 1 => by
    simp only [hoistL, List.getElem?_cons_succ]
    rw [hoistL_get (l := l) (k := k + 1) j, show k + 1 + j = k + (j + 1) by omega]

theorem freeB_ok {ops : Array Oper} {anc : List Nat} {of : Oper} {f : Nat} : ∀ {l : List Oper} {k : Nat}, freeB ops anc of f l k = true → ∀ j o, l[j]? = some o →
    selB o = true ∧ (k + j = f ∨ (anc.getD (k + j) 0).testBit f = true ∨ (anc.getD f 0).testBit (k + j) = true ∨ of.apart ops o = true)
  | [], _, _, j, o, h => by simp at h
  | o :: l, k, h, 0, o', ho => by
    simp only [List.getElem?_cons_zero, Option.some.injEq] at ho
    subst ho
    simp only [freeB, Bool.and_eq_true, Bool.or_eq_true] at h
    refine ⟨h.1.1, ?_⟩
    rcases h.1.2 with ((h1 | h1) | h1) | h1
    · exact .inl (Nat.eq_of_beq_eq_true h1)
    · exact .inr (.inl h1)
    · exact .inr (.inr (.inl h1))
    · exact .inr (.inr (.inr h1))
  | o :: l, k, h, j + 1, o', ho => by
    simp only [List.getElem?_cons_succ] at ho
    simp only [freeB, Bool.and_eq_true] at h
    have := freeB_ok h.2 j o' ho
    rw [show k + 1 + j = k + (j + 1) by omega] at this
    exact this

theorem selB_ok {o : Oper} (h : selB o = true) : ∀ cs b, o.op ≠ .select cs b := by
  intro cs b he
  rw [selB, he] at h; cases h

/-- No other end than the normal one. -/
def onlyN (K : Act → World → Prop) : Exit → Act → World → Prop := fun e a w => match e with
  | .normal => K a w
  | _ => False

theorem flo_step {ops : Array Oper} {f : Nat} {of : Oper} (hf : ops[f]? = some of) (hb : floB of = true) {K : Act → World → Prop} {K0 : Act → World → Prop} {a : Act} {w : World} (h : wpOp P ops (onlyN K0) f K a w) :
    ∃ v, Yields P ops of v a ∧ K (a.put of.dst v) w := by
  unfold wpOp at h
  simp only [hf] at h
  unfold floB at hb
  simp only [Bool.and_eq_true] at hb
  obtain ⟨hg, ho⟩ := hb
  have hgn : of.guard = none := by
    cases hgg : of.guard with
    | none => rfl
    | some x => rw [hgg] at hg; cases hg
  have hw : Region.wanted of (yielded ops a.tmps) = true := by simp [Region.wanted, hgn]
  rw [if_pos hw] at h
  have hlet : ¬ LetsOut (onlyN K0) := by rintro ⟨_, _, h⟩; exact h
  rcases h with h | ⟨_, h⟩
  · unfold Oper.wp at h
    split at ho
    · rename_i x d hop hd
      have hv : ∀ w, (execOp a.eval of).run P w = .ok (.value (a.eval (.tmp x))) w := by
        intro w; simp [execOp, hop]
      rw [hv, Oper.upon_value] at h
      exact ⟨_, .inl ⟨hw, hv⟩, h⟩
    · rename_i x k d hop hd
      have hcase : (∃ v, ∀ w, (execOp a.eval of).run P w = .ok (.value v) w) ∨ ∀ w, ∃ s w', (execOp a.eval of).run P w = .halt s w' ∧ ∀ v, s ≠ .panic v := by
        simp only [execOp, hop]
        cases hx : a.eval (.tmp x) <;> simp [Instr.extract, stuck]
        rename_i vs
        cases hvs : vs[k]? <;> simp [stuck]
      rcases hcase with ⟨v, hv⟩ | hs
      · rw [hv, Oper.upon_value] at h
        exact ⟨_, .inl ⟨hw, hv⟩, h⟩
      · obtain ⟨s, w', h1, h2⟩ := hs w
        rw [h1] at h
        cases s <;> first | exact h.elim | exact absurd rfl (h2 _)
    · cases ho
  · exact absurd h hlet

section core
variable {ops ops' : Array Oper} {X : Nat → Bool} {f : Nat} {of : Oper} {K0 : Act → World → Prop}

theorem yielded_add (hmap : ∀ i, ops'[i]? = (ops[i]?).map fun o => bif X i then addE f o else o) (t : Array Value) : yielded ops' t = yielded ops t := by
  funext j
  unfold yielded
  rw [hmap j]
  cases ops[j]? with
  | none => rfl
  | some o => simp only [Option.map_some, Option.bind_some]; cases X j <;> rfl

theorem wpOp_add (hmap : ∀ i, ops'[i]? = (ops[i]?).map fun o => bif X i then addE f o else o) {i : Nat} {K : Act → World → Prop} {a : Act} {w : World} (h : wpOp P ops' Q i K a w) : wpOp P ops Q i K a w := by
  unfold wpOp at h ⊢
  rw [yielded_add hmap, hmap i] at h
  cases ho : ops[i]? with
  | none => rw [ho] at h; exact h
  | some o =>
    rw [ho] at h
    simp only [Option.map_some] at h ⊢
    cases hx : X i
    · rw [hx] at h; exact h
    · rw [hx] at h; exact h

theorem hoist_core (hmap : ∀ i, ops'[i]? = (ops[i]?).map fun o => bif X i then addE f o else o) (hf : ops[f]? = some of) (hb : floB of = true)
    (hfree : ∀ j o, ops[j]? = some o → selB o = true ∧ (j = f ∨ Reach ops j f ∨ Reach ops f j ∨ of.apart ops o = true)) (hX : ∀ j, X j = true → j ≠ f ∧ ∀ k, Waits ops f k → Reach ops j k) :
    ∀ n, (∀ (listed : Array Bool) (a : Act) (w : World), listed.size = ops.size → Closed ops (fun j => listed.getD j false) → (listed.getD f false = true ∨ ¬ ∀ k, Waits ops f k → listed.getD k false = true) →
        wpAny P .any ops' (onlyN K0) n listed a w → wpAny P .any ops (onlyN K0) n listed a w) ∧
      ∀ (listed : Array Bool) (a : Act) (w : World) (v : Value), listed.size = ops.size → Closed ops (fun j => listed.getD j false) → listed.getD f false = false → (∀ k, Waits ops f k → listed.getD k false = true) → Yields P ops of v a →
        wpAny P .any ops' (onlyN K0) n (listed.setIfInBounds f true) (a.put of.dst v) w → wpAny P .any ops (onlyN K0) (n + 1) listed a w := by
  have hXf : X f = false := by
    cases hx : X f
    · rfl
    · exact absurd rfl (hX f hx).1
  have hf' : ops'[f]? = some of := by rw [hmap, hf, hXf]; rfl
  have hflt : f < ops.size := by
    rcases Nat.lt_or_ge f ops.size with h | h
    · exact h
    · rw [Array.getElem?_eq_none h] at hf; cases hf
  have hYs : ∀ {v : Value} {a : Act}, Yields P ops' of v a → Yields P ops of v a := by
    intro v a h
    unfold Yields at h ⊢
    rw [yielded_add hmap] at h; exact h
  -- what is ready
  have hpred : ∀ {listed : Array Bool} {i : Nat}, i ∈ Region.ready .any ops listed → ∀ k, Waits ops i k → listed.getD k false = true := by
    rintro listed i hi k ⟨o, e, g1, g2, g3, rfl⟩
    obtain ⟨_, o', ho, h2⟩ := mem_ready.1 hi
    rw [g1] at ho; injection ho with ho; subst ho
    exact h2 e g2 g3
  have hmk : ∀ {listed : Array Bool} {i : Nat}, i ∈ Region.ready .any ops listed → (X i = true → listed.getD f false = true) → i ∈ Region.ready .any ops' listed := by
    intro listed i hi hx
    obtain ⟨h1, o, ho, h2⟩ := mem_ready.1 hi
    refine mem_ready.2 ⟨h1, _, by rw [hmap, ho]; rfl, ?_⟩
    intro e he hbd
    cases hxi : X i
    · rw [hxi] at he; exact h2 e he hbd
    · rw [hxi] at he
      simp only [cond_true, addE, Array.mem_push] at he
      rcases he with he | rfl
      · exact h2 e he hbd
      · exact hx hxi
  have hsize : ∀ {listed : Array Bool} (i : Nat), listed.size = ops.size → (listed.setIfInBounds i true).size = ops.size := by
    intro listed i h; simpa using h
  have hclose : ∀ {listed : Array Bool} {i : Nat}, listed.size = ops.size → Closed ops (fun j => listed.getD j false) → i ∈ Region.ready .any ops listed → Closed ops (fun j => (listed.setIfInBounds i true).getD j false) := by
    intro listed i hs hc hi j k hj hw
    by_cases hji : i = j
    · subst hji; exact getD_set_true (hpred hi k hw)
    · simp only at hj
      rw [getD_set_ne false hji] at hj
      exact getD_set_true (hc j k hj hw)
  intro n
  induction n using Nat.strongRecOn with
  | _ n ih =>
    have hA : ∀ (listed : Array Bool) (a : Act) (w : World), listed.size = ops.size → Closed ops (fun j => listed.getD j false) → (listed.getD f false = true ∨ ¬ ∀ k, Waits ops f k → listed.getD k false = true) →
        wpAny P .any ops' (onlyN K0) n listed a w → wpAny P .any ops (onlyN K0) n listed a w := by
      intro listed a w hs hc hnp h
      have hR : ∀ i, i ∈ Region.ready .any ops listed → i ∈ Region.ready .any ops' listed := by
        intro i hi
        refine hmk hi fun hx => ?_
        rcases hnp with h | h
        · exact h
        · exact absurd (fun k hk => reach_of_ready hc (hpred hi) ((hX i hx).2 k hk)) h
      have hnil : Region.ready .any ops' listed = [] → Region.ready .any ops listed = [] := by
        intro h0
        refine List.eq_nil_iff_forall_not_mem.2 fun i hi => ?_
        have := hR i hi
        rw [h0] at this; cases this
      cases n with
      | zero => exact ⟨hnil h.1, h.2⟩
      | succ n =>
        have hnil2 : Region.ready .any ops listed = [] → Region.ready .any ops' listed = [] := by
          intro h0
          refine List.eq_nil_iff_forall_not_mem.2 fun i hi => ?_
          have hi' : i ∈ Region.ready .any ops listed := by
            obtain ⟨h1, o, ho, h2⟩ := mem_ready.1 hi
            rw [hmap] at ho
            cases hoi : ops[i]? with
            | none => rw [hoi] at ho; cases ho
            | some o' =>
              rw [hoi] at ho
              simp only [Option.map_some, Option.some.injEq] at ho
              refine mem_ready.2 ⟨h1, o', hoi, fun e he hbd => h2 e ?_ hbd⟩
              rw [← ho]
              cases X i
              · exact he
              · simp only [cond_true, addE, Array.mem_push]; exact .inl he
          rw [h0] at hi'; cases hi'
        refine ⟨fun h0 => h.1 (hnil2 h0), fun i hi => ?_⟩
        refine wpOp_mono ?_ (wpOp_add hmap (h.2 i (hR i hi)))
        intro a' w' h'
        have hs1 := hsize (listed := listed) i hs
        have hc1 := hclose hs hc hi
        by_cases hp : (listed.setIfInBounds i true).getD f false = true ∨ ¬ ∀ k, Waits ops f k → (listed.setIfInBounds i true).getD k false = true
        · exact (ih n (by omega)).1 _ _ _ hs1 hc1 hp h'
        · have hp1 : (listed.setIfInBounds i true).getD f false = false := by
            cases hh : (listed.setIfInBounds i true).getD f false
            · rfl
            · exact absurd (.inl hh) hp
          have hp2 : ∀ k, Waits ops f k → (listed.setIfInBounds i true).getD k false = true := Classical.not_not.1 fun hh => hp (.inr hh)
          have hrf : f ∈ Region.ready .any ops' (listed.setIfInBounds i true) := by
            refine mem_ready.2 ⟨?_, of, hf', fun e he hbd => hp2 _ ⟨of, e, hf, he, hbd, rfl⟩⟩
            have hl : f < (listed.setIfInBounds i true).size := by rw [hs1]; exact hflt
            simp only [Array.getD_eq_getD_getElem?, Array.getElem?_eq_getElem hl, Option.getD_some] at hp1 ⊢
            exact hp1
          cases n with
          | zero => rw [h'.1] at hrf; cases hrf
          | succ m =>
            obtain ⟨v, hy, h2⟩ := flo_step hf' hb (h'.2 f hrf)
            exact (ih m (by omega)).2 _ _ _ v hs1 hc1 hp1 hp2 (hYs hy) h2
    refine ⟨hA, ?_⟩
    intro listed a w v hs hc hfl hfp hy h
    have hrf : f ∈ Region.ready .any ops listed := by
      refine mem_ready.2 ⟨?_, of, hf, fun e he hbd => hfp _ ⟨of, e, hf, he, hbd, rfl⟩⟩
      have hl : f < listed.size := by rw [hs]; exact hflt
      simp only [Array.getD_eq_getD_getElem?, Array.getElem?_eq_getElem hl, Option.getD_some] at hfl ⊢
      exact hfl
    refine ⟨fun h0 => (by rw [h0] at hrf; cases hrf), fun i hi => ?_⟩
    have hsf : (listed.setIfInBounds f true).getD f false = true := by
      have hl : f < listed.size := by rw [hs]; exact hflt
      simp [hl]
    by_cases hif : i = f
    · subst hif
      exact Yields.wpOp hf hy (hA _ _ _ (hsize _ hs) (hclose hs hc hrf) (.inl hsf) h)
    · have hri : i ∈ Region.ready .any ops' (listed.setIfInBounds f true) := hmk (ready_mono hi hif) fun _ => hsf
      cases n with
      | zero => rw [h.1] at hri; cases hri
      | succ m =>
        obtain ⟨hl, oi, ho, _⟩ := mem_ready.1 hi
        obtain ⟨g1, g2⟩ := hfree i oi ho
        have hap : of.apart ops oi = true := by
          rcases g2 with g2 | g2 | g2 | g2
          · exact absurd g2 hif
          · have := reach_of_ready hc (hpred hi) g2
            rw [hfl] at this; cases this
          · have h1 := reach_of_ready hc hfp g2
            have hlt : i < listed.size := by
              rw [hs]
              rcases Nat.lt_or_ge i ops.size with h | h
              · exact h
              · rw [Array.getElem?_eq_none h] at ho; cases ho
            simp only [Array.getD_eq_getD_getElem?, Array.getElem?_eq_getElem hlt, Option.getD_some] at hl h1
            rw [hl] at h1; cases h1
          · exact g2
        have hsf0 := selB_ok (hfree f of hf).1
        refine wpOp_mono ?_ (wpOp_put ho hap hsf0 (selB_ok g1) (fun c a w h => h) hy (wpOp_add hmap (h.2 i hri)))
        rintro a' w' ⟨hy', h'⟩
        have hcomm : (listed.setIfInBounds f true).setIfInBounds i true = (listed.setIfInBounds i true).setIfInBounds f true := Array.setIfInBounds_comm _ _ (fun e => hif e.symm)
        rw [hcomm] at h'
        refine (ih m (by omega)).2 _ _ _ v (hsize _ hs) (hclose hs hc hi) ?_ (fun k hk => getD_set_true (hfp k hk)) hy' h'
        rw [getD_set_ne false hif]; exact hfl
end core

theorem hoist1_ok {ops : List Oper} {f : Nat} {K0 : Act → World → Prop} {a : Act} {w : World} (h : RegW P (hoist1 ops f).toArray true (onlyN K0) a w) : RegW P ops.toArray true (onlyN K0) a w := by
  unfold hoist1 at h
  split at h
  · rename_i of hf
    cases hb : (floB of && freeB ops.toArray (ancB ops) of f ops 0)
    · rw [hb] at h; exact h
    rw [hb] at h
    simp only [cond_true] at h
    simp only [Bool.and_eq_true] at hb
    have hlen : (hoistL (ancB ops) of f ops 0).toArray.size = ops.toArray.size := by
      have : ∀ (l : List Oper) k, (hoistL (ancB ops) of f l k).length = l.length := by
        intro l; induction l with
        | nil => intro k; rfl
        | cons o l ih => intro k; simp [hoistL, ih]
      simpa using this ops 0
    have hmap : ∀ i, (hoistL (ancB ops) of f ops 0).toArray[i]? = (ops.toArray[i]?).map fun o => bif addB (ancB ops) of f i then addE f o else o := by
      intro i
      have := hoistL_get (anc := ancB ops) (of := of) (f := f) (l := ops) (k := 0) i
      simpa using this
    have hf' : ops.toArray[f]? = some of := by simpa using hf
    have hfree : ∀ j o, ops.toArray[j]? = some o → selB o = true ∧ (j = f ∨ Reach ops.toArray j f ∨ Reach ops.toArray f j ∨ of.apart ops.toArray o = true) := by
      intro j o ho
      obtain ⟨g1, g2⟩ := freeB_ok hb.2 j o (by simpa using ho)
      rw [Nat.zero_add] at g2
      exact ⟨g1, g2.imp id (Or.imp ancB_ok (Or.imp ancB_ok id))⟩
    have hX : ∀ j, addB (ancB ops) of f j = true → j ≠ f ∧ ∀ k, Waits ops.toArray f k → Reach ops.toArray j k := by
      intro j hj
      simp only [addB, Bool.and_eq_true] at hj
      refine ⟨fun e => by rw [e, blt_self] at hj; simp at hj, ?_⟩
      rintro k ⟨o, e, q1, q2, q3, rfl⟩
      rw [hf'] at q1; injection q1 with q1; subst q1
      have := List.all_eq_true.1 hj.2 e (by simpa using q2)
      rw [q3] at this
      exact ancB_ok this
    have hcore := fun n => hoist_core (P := P) (K0 := K0) hmap hf' hb.1 hfree hX n
    · show wpAny P .any ops.toArray (onlyN K0) ops.toArray.size (Array.replicate ops.toArray.size false) a _
      have h : wpAny P .any (hoistL (ancB ops) of f ops 0).toArray (onlyN K0) (hoistL (ancB ops) of f ops 0).toArray.size (Array.replicate (hoistL (ancB ops) of f ops 0).toArray.size false) a { w with drawn := w.drawn + 1 } := h
      rw [hlen] at h
      have hrep : ∀ j, (Array.replicate ops.toArray.size false).getD j false = false := by
        intro j; simp [Array.getD_eq_getD_getElem?, Array.getElem?_replicate]; split <;> rfl
      have hcl : Closed ops.toArray (fun j => (Array.replicate ops.toArray.size false).getD j false) := by
        intro i k hi; simp only [hrep] at hi; cases hi
      by_cases hp : ∀ k, Waits ops.toArray f k → (Array.replicate ops.toArray.size false).getD k false = true
      · -- it can be executed at once
        have hXf : addB (ancB ops) of f f = false := by simp [addB, blt_self]
        have hrf : f ∈ Region.ready .any (hoistL (ancB ops) of f ops 0).toArray (Array.replicate ops.toArray.size false) := by
          have hflt : f < ops.toArray.size := by
            rcases Nat.lt_or_ge f ops.toArray.size with h | h
            · exact h
            · rw [Array.getElem?_eq_none h] at hf'; cases hf'
          refine mem_ready.2 ⟨?_, of, by rw [hmap, hf', hXf]; rfl, fun e he hbd => hp _ ⟨of, e, hf', he, hbd, rfl⟩⟩
          simp [Array.getD_eq_getD_getElem?, Array.getElem?_replicate]
          rw [if_pos (by simpa using hflt)]; rfl
        generalize hn : ops.toArray.size = n at *
        cases n with
        | zero =>
          rw [h.1] at hrf; cases hrf
        | succ m =>
          have hXf' : (hoistL (ancB ops) of f ops 0).toArray[f]? = some of := by rw [hmap, hf', hXf]; rfl
          obtain ⟨v, hy, h2⟩ := flo_step hXf' hb.1 (h.2 f hrf)
          have hy' : Yields P ops.toArray of v a := by
            unfold Yields at hy ⊢
            rw [yielded_add hmap] at hy; exact hy
          exact (hcore m).2 _ _ _ v (by simp) hcl (hrep f) hp hy' h2
      · exact (hcore _).1 _ _ _ (by simp) hcl (.inr hp) h
  · exact h

theorem hoistN_ok {ops : List Oper} {K0 : Act → World → Prop} {a : Act} {w : World} : ∀ n, RegW P (hoistN n ops).toArray true (onlyN K0) a w → RegW P ops.toArray true (onlyN K0) a w
  | 0, h => h
  | n + 1, h => hoistN_ok n (hoist1_ok h)
/-- A region may be executed with its copies made as soon as they can be. -/
theorem hoist_ok {ops : List Oper} {K0 : Act → World → Prop} {a : Act} {w : World} (h : RegW P (hoist ops).toArray true (onlyN K0) a w) : RegW P ops.toArray true (onlyN K0) a w := hoistN_ok _ h
end
end Go.Lf
namespace Go.Lf

/-- What is known may be replaced by less. -/
def leE : Ent → Ent → Prop
  | _, .dead => True
  | .shr τ x, .shr σ y => match castD (τ := τ) (σ := σ) x with
    | some z => z = y
    | none => False
  | .full e x, .shr σ y => match castD (τ := .slice e) (σ := σ) x with
    | some z => z = y
    | none => False
  | .full e x, .full e' y => match castD (τ := .slice e) (σ := .slice e') x with
    | some z => z = y
    | none => False
  | .own τ m x, .own σ m' y => bif decide (m = m') then (match castD (τ := τ) (σ := σ) x with
    | some z => z = y
    | none => False) else False
  | .box τ m x, .box σ m' y => bif decide (m = m') then (match castD (τ := τ) (σ := σ) x with
    | some z => z = y
    | none => False) else False
  | .saddr τ x, .saddr σ y => match castD (τ := τ) (σ := σ) x with
    | some z => z = y
    | none => False
  | .rd r τ x, .rd r' σ y => bif Nat.beq r r' then (match castD (τ := τ) (σ := σ) x with
    | some z => z = y
    | none => False) else False
  | .raddr r τ x, .raddr r' σ y => bif Nat.beq r r' then (match castD (τ := τ) (σ := σ) x with
    | some z => z = y
    | none => False) else False
  | .sub r p, .sub r' p' => bif Nat.beq r r' then p = p' else False
  | .addr r p, .addr r' p' => bif Nat.beq r r' then p = p' else False
  | .nilS, .nilS => True
  | .nilS, .shr (.slice _) y => y = []
  | .nilS, .own (.slice _) (.own _) y => y = []
  | .fn A R g, .fn A' R' g' => ∃ (h1 : A = A') (h2 : R = R'), (h1 ▸ h2 ▸ g : Fun A' R') = g'
  | .pp r, .pp r' => bif Nat.beq r r' then True else False
  | _, _ => False

theorem leE_cases {e e' : Ent} (h : leE e e') : e' = .dead ∨ e' = e ∨ (e = .nilS ∧ ∃ τ, e' = .shr (.slice τ) ([] : List τ.den)) ∨ (e = .nilS ∧ ∃ τ me, e' = .own (.slice τ) (.own me) ([] : List τ.den)) ∨
    ∃ e0 x, e = .full e0 x ∧ e' = .shr (.slice e0) x := by
  have aux : ∀ {τ σ : Ty} {x : τ.den} {y : σ.den} {f : (τ : Ty) → τ.den → Ent}, (match castD (τ := τ) (σ := σ) x with | some z => z = y | none => False) → f σ y = f τ x := by
    intro τ σ x y f h
    split at h
    · rename_i z hz
      have := castD_some hz
      injection this with e1 e2
      subst e1; cases e2; subst h; rfl
    · cases h
  unfold leE at h
  split at h
  · exact .inl rfl
  · exact .inr (.inl (aux (f := .shr) h))
  · rename_i e x σ y
    right; right; right; right
    split at h
    · rename_i z hz
      have := castD_some hz
      injection this with e1 e2
      subst e1; cases e2; subst h
      exact ⟨e, x, rfl, rfl⟩
    · cases h
  · rename_i e x e' y
    right; left
    split at h
    · rename_i z hz
      have := castD_some hz
      injection this with e1 e2
      injection e1 with e1
      subst e1; cases e2; subst h; rfl
    · cases h
  · rename_i τ m x σ m' y
    cases hm : decide (m = m')
    · rw [hm] at h; cases h
    · rw [hm] at h
      have := of_decide_eq_true hm
      subst this
      exact .inr (.inl (aux (f := fun τ x => .own τ m x) h))
  · rename_i τ m x σ m' y
    cases hm : decide (m = m')
    · rw [hm] at h; cases h
    · rw [hm] at h
      have := of_decide_eq_true hm
      subst this
      exact .inr (.inl (aux (f := fun τ x => .box τ m x) h))
  · exact .inr (.inl (aux (f := .saddr) h))
  · rename_i r τ x r' σ y
    cases hm : Nat.beq r r'
    · rw [hm] at h; cases h
    · rw [hm] at h
      have := nbeq_iff.1 hm
      subst this
      exact .inr (.inl (aux (f := fun τ x => .rd r τ x) h))
  · rename_i r τ x r' σ y
    cases hm : Nat.beq r r'
    · rw [hm] at h; cases h
    · rw [hm] at h
      have := nbeq_iff.1 hm
      subst this
      exact .inr (.inl (aux (f := fun τ x => .raddr r τ x) h))
  · rename_i r p r' p'
    cases hm : Nat.beq r r'
    · rw [hm] at h; cases h
    · rw [hm] at h
      have := nbeq_iff.1 hm
      subst this
      simp only [cond_true] at h
      subst h
      exact .inr (.inl rfl)
  · rename_i r p r' p'
    cases hm : Nat.beq r r'
    · rw [hm] at h; cases h
    · rw [hm] at h
      have := nbeq_iff.1 hm
      subst this
      simp only [cond_true] at h
      subst h
      exact .inr (.inl rfl)
  · exact .inr (.inl rfl)
  · rename_i τ y
    subst h
    exact .inr (.inr (.inl ⟨rfl, τ, rfl⟩))
  · rename_i τ me y
    subst h
    exact .inr (.inr (.inr (.inl ⟨rfl, τ, me, rfl⟩)))
  · obtain ⟨h1, h2, h⟩ := h
    subst h1; subst h2; subst h
    exact .inr (.inl rfl)
  · rename_i r r'
    cases hm : Nat.beq r r'
    · rw [hm] at h; cases h
    · have := nbeq_iff.1 hm
      subst this
      exact .inr (.inl rfl)
  · cases h

theorem Inv0.le {P : Program} {N : NP} {w0 : World} {F0 H : NSet} {env : St} {a : Act} {w : World} {F : NSet} {S : Nat → NSet} (hi : Inv0 P N w0 F0 H env a w F S) {env2 : St}
    (h1 : ∀ t, leE (env t) (env2 t)) (h2 : ∀ t r, (env2 t).root = some r → (env2 r).isOwner = true) : Inv0 P N w0 F0 H env2 a w F S := by
  refine ⟨hi.os, hi.tape, hi.output, hi.size, hi.block, hi.fb, hi.f0, hi.fn, hi.sb, hi.sd, ?_, hi.defers, hi.slots⟩
  intro t
  have ht := hi.ent t
  rcases leE_cases (h1 t) with h | h | ⟨h, τ, h'⟩ | ⟨h, τ, me, h'⟩ | ⟨e0, x, h, h'⟩
  · rw [h]; trivial
  · rw [h]
    refine EntOK.keep (fun _ h => h) (fun _ _ => rfl) rfl ?_ (fun _ => ⟨rfl, fun _ _ => rfl, fun b h1 h2 => absurd h1 h2⟩) ht
    intro r hr
    refine ⟨fun ho => ?_, fun _ => rfl, rfl, fun _ _ => rfl, fun b h1 h2 => absurd h1 h2, fun b hb => (hi.sb r b hb).2.2⟩
    have ho2 := h2 t r (by rw [h]; exact hr)
    rcases leE_cases (h1 r) with k | k | ⟨k, _, k'⟩ | ⟨k, _, _, k'⟩ | ⟨_, _, k, k'⟩
    · rw [k] at ho2; cases ho2
    · exact k
    · rw [k] at ho; cases ho
    · rw [k] at ho; cases ho
    · rw [k] at ho; cases ho
  · rw [h] at ht
    rw [h']
    have ht : a.tmps.getD t undef = .slice none 0 0 := ht
    show OwnV F w (.slice τ) .shr none' (a.tmps.getD t undef) ([] : List τ.den)
    rw [ht]; exact .nil _ _ _ _ _
  · rw [h] at ht
    rw [h']
    have ht : a.tmps.getD t undef = .slice none 0 0 := ht
    obtain ⟨cs, q1, q2⟩ := OwnV.nil F w τ (.own me) (S t)
    exact ⟨.val cs, S t, cs, .inl ⟨rfl, rfl, rfl, ht.trans q1⟩, rfl, q2⟩
  · rw [h] at ht
    rw [h']
    obtain ⟨_, _, ht⟩ := ht
    exact ht

/-- A loop's invariant: what is known at its head, for some x. -/
structure LoopI where
  ι : Type
  inv : ι → Prop
  dec : ι → Nat
  ovr : ι → List (Nat × Ent)
  keep : List Nat
  sub : ι → List LoopI := fun _ => []
  frz : List Nat := []

def stx (l : LoopI) (st : St) (x : l.ι) : St := fun t => match look (l.ovr x) t with
  | some e => e
  | none => bif memN l.keep t then st t else .dead

def keysL : List (Nat × Ent) → List Nat
  | [] => []
  | p :: l => p.1 :: keysL l

def leAll (st st' : St) : List Nat → Prop
  | [] => True
  | t :: l => leE (st t) (st' t) ∧ leAll st st' l
def rootsB (st : St) : List Nat → Bool
  | [] => true
  | t :: l => (match (st t).root with
    | some r => (st r).isOwner
    | none => true) && rootsB st l

/-- The loop's head is reached with x. -/
def atX (l : LoopI) (st : St) (x : l.ι) (st' : St) : Prop :=
  bif rootsB (stx l st x) (keysL (l.ovr x) ++ l.keep) then leAll st' (stx l st x) (keysL (l.ovr x) ++ l.keep) else False

def nl : Code → Nat
  | .loop b => 1
  | .seq a b => nl a + nl b
  | .cond _ a b => nl a + nl b
  | .block _ b => nl b
  | _ => 0

def wpI (C : Ctx) (stp : St → Oper → Option (Prop × St)) : List LoopI → Code → Nat → St → (St → Prop) → (Nat → St → Prop) → (St → Prop) → Prop
  | _, .skip, _, st, Qn, _, _ => Qn st
  | L, .region _ ops draw, _, st, Qn, _, _ => match regionA C stp draw st ops.toList with
    | some (c, st') => c ∧ Qn st'
    | none => bif draw then (match regionA C stp true st (hoist ops.toList) with
      | some (c, st') => c ∧ Qn st'
      | none => False) else False
  | L, .seq a b, k, st, Qn, Qx, Qr => wpI C stp L a k st (fun st' => wpI C stp L b (k + nl a) st' Qn Qx Qr) Qx Qr
  | L, .cond x a b, k, st, Qn, Qx, Qr => match (viewO st x).val with
    | some ⟨.bool, p⟩ => (p = true → wpI C stp L a k st Qn Qx Qr) ∧ (p = false → wpI C stp L b (k + nl a) st Qn Qx Qr)
    | none => match (viewO st x).e with
      | .nb p q => (p → wpI C stp L a k st Qn Qx Qr) ∧ (q → wpI C stp L b (k + nl a) st Qn Qx Qr)
      | _ => False
    | _ => False
  | L, .block id b, k, st, Qn, Qx, Qr => wpI C stp L b k st Qn (fun i st' => bif Nat.beq i id then Qn st' else Qx i st') Qr
  | L, .loop b, k, st, _, Qx, Qr => match L[k]? with
    | some l => (∃ x, l.inv x ∧ atX l (frzA st l.frz) x (frzA st l.frz)) ∧ ∀ x, l.inv x → factsL (l.ovr x) [] → wpI C stp (l.sub x) b 0 (stx l (frzA st l.frz) x) (fun st' => ∃ y, l.inv y ∧ l.dec y < l.dec x ∧ atX l (frzA st l.frz) y (frzA st' l.frz)) Qx Qr
    | none => False
  | _, .exit id, _, st, _, Qx, _ => Qx id st
  | _, .ret, _, st, _, _, Qr => Qr st
  | _, _, _, _, _, _, _ => False

section
variable {P : Program} {C : Ctx} {w0 : World} {F0 H : NSet}

theorem look_keys : ∀ {l : List (Nat × Ent)} {t : Nat} {e : Ent}, look l t = some e → t ∈ keysL l
  | [], _, _, h => by cases h
  | (k, v) :: l, t, e, h => by
    simp only [look] at h
    cases hb : Nat.beq k t
    · rw [hb] at h; simp only [keysL, List.mem_cons]; exact .inr (look_keys h)
    · simp only [keysL, List.mem_cons]; exact .inl (nbeq_iff.1 hb).symm

theorem leAll_mem {st st' : St} : ∀ {l : List Nat} {t : Nat}, leAll st st' l → t ∈ l → leE (st t) (st' t)
  | x :: l, t, h, ht => by
    rcases List.mem_cons.1 ht with rfl | ht
    · exact h.1
    · exact leAll_mem h.2 ht
theorem rootsB_mem {st : St} : ∀ {l : List Nat} {t r : Nat}, rootsB st l = true → t ∈ l → (st t).root = some r → (st r).isOwner = true
  | x :: l, t, r, h, ht, hr => by
    simp only [rootsB, Bool.and_eq_true] at h
    rcases List.mem_cons.1 ht with rfl | ht
    · have := h.1; rw [hr] at this; exact this
    · exact rootsB_mem h.2 ht hr

theorem leE_dead (e : Ent) : leE e .dead := by cases e <;> trivial

theorem atX_ok {N : NP} {l : LoopI} {st st' : St} {x : l.ι} (h : atX l st x st') {a : Act} {w : World} (hi : Inv P N w0 F0 H st' a w) : Inv P N w0 F0 H (stx l st x) a w := by
  unfold atX at h
  cases hb : rootsB (stx l st x) (keysL (l.ovr x) ++ l.keep)
  · rw [hb] at h; cases h
  rw [hb] at h
  simp only [cond_true] at h
  obtain ⟨F, S, hi⟩ := hi
  have hkey : ∀ t, stx l st x t ≠ .dead → t ∈ keysL (l.ovr x) ++ l.keep := by
    intro t ht
    unfold stx at ht
    rw [List.mem_append]
    cases hl : look (l.ovr x) t with
    | some e => exact .inl (look_keys hl)
    | none =>
      rw [hl] at ht
      simp only [] at ht
      cases hm : memN l.keep t
      · rw [hm] at ht; exact absurd rfl ht
      · exact .inr (memN_mem.1 hm)
  refine ⟨F, S, hi.le ?_ ?_⟩
  · intro t
    by_cases ht : stx l st x t = .dead
    · rw [ht]; exact leE_dead _
    · exact leAll_mem h (hkey t ht)
  · intro t r hr
    exact rootsB_mem hb (hkey t (fun h => by rw [h] at hr; cases hr)) hr

/-- A loop with an invariant that says of some x what is known. -/
theorem wp_loop_x {c : Code} {ι : Type} (I : ι → Act → World → Prop) (dec : ι → Nat) {Q : Exit → Act → World → Prop} {a : Act} {w : World} (x : ι) (h0 : I x a w)
    (round : ∀ x a w, I x a w → c.wp P (Exit.then (fun a' w' => ∃ y, I y a' w' ∧ dec y < dec x) Q) a w) : (Code.loop c).wp P Q a w := by
  have hmin : ∀ (p : Nat → Prop) (n : Nat), p n → ∃ m, p m ∧ ∀ k, p k → m ≤ k := by
    intro p n
    induction n using Nat.strongRecOn with
    | _ n ih =>
      intro hn
      by_cases h : ∃ m, m < n ∧ p m
      · obtain ⟨m, h1, h2⟩ := h; exact ih m h1 h2
      · refine ⟨n, hn, fun k hk => ?_⟩
        rcases Nat.lt_or_ge k n with h' | h'
        · exact absurd ⟨k, h', hk⟩ h
        · exact h'
  let p : Act → World → Nat → Prop := fun a w n => ∃ x, I x a w ∧ dec x = n
  have hex : ∀ a w, ∃ m, (∃ n, p a w n) → p a w m ∧ ∀ k, p a w k → m ≤ k := by
    intro a w
    by_cases h : ∃ n, p a w n
    · obtain ⟨n, hn⟩ := h
      obtain ⟨m, h1, h2⟩ := hmin (p a w) n hn
      exact ⟨m, fun _ => ⟨h1, h2⟩⟩
    · exact ⟨0, fun h' => absurd h' h⟩
  let μ : Act → World → Nat := fun a w => Classical.choose (hex a w)
  have hμ : ∀ a w, (∃ n, p a w n) → p a w (μ a w) ∧ ∀ k, p a w k → μ a w ≤ k := fun a w => Classical.choose_spec (hex a w)
  refine wp_loop (fun a w => ∃ x, I x a w) μ ⟨x, h0⟩ ?_
  intro a w ⟨x, hx⟩
  obtain ⟨⟨y, hy, hd⟩, _⟩ := hμ a w ⟨_, x, hx, rfl⟩
  refine wp_mono (round y a w hy) ?_
  intro e a' w' h
  cases e with
  | normal =>
    obtain ⟨z, hz, hlt⟩ := h
    refine ⟨⟨z, hz⟩, ?_⟩
    have := (hμ a' w' ⟨_, z, hz, rfl⟩).2 _ ⟨z, hz, rfl⟩
    omega
  | _ => exact h

theorem wpI_ok (hC : CtxOK P C) {stp : St → Oper → Option (Prop × St)} (hstp : StpOK P C stp) :
    ∀ (c : Code) {L : List LoopI} {k : Nat} {st : St} {Qn : St → Prop} {Qx : Nat → St → Prop} {Qr : St → Prop} {Q : Exit → Act → World → Prop} {a : Act} {w : World}, wpI C stp L c k st Qn Qx Qr → Inv P C.np w0 F0 H st a w →
      (∀ st a w, Qn st → Inv P C.np w0 F0 H st a w → Q .normal a w) → (∀ i st a w, Qx i st → Inv P C.np w0 F0 H st a w → Q (.exit i) a w) → (∀ st a w, Qr st → Inv P C.np w0 F0 H st a w → Q .ret a w) → c.wp P Q a w
  | .skip, L, k, st, Qn, Qx, Qr, Q, a, w, h, hi, hn, hx, hr => wp_skip (hn _ _ _ h hi)
  | .region id ops draw, L, k, st, Qn, Qx, Qr, Q, a, w, h, hi, hn, hx, hr => by
    simp only [wpI] at h
    split at h
    · rename_i c st' hr'
      exact (regionA_ok hC hstp hr' h.1 hi (fun a' w' hi' => hn _ _ _ h.2 hi')).wp hC.mixed
    · cases draw with
      | false => cases h
      | true =>
        simp only [cond_true] at h
        split at h
        · rename_i c st' hr'
          have h1 := regionA_ok (ops := (hoist ops.toList).toArray) (Q := onlyN fun a' w' => Inv P C.np w0 F0 H st' a' w') hC hstp hr' h.1 hi (fun a' w' hi' => hi')
          refine wp_mono ((hoist_ok h1).wp (id := id) hC.mixed) ?_
          intro e a' w' h'
          cases e with
          | normal => exact hn _ _ _ h.2 h'
          | _ => exact h'.elim
        · cases h
  | .seq x y, L, k, st, Qn, Qx, Qr, Q, a, w, h, hi, hn, hx, hr => by
    simp only [wpI] at h
    refine wp_seq (wpI_ok hC hstp x h hi ?_ ?_ ?_)
    · intro st1 a1 w1 h1 hi1
      exact wpI_ok hC hstp y h1 hi1 hn hx hr
    · exact hx
    · exact hr
  | .cond z x y, L, k, st, Qn, Qx, Qr, Q, a, w, h, hi, hn, hx, hr => by
    simp only [wpI] at h
    split at h
    · rename_i p hv
      obtain ⟨F, S, hi0⟩ := hi
      have := (View.val_ok hi0 (viewO_ok hi0 z) hv).bool_eq
      refine wp_cond_split this (fun hp => wpI_ok hC hstp x (h.1 hp) ⟨F, S, hi0⟩ hn hx hr) (fun hp => wpI_ok hC hstp y (h.2 hp) ⟨F, S, hi0⟩ hn hx hr)
    · split at h
      · rename_i p q hv
        obtain ⟨F, S, hi0⟩ := hi
        have h1 := (viewO_ok hi0 z).ent (by rw [hv]; rfl) 0 (by rw [hv]; simp [Ent.root])
        rw [hv] at h1
        simp only [EntOK, if_true] at h1
        obtain ⟨b, h1, h2, h3⟩ := h1
        refine wp_cond_split h1 (fun hp => wpI_ok hC hstp x (h.1 (h2 hp)) ⟨F, S, hi0⟩ hn hx hr) (fun hp => wpI_ok hC hstp y (h.2 (h3 hp)) ⟨F, S, hi0⟩ hn hx hr)
      · cases h
    · cases h
  | .block id b, L, k, st, Qn, Qx, Qr, Q, a, w, h, hi, hn, hx, hr => by
    simp only [wpI] at h
    refine wp_block (wpI_ok hC hstp b h hi hn ?_ hr)
    intro i st1 a1 w1 h1 hi1
    simp only [Exit.inBlock]
    cases hb : Nat.beq i id
    · rw [hb] at h1
      have : i ≠ id := fun e => by subst e; rw [Nat.beq_refl] at hb; cases hb
      rw [if_neg this]
      exact hx _ _ _ _ h1 hi1
    · rw [hb] at h1
      rw [if_pos (nbeq_iff.1 hb)]
      exact hn _ _ _ h1 hi1
  | .loop b, L, k, st, Qn, Qx, Qr, Q, a, w, h, hi, hn, hx, hr => by
    simp only [wpI] at h
    split at h
    · rename_i l hl
      obtain ⟨⟨x, h1, h2⟩, h3⟩ := h
      refine wp_loop_x (fun x a w => l.inv x ∧ Inv P C.np w0 F0 H (stx l (frzA st l.frz) x) a w) l.dec x ⟨h1, atX_ok h2 (frzA_ok hi)⟩ ?_
      intro y a1 w1 ⟨g1, g2⟩
      refine wpI_ok hC hstp b (h3 y g1 (factsL_ok g2 (f := l.ovr y) (fun t e h => by simp only [stx, h]) (l.ovr y) [] (fun t e _ h => h))) g2 ?_ hx hr
      intro st2 a2 w2 ⟨z, k1, k2, k3⟩ hi2
      exact ⟨z, ⟨k1, atX_ok k3 (frzA_ok hi2)⟩, k2⟩
    · cases h
  | .exit id, L, k, st, Qn, Qx, Qr, Q, a, w, h, hi, hn, hx, hr => wp_exit (hx _ _ _ _ h hi)
  | .ret, L, k, st, Qn, Qx, Qr, Q, a, w, h, hi, hn, hx, hr => wp_ret (hr _ _ _ h hi)
  | .rangeFunc _ _ _ _, _, _, _, _, _, _, _, _, _, h, _, _, _, _ => by simp only [wpI] at h
  | .scope _, _, _, _, _, _, _, _, _, _, h, _, _, _, _ => by simp only [wpI] at h
  | .label _, _, _, _, _, _, _, _, _, _, h, _, _, _, _ => by simp only [wpI] at h
  | .goto _, _, _, _, _, _, _, _, _, _, h, _, _, _, _ => by simp only [wpI] at h
  | .refuse _, _, _, _, _, _, _, _, _, _, h, _, _, _, _ => by simp only [wpI] at h
end
end Go.Lf
namespace Go.Lf

/-- What the parameters' slots hold at the beginning. -/
def argEnt : (k : AK) → k.den → Ent
  | .val τ, x => .shr τ x
  | .fn A R, g => .fn A R g
  | .sptr τ, x => .saddr τ x
def argsEnt : (ks : List AK) → kdens ks → Nat → List (Nat × Ent)
  | [], _, _ => []
  | k :: ks, x, n => (n, argEnt k x.1) :: argsEnt ks x.2 (n + 1)
def ofL (l : List (Nat × Ent)) : St := fun t => match look l t with
  | some e => e
  | none => .dead

/-- A result that is handed over: the value, the owner that it is taken from. -/
def ownR (τ : Ty) (m : Md) (v : View) : Option (τ.den × List Nat) :=
  match v.shrAs τ with
  | some x => bif shrM m || τ.flat then some (x, []) else v.ownAs τ m
  | none => match v.e with
    | .sub r [] => match v.r with
      | .own σ m' x => bif decide (m' = m) then (castD (τ := σ) (σ := τ) x).map fun y => (y, [r]) else none
      | .box σ m' x => bif decide (m' = m) then (castD (τ := σ) (σ := τ) x).map fun y => (y, [r]) else none
      | _ => none
    | _ => v.ownAs τ m

/-- A result by value. -/
def readR (τ : Ty) (v : View) : Option τ.den :=
  match v.shrAs τ with
  | some x => some x
  | none => match v.val with
    | some ⟨σ, x⟩ => castD (τ := σ) (σ := τ) x
    | none => none

def ownRs : (τ : Ty) → Md → List View → Option (τ.den × List Nat)
  | .unit, _, [] => some ((), [])
  | .prod a b, m, v :: vs => match ownR a m.fst v, ownRs b m.snd vs with
    | some (x, l), some (y, l') => some ((x, y), l ++ l')
    | _, _ => none
  | _, _, _ => none
def readRs : (τ : Ty) → List View → Option τ.den
  | .unit, [] => some ()
  | .prod a b, v :: vs => match readR a v, readRs b vs with
    | some x, some y => some (x, y)
    | _, _ => none
  | _, _ => none

def cellOf (st : St) (T : TypeId) (C : Ctx) (t : Nat) (τ : Ty) : Option τ.den :=
  match st t with
  | .box σ _ x => bif decide (look C.tys T = some τ) then castD (τ := σ) (σ := τ) x else none
  | _ => none

/-- A box's content, handed over. -/
def cellOwn (st : St) (T : TypeId) (C : Ctx) (t : Nat) (τ : Ty) (md : Md) : Option τ.den :=
  match st t with
  | .box σ m x => bif decide (look C.tys T = some τ) && decide (m = md) then castD (τ := σ) (σ := τ) x else none
  | _ => none

def viewsR (st : St) : List ResultVar → Option (List View)
  | [] => some []
  | .tmp t :: l => match viewsR st l with
    | some vs => some (viewO st (.tmp t) :: vs)
    | none => none
  | .cell _ _ :: _ => none

/-- Several results, shared, some of them in cells. -/
def readCs (C : Ctx) (st : St) : (τ : Ty) → List ResultVar → Option τ.den
  | .unit, [] => some ()
  | .prod a b, .tmp t :: rs => match readR a (viewO st (.tmp t)), readCs C st b rs with
    | some x, some y => some (x, y)
    | _, _ => none
  | .prod a b, .cell t T :: rs => match cellOf st T C t a, readCs C st b rs with
    | some x, some y => some (x, y)
    | _, _ => none
  | _, _ => none
/-- What is returned. -/
def retE (C : Ctx) (rs : List ResultVar) (s : FSpec) (st : St) : Option s.res.den :=
  match rs, s.multi with
  | [.tmp t], false => match ownR s.res s.mode (viewO st (.tmp t)) with
    | some (x, _) => some x
    | none => bif shrM s.mode then readR s.res (viewO st (.tmp t)) else none
  | [.cell t T], false => bif s.res.flat || shrM s.mode then cellOf st T C t s.res else cellOwn st T C t s.res s.mode
  | _, true => bif Nat.beq rs.length 1 then none else match viewsR st rs with
    | some vs => match ownRs s.res s.mode vs with
      | some (x, l) => bif nodupN l then some x else none
      | none => bif shrM s.mode then readRs s.res vs else none
    | none => bif shrM s.mode then readCs C st s.res rs else none
  | _, _ => none

def retP (C : Ctx) (rs : List ResultVar) (s : FSpec) (y : s.res.den) (st : St) : Prop := match retE C rs s st with
  | some x => x = y
  | none => False

/-- The proposition for a function's body. -/
def funI (C : Ctx) (stp : St → Oper → Option (Prop × St)) (s : FSpec) (L : kdens s.args → List LoopI) (fn : Func) : Prop :=
  match fn.body with
  | some c => ∀ x, s.pre x → factsK s.args x → wpI C stp (L x) c 0 (ofL (argsEnt s.args x 0)) (retP C fn.results.toList s (s.fn x)) (fun _ _ => False) (retP C fn.results.toList s (s.fn x))
  | none => False

section
variable {P : Program} {C : Ctx} {N : NP} {w0 : World} {F0 H : NSet} {env : St} {a : Act} {w : World} {F : NSet} {S : Nat → NSet}

theorem argEnt_ok {k : AK} {v : Value} {x : k.den} (h : ArgOK P F w k v x) {V : Nat → Value} {t : Nat} (hV : V t = v) : EntOK P F w env V S t (argEnt k x) := by
  cases k with
  | val τ => show OwnV F w τ .shr none' (V t) x; rw [hV]; exact h
  | fn A R => show FnVal P F w (V t) A R x; rw [hV]; exact h
  | sptr τ => show SAddr F w (V t) τ x; rw [hV]; exact h

theorem argsEnt_ok {V : Nat → Value} : ∀ {ks : List AK} {vs : List Value} {x : kdens ks} {n : Nat}, ArgsOK P F w ks vs x → (∀ i v, vs[i]? = some v → V (n + i) = v) →
    vs.length = ks.length ∧ ∀ t e, look (argsEnt ks x n) t = some e → e.isOwner = false ∧ e.root = none ∧ EntOK P F w env V S t e
  | [], vs, x, n, h, hV => by
    have h : vs = [] := h
    subst h; exact ⟨rfl, fun t e h => by cases h⟩
  | k :: ks, vs, x, n, h, hV => by
    obtain ⟨v, r, rfl, h1, h2⟩ := h
    obtain ⟨g1, g2⟩ := argsEnt_ok (V := V) (n := n + 1) h2 (fun i u hu => by have := hV (i + 1) u (by simpa using hu); rw [← this]; congr 1; omega)
    refine ⟨by simp [g1], fun t e he => ?_⟩
    simp only [argsEnt, look] at he
    cases hb : Nat.beq n t
    · rw [hb] at he; exact g2 t e he
    · rw [hb] at he
      simp only [cond_true, Option.some.injEq] at he
      subst he
      have ht := nbeq_iff.1 hb
      subst ht
      refine ⟨by cases k <;> rfl, by cases k <;> rfl, argEnt_ok h1 (by have := hV 0 v rfl; simpa using this)⟩

/-- The beginning of a call. -/
theorem Inv0.start {ks : List AK} {vs : List Value} {x : kdens ks} (hF : ∀ b, F b → b < w.heap.size) (h : ArgsOK P F w ks vs x) (hn : vs.length ≤ N.n) (hp : N.p = none) :
    Inv0 P N w F none' (ofL (argsEnt ks x 0)) { tmps := vs.toArray ++ Array.replicate (N.n - vs.length) undef, defers := [] } w F (fun _ => none') := by
  have hV : ∀ i v, vs[i]? = some v → (vs.toArray ++ Array.replicate (N.n - vs.length) undef).getD (0 + i) undef = v := by
    intro i v hv
    have hi : i < vs.length := by
      rcases Nat.lt_or_ge i vs.length with h | h
      · exact h
      · rw [List.getElem?_eq_none h] at hv; cases hv
    rw [Nat.zero_add, Array.getD_eq_getD_getElem?, Array.getElem?_append_left (by simpa using hi)]
    simp [hv]
  have he := argsEnt_ok (env := ofL (argsEnt ks x 0)) (S := fun _ => none') (V := fun t => (vs.toArray ++ Array.replicate (N.n - vs.length) undef).getD t undef) (n := 0) h hV
  refine ⟨rfl, rfl, rfl, Nat.le_refl _, fun _ _ _ => rfl, hF, fun _ h => h, fun b h1 h2 => absurd h1 h2, fun _ _ h => h.elim, fun _ _ _ _ h => h.elim, ?_, rfl, ⟨by simp; omega, fun s h => by rw [hp] at h; cases h⟩⟩
  intro t
  show EntOK P F w (ofL (argsEnt ks x 0)) (fun t => (vs.toArray ++ Array.replicate (N.n - vs.length) undef).getD t undef) (fun _ => none') t (match look (argsEnt ks x 0) t with | some e => e | none => .dead)
  cases hl : look (argsEnt ks x 0) t with
  | none => trivial
  | some e => exact (he.2 t e hl).2.2

theorem ownR_ok (hi : Inv0 P N w0 F0 H env a w F S) {v : Value} {vw : View} (hv : ViewOK P F w env (fun t => a.tmps.getD t undef) S v vw) {τ : Ty} {m : Md} {x : τ.den} {l : List Nat} (h : ownR τ m vw = some (x, l)) :
    (l = [] ∧ OwnV F w τ m none' v x) ∨ ∃ t, l = [t] ∧ OwnV F w τ m (S t) v x := by
  unfold ownR at h
  split at h
  · rename_i y hy
    cases hb : (shrM m || τ.flat)
    · rw [hb] at h; exact ownAs_ok hi hv h
    · rw [hb] at h
      simp only [cond_true, Option.some.injEq, Prod.mk.injEq] at h
      obtain ⟨rfl, rfl⟩ := h
      have := shrAs_ok hi hv hy
      simp only [Bool.or_eq_true] at hb
      rcases hb with hb | hb
      · have hm : m = .shr := by cases m <;> first | rfl | cases hb
        subst hm
        exact .inl ⟨rfl, this⟩
      · exact .inl ⟨rfl, OwnV.flat hb this⟩
  · split at h
    · rename_i r he
      split at h
      · rename_i σ m' y hr
        cases hm : decide (m' = m)
        · rw [hm] at h; cases h
        · rw [hm] at h
          have hm := of_decide_eq_true hm
          subst hm
          simp only [cond_true, Option.map_eq_some_iff, Prod.mk.injEq] at h
          obtain ⟨z, h1, rfl, rfl⟩ := h
          have := castD_some h1
          injection this with e1 e2; subst e1; cases e2
          right
          refine ⟨r, rfl, ?_⟩
          have h2 := hv.ent (by rw [he]; rfl) (r + 1) (by rw [he]; simp [Ent.root])
          rw [he] at h2
          simp only [EntOK, if_true] at h2
          obtain ⟨τ0, m0, x0, pl, S0, cs, σ', μ, pl', cs', g1, g2, g3, g4, g5, g6, g7⟩ := h2
          simp only [show ¬ (r = r + 1) from by omega, if_false] at g1
          have hroot := hv.root
          rw [he] at hroot
          simp only [rootE, Ent.root] at hroot
          rw [← hroot, hr] at g1
          obtain ⟨e1, e2, e3, e4, e5⟩ := g1.own_inj
          injection e1 with e6 e7
          subst e6; cases e7; subst e2; subst e3; subst e4
          simp only [loc, Option.some.injEq, Prod.mk.injEq] at g2
          obtain ⟨rfl, rfl⟩ := g2
          simp only [Place.read, Option.some.injEq] at g3
          subst g3
          exact ⟨cs, g4, g1.2.2⟩
      · rename_i σ m' y hr
        cases hm : decide (m' = m)
        · rw [hm] at h; cases h
        · rw [hm] at h
          have hm := of_decide_eq_true hm
          subst hm
          simp only [cond_true, Option.map_eq_some_iff, Prod.mk.injEq] at h
          obtain ⟨z, h1, rfl, rfl⟩ := h
          have := castD_some h1
          injection this with e1 e2; subst e1; cases e2
          right
          refine ⟨r, rfl, ?_⟩
          have h2 := hv.ent (by rw [he]; rfl) (r + 1) (by rw [he]; simp [Ent.root])
          rw [he] at h2
          simp only [EntOK, if_true] at h2
          obtain ⟨τ0, m0, x0, pl, S0, cs, σ', μ, pl', cs', g1, g2, g3, g4, g5, g6, g7⟩ := h2
          simp only [show ¬ (r = r + 1) from by omega, if_false] at g1
          have hroot := hv.root
          rw [he] at hroot
          simp only [rootE, Ent.root] at hroot
          rw [← hroot, hr] at g1
          obtain ⟨e1, e2, b, e3, e4, e5, e6⟩ := g1.box_inj
          injection e1 with e7 e8
          subst e7; cases e8; subst e2
          simp only [loc, Option.some.injEq, Prod.mk.injEq] at g2
          obtain ⟨rfl, rfl⟩ := g2
          have g3' := g1.2.1.read.symm.trans g3
          simp only [Option.some.injEq] at g3'
          subst g3'
          exact ⟨cs, g4, g1.2.2.mono (fun _ h => h) g1.sub⟩
      · cases h
    · exact ownAs_ok hi hv h

theorem readR_ok (hi : Inv0 P N w0 F0 H env a w F S) {v : Value} {vw : View} (hv : ViewOK P F w env (fun t => a.tmps.getD t undef) S v vw) {τ : Ty} {x : τ.den} (h : readR τ vw = some x) :
    OwnV (FA F S) w τ .shr none' v x := by
  unfold readR at h
  split at h
  · rename_i y hy
    simp only [Option.some.injEq] at h
    subst h
    exact (shrAs_ok hi hv hy).mono (fun b hb => .inl hb) (fun _ h => h)
  · split at h
    · rename_i σ y hy
      have := castD_some h
      injection this with e1 e2; subst e1; cases e2
      exact View.val_ok hi hv hy
    · cases h

def resG (a : Act) : ResultVar → Sem Value
  | ResultVar.tmp t => (pure (a.tmps.getD t undef) : Sem Value)
  | .cell b t => do loadVar t (← asAddr (a.tmps.getD b undef))

theorem viewsR_ok (hi : Inv0 P N w0 F0 H env a w F S) : ∀ {rs : List ResultVar} {vws : List View}, viewsR env rs = some vws →
    ∃ vs, VsOK P F w env (fun t => a.tmps.getD t undef) S vs vws ∧ (rs.mapM (resG a)).run P w = .ok vs w ∧ vs.length = rs.length
  | [], vws, h => by
    simp only [viewsR, Option.some.injEq] at h
    subst h
    exact ⟨[], trivial, by simp [Sem.run_pure], rfl⟩
  | .tmp t :: rs, vws, h => by
    simp only [viewsR] at h
    split at h
    · rename_i vws' h'
      simp only [Option.some.injEq] at h
      subst h
      obtain ⟨vs, h1, h2, h3⟩ := viewsR_ok hi h'
      refine ⟨a.tmps.getD t undef :: vs, ⟨viewO_ok hi (.tmp t), h1⟩, ?_, by simp [h3]⟩
      rw [List.mapM_cons]
      simp only [resG, Sem.run_bind, Sem.run_pure, Result.andThen]
      rw [h2]
    · cases h
  | .cell _ _ :: _, _, h => by cases h

theorem ownRs_ok (hi : Inv0 P N w0 F0 H env a w F S) : ∀ {τ : Ty} {m : Md} {vs : List Value} {vws : List View} {x : τ.den} {l : List Nat},
    VsOK P F w env (fun t => a.tmps.getD t undef) S vs vws → ownRs τ m vws = some (x, l) → nodupN l = true → TupOK F w τ m (SL S l) vs x
  | .unit, m, [], [], x, l, _, h, _ => rfl
  | .prod A B, m, v :: vs, vw :: vws, x, l, ⟨hv, hvs⟩, h, hn => by
    simp only [ownRs] at h
    split at h
    · rename_i y l1 z l2 h1 h2
      simp only [Option.some.injEq, Prod.mk.injEq] at h
      obtain ⟨rfl, rfl⟩ := h
      have hfst : ∃ S1, Sub S1 (SL S l1) ∧ OwnV F w A m.fst S1 v y := by
        rcases ownR_ok hi hv h1 with ⟨rfl, h3⟩ | ⟨t, rfl, h3⟩
        · exact ⟨none', fun _ h => h.elim, h3⟩
        · exact ⟨S t, fun b hb => ⟨t, by simp, hb⟩, h3⟩
      have hn2 : nodupN l2 = true ∧ ∀ t, t ∈ l1 → t ∉ l2 := by
        rcases ownR_ok hi hv h1 with ⟨rfl, h3⟩ | ⟨t, rfl, h3⟩
        · exact ⟨hn, fun _ h => by cases h⟩
        · have := nodup_cons hn
          exact ⟨this.2, fun u hu => by simp at hu; subst hu; exact this.1⟩
      obtain ⟨S1, k1, k2⟩ := hfst
      refine ⟨v, vs, S1, SL S l2, rfl, ?_, ?_, ?_, k2, ownRs_ok hi hvs h2 hn2.1⟩
      · intro b hb; obtain ⟨t, ht, hb⟩ := k1 b hb; exact ⟨t, by simp [ht], hb⟩
      · intro b hb; obtain ⟨t, ht, hb⟩ := hb; exact ⟨t, by simp [ht], hb⟩
      · intro b hb1 hb2
        obtain ⟨t1, ht1, hb1⟩ := k1 b hb1
        obtain ⟨t2, ht2, hb2⟩ := hb2
        exact hi.sd t1 t2 (fun h => hn2.2 t1 ht1 (h ▸ ht2)) b hb1 hb2
    · cases h
  | .prod _ _, _, [], [], _, _, _, h, _ => by simp [ownRs] at h
  | .prod _ _, _, [], _ :: _, _, _, h, _, _ => h.elim
  | .prod _ _, _, _ :: _, [], _, _, h, _, _ => h.elim
  | .unit, _, [], _ :: _, _, _, h, _, _ => h.elim
  | .unit, _, _ :: _, [], _, _, h, _, _ => h.elim
  | .unit, _, _ :: _, _ :: _, _, _, _, h, _ => by simp [ownRs] at h
  | .int _, _, _, _, _, _, _, h, _ => by simp [ownRs] at h
  | .bool, _, _, _, _, _, _, h, _ => by simp [ownRs] at h
  | .str, _, _, _, _, _, _, h, _ => by simp [ownRs] at h
  | .abs _, _, _, _, _, _, _, h, _ => by simp [ownRs] at h
  | .slice _, _, _, _, _, _, _, h, _ => by simp [ownRs] at h
  | .arr _ _, _, _, _, _, _, _, h, _ => by simp [ownRs] at h

theorem readRs_ok (hi : Inv0 P N w0 F0 H env a w F S) : ∀ {τ : Ty} {vs : List Value} {vws : List View} {x : τ.den},
    VsOK P F w env (fun t => a.tmps.getD t undef) S vs vws → readRs τ vws = some x → TupOK (FA F S) w τ .shr none' vs x
  | .unit, [], [], x, _, h => rfl
  | .prod A B, v :: vs, vw :: vws, x, ⟨hv, hvs⟩, h => by
    simp only [readRs] at h
    split at h
    · rename_i y z h1 h2
      simp only [Option.some.injEq] at h
      subst h
      exact ⟨v, vs, none', none', rfl, fun _ h => h, fun _ h => h, fun _ h => h.elim, readR_ok hi hv h1, readRs_ok hi hvs h2⟩
    · cases h
  | .prod _ _, [], [], _, _, h => by simp [readRs] at h
  | .prod _ _, [], _ :: _, _, h, _ => h.elim
  | .prod _ _, _ :: _, [], _, h, _ => h.elim
  | .unit, [], _ :: _, _, h, _ => h.elim
  | .unit, _ :: _, [], _, h, _ => h.elim
  | .unit, _ :: _, _ :: _, _, _, h => by simp [readRs] at h
  | .int _, _, _, _, _, h => by simp [readRs] at h
  | .bool, _, _, _, _, h => by simp [readRs] at h
  | .str, _, _, _, _, h => by simp [readRs] at h
  | .abs _, _, _, _, _, h => by simp [readRs] at h
  | .slice _, _, _, _, _, h => by simp [readRs] at h
  | .arr _ _, _, _, _, _, h => by simp [readRs] at h

/-- What a call leaves, out of the frame's invariant at its end. -/
theorem Inv0.post {F : NSet} (hi : Inv0 P N w0 F0 none' env a w F S) {multi : Bool} {τ : Ty} {m : Md} {v : Value} {x : τ.den} {F' Sd : NSet}
    (hF : Sub F F') (hF' : ∀ b, F' b → F b ∨ ∃ t, S t b) (hS : ∀ b, Sd b → (∃ t, S t b) ∧ ¬ F' b) (h : RetV F' w multi τ m Sd v x) :
    Post F0 w0 multi τ m x (.returned v) w := by
  have hnew : ∀ b, (∃ t, S t b) → w0.heap.size ≤ b ∧ b < w.heap.size := by
    rintro b ⟨t, hb⟩
    obtain ⟨h1, h2, _⟩ := hi.sb t b hb
    exact ⟨h1.elim id (fun h => h.elim), h2⟩
  refine ⟨v, F', Sd, rfl, ?_, fun b hb => hF b (hi.f0 b hb), ?_, ?_, ?_, h⟩
  · exact ⟨hi.os, hi.tape, hi.output, hi.size, fun k hk => hi.block k hk (fun h => h)⟩
  · intro b h1 h2
    rcases hF' b h1 with h | h
    · exact (hi.fn b h h2).elim id (fun h => h.elim)
    · exact (hnew b h).1
  · intro b h
    rcases h with h | h
    · rcases hF' b h with h | h
      · exact hi.fb b h
      · exact (hnew b h).2
    · exact (hnew b (hS b h).1).2
  · intro b h
    exact ⟨(hnew b (hS b h).1).1, (hS b h).2⟩


theorem results_run {fn : Func} {vs : List Value} (h : (fn.results.toList.mapM (resG a)).run P w = .ok vs w) :
    (results fn a.tmps).run P w = .ok (if h : vs.toArray.size = 1 then vs.toArray[0] else .tuple vs.toArray) w := by
  have e : results fn a.tmps = (fn.results.mapM (resG a)) >>= fun vs => pure (if h : vs.size = 1 then vs[0] else .tuple vs) := by
    unfold results
    congr 1
  rw [e, Array.mapM_eq_mapM_toList]
  simp only [map_eq_pure_bind, Sem.run_bind, h, Result.andThen, Sem.run_pure]

theorem cellOf_ok (hC : CtxOK P C) (hi : Inv0 P N w0 F0 H env a w F S) {T : TypeId} {t : Nat} {τ : Ty} {x : τ.den} (h : cellOf env T C t τ = some x) :
    ∃ v, (resG a (.cell t T)).run P w = .ok v w ∧ OwnV (FA F S) w τ .shr none' v x := by
  unfold cellOf at h
  split at h
  · rename_i σ m z he
    cases hT : decide (look C.tys T = some τ)
    · rw [hT] at h; cases h
    rw [hT] at h
    simp only [cond_true] at h
    have hT' := of_decide_eq_true hT
    have := castD_some h
    injection this with e1 e2
    subst e1; cases e2
    have h1 := hi.ent t
    rw [he] at h1
    obtain ⟨pl, S0, cs, h1⟩ := h1
    obtain ⟨_, _, b, rfl, rfl, hv, hb⟩ := h1.box_inj
    obtain ⟨q1, q2, row, T0, q3, q4, q5⟩ := h1.2.1
    have hl := (hC.types T _ hT').loadVar q3 q4
    rw [q5] at hl
    refine ⟨slotv σ cs, by simp only [resG, hv, asAddr, Sem.run_bind, Sem.run_pure, Result.andThen, hl], ?_⟩
    have hO : OwnV F w σ m (fun k => S t k ∧ k ≠ b) (slotv σ cs) z := ⟨cs, rfl, h1.2.2⟩
    exact hO.freeze (fun k hk => hk.imp id fun hk => ⟨t, hk.1⟩)
  · cases h
theorem readCs_ok (hC : CtxOK P C) (hi : Inv0 P N w0 F0 H env a w F S) : ∀ {τ : Ty} {rs : List ResultVar} {x : τ.den}, readCs C env τ rs = some x →
    ∃ vs, (rs.mapM (resG a)).run P w = .ok vs w ∧ vs.length = rs.length ∧ TupOK (FA F S) w τ .shr none' vs x
  | .unit, [], x, h => ⟨[], by simp [Sem.run_pure], rfl, rfl⟩
  | .prod A B, .tmp t :: rs, x, h => by
    simp only [readCs] at h
    split at h
    · rename_i y z h1 h2
      simp only [Option.some.injEq] at h
      subst h
      obtain ⟨vs, k1, k2, k3⟩ := readCs_ok hC hi h2
      refine ⟨a.tmps.getD t undef :: vs, ?_, by simp [k2], _, vs, none', none', rfl, fun _ h => h, fun _ h => h, fun _ h => h.elim, readR_ok hi (viewO_ok hi (.tmp t)) h1, k3⟩
      rw [List.mapM_cons]
      simp only [resG, Sem.run_bind, Sem.run_pure, Result.andThen]
      rw [k1]
    · cases h
  | .prod A B, .cell t T :: rs, x, h => by
    simp only [readCs] at h
    split at h
    · rename_i y z h1 h2
      simp only [Option.some.injEq] at h
      subst h
      obtain ⟨vs, k1, k2, k3⟩ := readCs_ok hC hi h2
      obtain ⟨v, q1, q2⟩ := cellOf_ok hC hi h1
      refine ⟨v :: vs, ?_, by simp [k2], _, vs, none', none', rfl, fun _ h => h, fun _ h => h, fun _ h => h.elim, q2, k3⟩
      rw [List.mapM_cons]
      simp only [Sem.run_bind, Result.andThen, q1, k1, Sem.run_pure]
    · cases h
  | .unit, _ :: _, _, h => by simp [readCs] at h
  | .prod _ _, [], _, h => by simp [readCs] at h
  | .int _, _, _, h => by simp [readCs] at h
  | .bool, _, _, h => by simp [readCs] at h
  | .str, _, _, h => by simp [readCs] at h
  | .abs _, _, _, h => by simp [readCs] at h
  | .slice _, _, _, h => by simp [readCs] at h
  | .arr _ _, _, _, h => by simp [readCs] at h

theorem retP_ok (hC : CtxOK P C) {s : FSpec} {fn : Func} {y : s.res.den} (h : retP C fn.results.toList s y env) {a : Act} {w : World} (hi : Inv P N w0 F0 none' env a w) :
    ∃ v, (results fn a.tmps).run P w = .ok v w ∧ Post F0 w0 s.multi s.res s.mode y (.returned v) w := by
  unfold retP at h
  generalize hret : retE C fn.results.toList s env = g at h
  cases g with
  | none => cases h
  | some x =>
    simp only [] at h
    subst h
    obtain ⟨F, S, hi⟩ := hi
    have hFA : ∀ {m : Md} {v : Value}, shrM m = true → OwnV (FA F S) w s.res .shr none' v x → s.multi = false → m = s.mode → Post F0 w0 s.multi s.res s.mode x (.returned v) w := by
      intro m v hm hv hmu hms
      subst hms
      have hm' : s.mode = .shr := by cases hmm : s.mode <;> first | rfl | (rw [hmm] at hm; cases hm)
      refine hi.post (F' := FA F S) (Sd := none') (fun b hb => .inl hb) (fun b hb => hb) (fun b hb => hb.elim) ?_
      rw [hmu, hm']
      exact hv
    unfold retE at hret
    split at hret
    · rename_i t hrs hmu
      have hrun := results_run (P := P) (w := w) (a := a) (fn := fn) (vs := [a.tmps.getD t undef]) (by rw [hrs]; simp [resG, Sem.run_bind, Sem.run_pure, Result.andThen])
      refine ⟨_, hrun, ?_⟩
      simp only [List.size_toArray, List.length_cons, List.length_nil, Nat.zero_add, dite_true]
      show Post F0 w0 s.multi s.res s.mode x (.returned (a.tmps.getD t undef)) w
      have hv := viewO_ok hi (.tmp t)
      split at hret
      · rename_i z l hz
        simp only [Option.some.injEq] at hret
        subst hret
        rcases ownR_ok hi hv hz with ⟨rfl, h⟩ | ⟨u, rfl, h⟩
        · refine hi.post (F' := F) (Sd := none') (fun b hb => hb) (fun b hb => .inl hb) (fun b hb => hb.elim) ?_
          rw [hmu]; exact h
        · refine hi.post (F' := F) (Sd := S u) (fun b hb => hb) (fun b hb => .inl hb) (fun b hb => ⟨⟨u, hb⟩, (hi.sb u b hb).2.2⟩) ?_
          rw [hmu]; exact h
      · cases hm : shrM s.mode
        · rw [hm] at hret; cases hret
        · rw [hm] at hret
          simp only [cond_true] at hret
          exact hFA hm (readR_ok hi hv hret) hmu rfl
    · rename_i t T hrs hmu
      cases hm : (s.res.flat || shrM s.mode)
      · rw [hm] at hret
        simp only [cond_false] at hret
        unfold cellOwn at hret
        split at hret
        · rename_i σ m z he
          cases hT : (decide (look C.tys T = some s.res) && decide (m = s.mode))
          · rw [hT] at hret; cases hret
          rw [hT] at hret
          simp only [cond_true] at hret
          simp only [Bool.and_eq_true, decide_eq_true_eq] at hT
          obtain ⟨hT', hmd⟩ := hT
          have := castD_some hret
          injection this with e1 e2
          subst e1; cases e2
          have h1 := hi.ent t
          rw [he] at h1
          obtain ⟨pl, S0, cs, h1⟩ := h1
          obtain ⟨_, _, b, rfl, rfl, hv, hb⟩ := h1.box_inj
          obtain ⟨q1, q2, row, T0, q3, q4, q5⟩ := h1.2.1
          have hl := (hC.types T _ hT').loadVar q3 q4
          rw [q5] at hl
          have hrun := results_run (P := P) (w := w) (a := a) (fn := fn) (vs := [slotv s.res cs]) (by
            rw [hrs]
            simp only [List.mapM_cons, List.mapM_nil, resG, hv, asAddr, Sem.run_bind, Sem.run_pure, Result.andThen, hl])
          refine ⟨_, hrun, ?_⟩
          simp only [List.size_toArray, List.length_cons, List.length_nil, Nat.zero_add, dite_true]
          show Post F0 w0 s.multi s.res s.mode _ (.returned (slotv s.res cs)) w
          refine hi.post (F' := F) (Sd := fun k => S t k ∧ k ≠ b) (fun b hb => hb) (fun b hb => .inl hb) (fun k hk => ⟨⟨t, hk.1⟩, (hi.sb t k hk.1).2.2⟩) ?_
          rw [hmu]
          show OwnV F w s.res s.mode _ _ _
          rw [← hmd]
          exact ⟨cs, rfl, h1.2.2⟩
        · cases hret
      rw [hm] at hret
      simp only [cond_true] at hret
      unfold cellOf at hret
      split at hret
      · rename_i σ m z he
        cases hT : decide (look C.tys T = some s.res)
        · rw [hT] at hret; cases hret
        rw [hT] at hret
        simp only [cond_true] at hret
        have hT' := of_decide_eq_true hT
        have := castD_some hret
        injection this with e1 e2
        subst e1; cases e2
        have h1 := hi.ent t
        rw [he] at h1
        obtain ⟨pl, S0, cs, h1⟩ := h1
        obtain ⟨_, _, b, rfl, rfl, hv, hb⟩ := h1.box_inj
        obtain ⟨q1, q2, row, T0, q3, q4, q5⟩ := h1.2.1
        have hl := (hC.types T _ hT').loadVar q3 q4
        rw [q5] at hl
        have hrun := results_run (P := P) (w := w) (a := a) (fn := fn) (vs := [slotv s.res cs]) (by
          rw [hrs]
          simp only [List.mapM_cons, List.mapM_nil, resG, hv, asAddr, Sem.run_bind, Sem.run_pure, Result.andThen, hl])
        refine ⟨_, hrun, ?_⟩
        simp only [List.size_toArray, List.length_cons, List.length_nil, Nat.zero_add, dite_true]
        show Post F0 w0 s.multi s.res s.mode _ (.returned (slotv s.res cs)) w
        have hO : OwnV F w s.res m (fun k => S t k ∧ k ≠ b) (slotv s.res cs) _ := ⟨cs, rfl, h1.2.2⟩
        simp only [Bool.or_eq_true] at hm
        rcases hm with hm | hm
        · refine hi.post (F' := F) (Sd := none') (fun b hb => hb) (fun b hb => .inl hb) (fun b hb => hb.elim) ?_
          rw [hmu]; exact OwnV.flat hm hO
        · exact hFA hm (hO.freeze (fun k hk => hk.imp id fun hk => ⟨t, hk.1⟩)) hmu rfl
      · cases hret
    · rename_i hmu
      cases hl : Nat.beq fn.results.toList.length 1
      · rw [hl] at hret
        simp only [cond_false] at hret
        split at hret
        · rename_i vws hvs
          obtain ⟨vs, k1, k2, k3⟩ := viewsR_ok hi hvs
          have hrun := results_run (P := P) (w := w) (a := a) (fn := fn) (vs := vs) k2
          have hne : ¬ vs.toArray.size = 1 := by
            intro h
            simp only [List.size_toArray] at h
            rw [k3] at h
            rw [nbeq_iff.2 h] at hl; cases hl
          rw [dif_neg hne] at hrun
          refine ⟨_, hrun, ?_⟩
          split at hret
          · rename_i z l hz
            cases hn : nodupN l
            · rw [hn] at hret; cases hret
            rw [hn] at hret
            simp only [cond_true, Option.some.injEq] at hret
            subst hret
            refine hi.post (F' := F) (Sd := SL S l) (fun b hb => hb) (fun b hb => .inl hb) (fun b ⟨u, _, hb⟩ => ⟨⟨u, hb⟩, (hi.sb u b hb).2.2⟩) ?_
            rw [hmu]
            exact ⟨vs, rfl, ownRs_ok hi k1 hz hn⟩
          · cases hm : shrM s.mode
            · rw [hm] at hret; cases hret
            · rw [hm] at hret
              simp only [cond_true] at hret
              have hm' : s.mode = .shr := by cases hmm : s.mode <;> first | rfl | (rw [hmm] at hm; cases hm)
              refine hi.post (F' := FA F S) (Sd := none') (fun b hb => .inl hb) (fun b hb => hb) (fun b hb => hb.elim) ?_
              rw [hmu, hm']
              exact ⟨vs, rfl, readRs_ok hi k1 hret⟩
        · cases hm : shrM s.mode
          · rw [hm] at hret; cases hret
          · rw [hm] at hret
            simp only [cond_true] at hret
            obtain ⟨vs, k1, k3, k4⟩ := readCs_ok hC hi hret
            have hrun := results_run (P := P) (w := w) (a := a) (fn := fn) (vs := vs) k1
            have hne : ¬ vs.toArray.size = 1 := by
              intro h
              simp only [List.size_toArray] at h
              rw [k3] at h
              rw [nbeq_iff.2 h] at hl; cases hl
            rw [dif_neg hne] at hrun
            refine ⟨_, hrun, ?_⟩
            have hm' : s.mode = .shr := by cases hmm : s.mode <;> first | rfl | (rw [hmm] at hm; cases hm)
            refine hi.post (F' := FA F S) (Sd := none') (fun b hb => .inl hb) (fun b hb => hb) (fun b hb => hb.elim) ?_
            rw [hmu, hm']
            exact ⟨vs, rfl, k4⟩
      · rw [hl] at hret; cases hret
    · cases hret

theorem ArgsOK.len : ∀ {ks : List AK} {vs : List Value} {x : kdens ks}, ArgsOK P F w ks vs x → vs.length = ks.length
  | [], vs, _, h => by
    have h : vs = [] := h
    subst h; rfl
  | k :: ks, vs, x, h => by
    obtain ⟨v, r, rfl, _, h2⟩ := h
    simp [ArgsOK.len h2]

/-- A function computes what its specification says, if its body's proposition holds. -/
theorem FOk.intro (hC : CtxOK P C) {stp : St → Oper → Option (Prop × St)} (hstp : StpOK P C stp) {f : FuncId} {s : FSpec} {fn : Func} (hdef : FnDef P f) (hf : P.funcs[f]? = some fn) (hN : C.np = ⟨fn.ntmps, none, 0⟩)
    (hlen : Nat.ble s.args.length fn.ntmps = true) (L : kdens s.args → List LoopI) (h : funI C stp s L fn) : FOk P f s := by
  refine ⟨hdef, ?_⟩
  intro w F vs xs hF ha hp
  unfold funI at h
  split at h
  · rename_i c hb
    have hl := ArgsOK.len ha
    have hlen' : s.args.length ≤ fn.ntmps := Nat.le_of_ble_eq_true hlen
    have hst := Inv0.start (P := P) (N := C.np) hF ha (by rw [hN]; show vs.length ≤ fn.ntmps; omega) (by rw [hN])
    refine calls_of_wp hf hb ?_
    rw [show C.np.n = fn.ntmps by rw [hN]] at hst
    refine wpI_ok hC hstp c (h xs hp (factsK_ok ha)) ⟨F, _, by simpa using hst⟩ ?_ (fun _ _ _ _ h => h.elim) ?_
    · intro st a w' hq hi
      obtain ⟨v, h1, h2⟩ := retP_ok hC hq hi
      obtain ⟨_, _, hi⟩ := hi
      exact ⟨hi.defers, v, h1, h2⟩
    · intro st a w' hq hi
      obtain ⟨v, h1, h2⟩ := retP_ok hC hq hi
      obtain ⟨_, _, hi⟩ := hi
      exact ⟨hi.defers, v, h1, h2⟩
  · cases h
end
end Go.Lf
