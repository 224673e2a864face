/- Code, by value: one proposition for a body. A function, by value: from its body's proposition to its contract. Stores and assignments: by value. append on an alias of an owned slice: the place still holds the old value. append on an alias: its run. One step, by value. -/
import Derived.Test.YtmoonjcbljefaaaLfe
import Derived.Laws.Sem
set_option linter.unusedVariables false
set_option linter.unusedSimpArgs false
namespace Go.Lf

/-- What is known may be replaced by less. -/
def leE : Ent → Ent → Prop
  | _, .dead => True
  | .shr τ x, .shr σ y => match castD (τ := τ) (σ := σ) x with
    | some z => z = y
    | none => False
  | .full e x, .shr σ y => match castD (τ := .slice e) (σ := σ) x with
    | some z => z = y
    | none => False
  | .full e x, .full e' y => match castD (τ := .slice e) (σ := .slice e') x with
    | some z => z = y
    | none => False
  | .own τ m x, .own σ m' y => bif decide (m = m') then (match castD (τ := τ) (σ := σ) x with
    | some z => z = y
    | none => False) else False
  | .box τ m x, .box σ m' y => bif decide (m = m') then (match castD (τ := τ) (σ := σ) x with
    | some z => z = y
    | none => False) else False
  | .saddr τ x, .saddr σ y => match castD (τ := τ) (σ := σ) x with
    | some z => z = y
    | none => False
  | .rd r τ x, .rd r' σ y => bif Nat.beq r r' then (match castD (τ := τ) (σ := σ) x with
    | some z => z = y
    | none => False) else False
  | .raddr r τ x, .raddr r' σ y => bif Nat.beq r r' then (match castD (τ := τ) (σ := σ) x with
    | some z => z = y
    | none => False) else False
  | .sub r p, .sub r' p' => bif Nat.beq r r' then p = p' else False
  | .addr r p, .addr r' p' => bif Nat.beq r r' then p = p' else False
  | .nilS, .nilS => True
  | .nilS, .shr (.slice _) y => y = []
  | .nilS, .own (.slice _) (.own _) y => y = []
  | .fn A R g, .fn A' R' g' => ∃ (h1 : A = A') (h2 : R = R'), (h1 ▸ h2 ▸ g : Fun A' R') = g'
  | _, _ => False

theorem leE_cases {e e' : Ent} (h : leE e e') : e' = .dead ∨ e' = e ∨ (e = .nilS ∧ ∃ τ, e' = .shr (.slice τ) ([] : List τ.den)) ∨ (e = .nilS ∧ ∃ τ me, e' = .own (.slice τ) (.own me) ([] : List τ.den)) ∨
    ∃ e0 x, e = .full e0 x ∧ e' = .shr (.slice e0) x := by
  have aux : ∀ {τ σ : Ty} {x : τ.den} {y : σ.den} {f : (τ : Ty) → τ.den → Ent}, (match castD (τ := τ) (σ := σ) x with | some z => z = y | none => False) → f σ y = f τ x := by
    intro τ σ x y f h
    split at h
    · rename_i z hz
      have := castD_some hz
      injection this with e1 e2
      subst e1; cases e2; subst h; rfl
    · cases h
  unfold leE at h
  split at h
  · exact .inl rfl
  · exact .inr (.inl (aux (f := .shr) h))
  · rename_i e x σ y
    right; right; right; right
    split at h
    · rename_i z hz
      have := castD_some hz
      injection this with e1 e2
      subst e1; cases e2; subst h
      exact ⟨e, x, rfl, rfl⟩
    · cases h
  · rename_i e x e' y
    right; left
    split at h
    · rename_i z hz
      have := castD_some hz
      injection this with e1 e2
      injection e1 with e1
      subst e1; cases e2; subst h; rfl
    · cases h
  · rename_i τ m x σ m' y
    cases hm : decide (m = m')
    · rw [hm] at h; cases h
    · rw [hm] at h
      have := of_decide_eq_true hm
      subst this
      exact .inr (.inl (aux (f := fun τ x => .own τ m x) h))
  · rename_i τ m x σ m' y
    cases hm : decide (m = m')
    · rw [hm] at h; cases h
    · rw [hm] at h
      have := of_decide_eq_true hm
      subst this
      exact .inr (.inl (aux (f := fun τ x => .box τ m x) h))
  · exact .inr (.inl (aux (f := .saddr) h))
  · rename_i r τ x r' σ y
    cases hm : Nat.beq r r'
    · rw [hm] at h; cases h
    · rw [hm] at h
      have := nbeq_iff.1 hm
      subst this
      exact .inr (.inl (aux (f := fun τ x => .rd r τ x) h))
  · rename_i r τ x r' σ y
    cases hm : Nat.beq r r'
    · rw [hm] at h; cases h
    · rw [hm] at h
      have := nbeq_iff.1 hm
      subst this
      exact .inr (.inl (aux (f := fun τ x => .raddr r τ x) h))
  · rename_i r p r' p'
    cases hm : Nat.beq r r'
    · rw [hm] at h; cases h
    · rw [hm] at h
      have := nbeq_iff.1 hm
      subst this
      simp only [cond_true] at h
      subst h
      exact .inr (.inl rfl)
  · rename_i r p r' p'
    cases hm : Nat.beq r r'
    · rw [hm] at h; cases h
    · rw [hm] at h
      have := nbeq_iff.1 hm
      subst this
      simp only [cond_true] at h
      subst h
      exact .inr (.inl rfl)
  · exact .inr (.inl rfl)
  · rename_i τ y
    subst h
    exact .inr (.inr (.inl ⟨rfl, τ, rfl⟩))
  · rename_i τ me y
    subst h
    exact .inr (.inr (.inr (.inl ⟨rfl, τ, me, rfl⟩)))
  · obtain ⟨h1, h2, h⟩ := h
    subst h1; subst h2; subst h
    exact .inr (.inl rfl)
  · cases h

theorem Inv0.le {P : Program} {N : NP} {w0 : World} {F0 H : NSet} {env : St} {a : Act} {w : World} {F : NSet} {S : Nat → NSet} (hi : Inv0 P N w0 F0 H env a w F S) {env2 : St}
    (h1 : ∀ t, leE (env t) (env2 t)) (h2 : ∀ t r, (env2 t).root = some r → (env2 r).isOwner = true) : Inv0 P N w0 F0 H env2 a w F S := by
  refine ⟨hi.os, hi.tape, hi.output, hi.size, hi.block, hi.fb, hi.f0, hi.fn, hi.sb, hi.sd, ?_, hi.defers, hi.slots⟩
  intro t
  have ht := hi.ent t
  rcases leE_cases (h1 t) with h | h | ⟨h, τ, h'⟩ | ⟨h, τ, me, h'⟩ | ⟨e0, x, h, h'⟩
  · rw [h]; trivial
  · rw [h]
    refine EntOK.keep (fun _ h => h) (fun _ _ => rfl) rfl ?_ (fun _ => ⟨rfl, fun _ _ => rfl, fun b h1 h2 => absurd h1 h2⟩) ht
    intro r hr
    refine ⟨fun ho => ?_, fun _ => rfl, rfl, fun _ _ => rfl, fun b h1 h2 => absurd h1 h2, fun b hb => (hi.sb r b hb).2.2⟩
    have ho2 := h2 t r (by rw [h]; exact hr)
    rcases leE_cases (h1 r) with k | k | ⟨k, _, k'⟩ | ⟨k, _, _, k'⟩ | ⟨_, _, k, k'⟩
    · rw [k] at ho2; cases ho2
    · exact k
    · rw [k] at ho; cases ho
    · rw [k] at ho; cases ho
    · rw [k] at ho; cases ho
  · rw [h] at ht
    rw [h']
    have ht : a.tmps.getD t undef = .slice none 0 0 := ht
    show OwnV F w (.slice τ) .shr none' (a.tmps.getD t undef) ([] : List τ.den)
    rw [ht]; exact .nil _ _ _ _ _
  · rw [h] at ht
    rw [h']
    have ht : a.tmps.getD t undef = .slice none 0 0 := ht
    obtain ⟨cs, q1, q2⟩ := OwnV.nil F w τ (.own me) (S t)
    exact ⟨.val cs, S t, cs, .inl ⟨rfl, rfl, rfl, ht.trans q1⟩, rfl, q2⟩
  · rw [h] at ht
    rw [h']
    obtain ⟨_, _, ht⟩ := ht
    exact ht

/-- A loop's invariant: what is known at its head, for some x. -/
structure LoopI where
  ι : Type
  inv : ι → Prop
  dec : ι → Nat
  ovr : ι → List (Nat × Ent)
  keep : List Nat
  sub : ι → List LoopI := fun _ => []

def stx (l : LoopI) (st : St) (x : l.ι) : St := fun t => match look (l.ovr x) t with
  | some e => e
  | none => bif memN l.keep t then st t else .dead

def keysL : List (Nat × Ent) → List Nat
  | [] => []
  | p :: l => p.1 :: keysL l

def leAll (st st' : St) : List Nat → Prop
  | [] => True
  | t :: l => leE (st t) (st' t) ∧ leAll st st' l
def rootsB (st : St) : List Nat → Bool
  | [] => true
  | t :: l => (match (st t).root with
    | some r => (st r).isOwner
    | none => true) && rootsB st l

/-- The loop's head is reached with x. -/
def atX (l : LoopI) (st : St) (x : l.ι) (st' : St) : Prop :=
  bif rootsB (stx l st x) (keysL (l.ovr x) ++ l.keep) then leAll st' (stx l st x) (keysL (l.ovr x) ++ l.keep) else False

def nl : Code → Nat
  | .loop b => 1
  | .seq a b => nl a + nl b
  | .cond _ a b => nl a + nl b
  | .block _ b => nl b
  | _ => 0

def wpI (C : Ctx) (stp : St → Oper → Option (Prop × St)) : List LoopI → Code → Nat → St → (St → Prop) → (Nat → St → Prop) → (St → Prop) → Prop
  | _, .skip, _, st, Qn, _, _ => Qn st
  | L, .region _ ops draw, _, st, Qn, _, _ => match regionA C stp draw st ops.toList with
    | some (c, st') => c ∧ Qn st'
    | none => False
  | L, .seq a b, k, st, Qn, Qx, Qr => wpI C stp L a k st (fun st' => wpI C stp L b (k + nl a) st' Qn Qx Qr) Qx Qr
  | L, .cond x a b, k, st, Qn, Qx, Qr => match (viewO st x).val with
    | some ⟨.bool, p⟩ => (p = true → wpI C stp L a k st Qn Qx Qr) ∧ (p = false → wpI C stp L b (k + nl a) st Qn Qx Qr)
    | _ => False
  | L, .block id b, k, st, Qn, Qx, Qr => wpI C stp L b k st Qn (fun i st' => bif Nat.beq i id then Qn st' else Qx i st') Qr
  | L, .loop b, k, st, _, Qx, Qr => match L[k]? with
    | some l => (∃ x, l.inv x ∧ atX l st x st) ∧ ∀ x, l.inv x → factsL (l.ovr x) [] → wpI C stp (l.sub x) b 0 (stx l st x) (fun st' => ∃ y, l.inv y ∧ l.dec y < l.dec x ∧ atX l st y st') Qx Qr
    | none => False
  | _, .exit id, _, st, _, Qx, _ => Qx id st
  | _, .ret, _, st, _, _, Qr => Qr st
  | _, _, _, _, _, _, _ => False

section
variable {P : Program} {C : Ctx} {w0 : World} {F0 H : NSet}

theorem look_keys : ∀ {l : List (Nat × Ent)} {t : Nat} {e : Ent}, look l t = some e → t ∈ keysL l
  | [], _, _, h => by cases h
  | (k, v) :: l, t, e, h => by
    simp only [look] at h
    cases hb : Nat.beq k t
    · rw [hb] at h; simp only [keysL, List.mem_cons]; exact .inr (look_keys h)
    · simp only [keysL, List.mem_cons]; exact .inl (nbeq_iff.1 hb).symm

theorem leAll_mem {st st' : St} : ∀ {l : List Nat} {t : Nat}, leAll st st' l → t ∈ l → leE (st t) (st' t)
  | x :: l, t, h, ht => by
    rcases List.mem_cons.1 ht with rfl | ht
    · exact h.1
    · exact leAll_mem h.2 ht
theorem rootsB_mem {st : St} : ∀ {l : List Nat} {t r : Nat}, rootsB st l = true → t ∈ l → (st t).root = some r → (st r).isOwner = true
  | x :: l, t, r, h, ht, hr => by
    simp only [rootsB, Bool.and_eq_true] at h
    rcases List.mem_cons.1 ht with rfl | ht
    · have := h.1; rw [hr] at this; exact this
    · exact rootsB_mem h.2 ht hr

theorem leE_dead (e : Ent) : leE e .dead := by cases e <;> trivial

theorem atX_ok {N : NP} {l : LoopI} {st st' : St} {x : l.ι} (h : atX l st x st') {a : Act} {w : World} (hi : Inv P N w0 F0 H st' a w) : Inv P N w0 F0 H (stx l st x) a w := by
  unfold atX at h
  cases hb : rootsB (stx l st x) (keysL (l.ovr x) ++ l.keep)
  · rw [hb] at h; cases h
  rw [hb] at h
  simp only [cond_true] at h
  obtain ⟨F, S, hi⟩ := hi
  have hkey : ∀ t, stx l st x t ≠ .dead → t ∈ keysL (l.ovr x) ++ l.keep := by
    intro t ht
    unfold stx at ht
    rw [List.mem_append]
    cases hl : look (l.ovr x) t with
    | some e => exact .inl (look_keys hl)
    | none =>
      rw [hl] at ht
      simp only [] at ht
      cases hm : memN l.keep t
      · rw [hm] at ht; exact absurd rfl ht
      · exact .inr (memN_mem.1 hm)
  refine ⟨F, S, hi.le ?_ ?_⟩
  · intro t
    by_cases ht : stx l st x t = .dead
    · rw [ht]; exact leE_dead _
    · exact leAll_mem h (hkey t ht)
  · intro t r hr
    exact rootsB_mem hb (hkey t (fun h => by rw [h] at hr; cases hr)) hr

/-- A loop with an invariant that says of some x what is known. -/
theorem wp_loop_x {c : Code} {ι : Type} (I : ι → Act → World → Prop) (dec : ι → Nat) {Q : Exit → Act → World → Prop} {a : Act} {w : World} (x : ι) (h0 : I x a w)
    (round : ∀ x a w, I x a w → c.wp P (Exit.then (fun a' w' => ∃ y, I y a' w' ∧ dec y < dec x) Q) a w) : (Code.loop c).wp P Q a w := by
  have hmin : ∀ (p : Nat → Prop) (n : Nat), p n → ∃ m, p m ∧ ∀ k, p k → m ≤ k := by
    intro p n
    induction n using Nat.strongRecOn with
    | _ n ih =>
      intro hn
      by_cases h : ∃ m, m < n ∧ p m
      · obtain ⟨m, h1, h2⟩ := h; exact ih m h1 h2
      · refine ⟨n, hn, fun k hk => ?_⟩
        rcases Nat.lt_or_ge k n with h' | h'
        · exact absurd ⟨k, h', hk⟩ h
        · exact h'
  let p : Act → World → Nat → Prop := fun a w n => ∃ x, I x a w ∧ dec x = n
  have hex : ∀ a w, ∃ m, (∃ n, p a w n) → p a w m ∧ ∀ k, p a w k → m ≤ k := by
    intro a w
    by_cases h : ∃ n, p a w n
    · obtain ⟨n, hn⟩ := h
      obtain ⟨m, h1, h2⟩ := hmin (p a w) n hn
      exact ⟨m, fun _ => ⟨h1, h2⟩⟩
    · exact ⟨0, fun h' => absurd h' h⟩
  let μ : Act → World → Nat := fun a w => Classical.choose (hex a w)
  have hμ : ∀ a w, (∃ n, p a w n) → p a w (μ a w) ∧ ∀ k, p a w k → μ a w ≤ k := fun a w => Classical.choose_spec (hex a w)
  refine wp_loop (fun a w => ∃ x, I x a w) μ ⟨x, h0⟩ ?_
  intro a w ⟨x, hx⟩
  obtain ⟨⟨y, hy, hd⟩, _⟩ := hμ a w ⟨_, x, hx, rfl⟩
  refine wp_mono (round y a w hy) ?_
  intro e a' w' h
  cases e with
  | normal =>
    obtain ⟨z, hz, hlt⟩ := h
    refine ⟨⟨z, hz⟩, ?_⟩
    have := (hμ a' w' ⟨_, z, hz, rfl⟩).2 _ ⟨z, hz, rfl⟩
    omega
  | _ => exact h

theorem wpI_ok (hC : CtxOK P C) {stp : St → Oper → Option (Prop × St)} (hstp : StpOK P C stp) :
    ∀ (c : Code) {L : List LoopI} {k : Nat} {st : St} {Qn : St → Prop} {Qx : Nat → St → Prop} {Qr : St → Prop} {Q : Exit → Act → World → Prop} {a : Act} {w : World}, wpI C stp L c k st Qn Qx Qr → Inv P C.np w0 F0 H st a w →
      (∀ st a w, Qn st → Inv P C.np w0 F0 H st a w → Q .normal a w) → (∀ i st a w, Qx i st → Inv P C.np w0 F0 H st a w → Q (.exit i) a w) → (∀ st a w, Qr st → Inv P C.np w0 F0 H st a w → Q .ret a w) → c.wp P Q a w
  | .skip, L, k, st, Qn, Qx, Qr, Q, a, w, h, hi, hn, hx, hr => wp_skip (hn _ _ _ h hi)
  | .region id ops draw, L, k, st, Qn, Qx, Qr, Q, a, w, h, hi, hn, hx, hr => by
    simp only [wpI] at h
    split at h
    · rename_i c st' hr'
      exact regionA_ok hC hstp hr' h.1 hi (fun a' w' hi' => hn _ _ _ h.2 hi')
    · cases h
  | .seq x y, L, k, st, Qn, Qx, Qr, Q, a, w, h, hi, hn, hx, hr => by
    simp only [wpI] at h
    refine wp_seq (wpI_ok hC hstp x h hi ?_ ?_ ?_)
    · intro st1 a1 w1 h1 hi1
      exact wpI_ok hC hstp y h1 hi1 hn hx hr
    · exact hx
    · exact hr
  | .cond z x y, L, k, st, Qn, Qx, Qr, Q, a, w, h, hi, hn, hx, hr => by
    simp only [wpI] at h
    split at h
    · rename_i p hv
      obtain ⟨F, S, hi0⟩ := hi
      have := (View.val_ok hi0 (viewO_ok hi0 z) hv).bool_eq
      refine wp_cond_split this (fun hp => wpI_ok hC hstp x (h.1 hp) ⟨F, S, hi0⟩ hn hx hr) (fun hp => wpI_ok hC hstp y (h.2 hp) ⟨F, S, hi0⟩ hn hx hr)
    · cases h
  | .block id b, L, k, st, Qn, Qx, Qr, Q, a, w, h, hi, hn, hx, hr => by
    simp only [wpI] at h
    refine wp_block (wpI_ok hC hstp b h hi hn ?_ hr)
    intro i st1 a1 w1 h1 hi1
    simp only [Exit.inBlock]
    cases hb : Nat.beq i id
    · rw [hb] at h1
      have : i ≠ id := fun e => by subst e; rw [Nat.beq_refl] at hb; cases hb
      rw [if_neg this]
      exact hx _ _ _ _ h1 hi1
    · rw [hb] at h1
      rw [if_pos (nbeq_iff.1 hb)]
      exact hn _ _ _ h1 hi1
  | .loop b, L, k, st, Qn, Qx, Qr, Q, a, w, h, hi, hn, hx, hr => by
    simp only [wpI] at h
    split at h
    · rename_i l hl
      obtain ⟨⟨x, h1, h2⟩, h3⟩ := h
      refine wp_loop_x (fun x a w => l.inv x ∧ Inv P C.np w0 F0 H (stx l st x) a w) l.dec x ⟨h1, atX_ok h2 hi⟩ ?_
      intro y a1 w1 ⟨g1, g2⟩
      refine wpI_ok hC hstp b (h3 y g1 (factsL_ok g2 (f := l.ovr y) (fun t e h => by simp only [stx, h]) (l.ovr y) [] (fun t e _ h => h))) g2 ?_ hx hr
      intro st2 a2 w2 ⟨z, k1, k2, k3⟩ hi2
      exact ⟨z, ⟨k1, atX_ok k3 hi2⟩, k2⟩
    · cases h
  | .exit id, L, k, st, Qn, Qx, Qr, Q, a, w, h, hi, hn, hx, hr => wp_exit (hx _ _ _ _ h hi)
  | .ret, L, k, st, Qn, Qx, Qr, Q, a, w, h, hi, hn, hx, hr => wp_ret (hr _ _ _ h hi)
  | .rangeFunc _ _ _ _, _, _, _, _, _, _, _, _, _, h, _, _, _, _ => by simp only [wpI] at h
  | .scope _, _, _, _, _, _, _, _, _, _, h, _, _, _, _ => by simp only [wpI] at h
  | .label _, _, _, _, _, _, _, _, _, _, h, _, _, _, _ => by simp only [wpI] at h
  | .goto _, _, _, _, _, _, _, _, _, _, h, _, _, _, _ => by simp only [wpI] at h
  | .refuse _, _, _, _, _, _, _, _, _, _, h, _, _, _, _ => by simp only [wpI] at h
end
end Go.Lf
namespace Go.Lf

/-- What the parameters' slots hold at the beginning. -/
def argEnt : (k : AK) → k.den → Ent
  | .val τ, x => .shr τ x
  | .fn A R, g => .fn A R g
  | .sptr τ, x => .saddr τ x
def argsEnt : (ks : List AK) → kdens ks → Nat → List (Nat × Ent)
  | [], _, _ => []
  | k :: ks, x, n => (n, argEnt k x.1) :: argsEnt ks x.2 (n + 1)
def ofL (l : List (Nat × Ent)) : St := fun t => match look l t with
  | some e => e
  | none => .dead

/-- A result that is handed over: the value, the owner that it is taken from. -/
def ownR (τ : Ty) (m : Md) (v : View) : Option (τ.den × List Nat) :=
  match v.shrAs τ with
  | some x => bif shrM m || τ.flat then some (x, []) else v.ownAs τ m
  | none => match v.e with
    | .sub r [] => match v.r with
      | .own σ m' x => bif decide (m' = m) then (castD (τ := σ) (σ := τ) x).map fun y => (y, [r]) else none
      | .box σ m' x => bif decide (m' = m) then (castD (τ := σ) (σ := τ) x).map fun y => (y, [r]) else none
      | _ => none
    | _ => v.ownAs τ m

/-- A result by value. -/
def readR (τ : Ty) (v : View) : Option τ.den :=
  match v.shrAs τ with
  | some x => some x
  | none => match v.val with
    | some ⟨σ, x⟩ => castD (τ := σ) (σ := τ) x
    | none => none

/-- What a result's variable holds. -/
def resV (C : Ctx) (st : St) : ResultVar → Option View
  | .tmp t => some (viewO st (.tmp t))
  | .cell _ _ => none

def ownRs : (τ : Ty) → Md → List View → Option (τ.den × List Nat)
  | .unit, _, [] => some ((), [])
  | .prod a b, m, v :: vs => match ownR a m.fst v, ownRs b m.snd vs with
    | some (x, l), some (y, l') => some ((x, y), l ++ l')
    | _, _ => none
  | _, _, _ => none
def readRs : (τ : Ty) → List View → Option τ.den
  | .unit, [] => some ()
  | .prod a b, v :: vs => match readR a v, readRs b vs with
    | some x, some y => some (x, y)
    | _, _ => none
  | _, _ => none

def cellOf (st : St) (T : TypeId) (C : Ctx) (t : Nat) (τ : Ty) : Option τ.den :=
  match st t with
  | .box σ _ x => bif decide (look C.tys T = some τ) then castD (τ := σ) (σ := τ) x else none
  | _ => none

/-- A box's content, handed over. -/
def cellOwn (st : St) (T : TypeId) (C : Ctx) (t : Nat) (τ : Ty) (md : Md) : Option τ.den :=
  match st t with
  | .box σ m x => bif decide (look C.tys T = some τ) && decide (m = md) then castD (τ := σ) (σ := τ) x else none
  | _ => none

def viewsR (st : St) : List ResultVar → Option (List View)
  | [] => some []
  | .tmp t :: l => match viewsR st l with
    | some vs => some (viewO st (.tmp t) :: vs)
    | none => none
  | .cell _ _ :: _ => none

/-- What is returned. -/
def retE (C : Ctx) (rs : List ResultVar) (s : FSpec) (st : St) : Option s.res.den :=
  match rs, s.multi with
  | [.tmp t], false => match ownR s.res s.mode (viewO st (.tmp t)) with
    | some (x, _) => some x
    | none => bif shrM s.mode then readR s.res (viewO st (.tmp t)) else none
  | [.cell t T], false => bif s.res.flat || shrM s.mode then cellOf st T C t s.res else cellOwn st T C t s.res s.mode
  | _, true => bif Nat.beq rs.length 1 then none else match viewsR st rs with
    | some vs => match ownRs s.res s.mode vs with
      | some (x, l) => bif nodupN l then some x else none
      | none => bif shrM s.mode then readRs s.res vs else none
    | none => none
  | _, _ => none

def retP (C : Ctx) (rs : List ResultVar) (s : FSpec) (y : s.res.den) (st : St) : Prop := match retE C rs s st with
  | some x => x = y
  | none => False

/-- The proposition for a function's body. -/
def funI (C : Ctx) (stp : St → Oper → Option (Prop × St)) (s : FSpec) (L : kdens s.args → List LoopI) (fn : Func) : Prop :=
  match fn.body with
  | some c => ∀ x, s.pre x → factsK s.args x → wpI C stp (L x) c 0 (ofL (argsEnt s.args x 0)) (retP C fn.results.toList s (s.fn x)) (fun _ _ => False) (retP C fn.results.toList s (s.fn x))
  | none => False

section
variable {P : Program} {C : Ctx} {N : NP} {w0 : World} {F0 H : NSet} {env : St} {a : Act} {w : World} {F : NSet} {S : Nat → NSet}

theorem argEnt_ok {k : AK} {v : Value} {x : k.den} (h : ArgOK P F w k v x) {V : Nat → Value} {t : Nat} (hV : V t = v) : EntOK P F w env V S t (argEnt k x) := by
  cases k with
  | val τ => show OwnV F w τ .shr none' (V t) x; rw [hV]; exact h
  | fn A R => show FnVal P F w (V t) A R x; rw [hV]; exact h
  | sptr τ => show SAddr F w (V t) τ x; rw [hV]; exact h

theorem argsEnt_ok {V : Nat → Value} : ∀ {ks : List AK} {vs : List Value} {x : kdens ks} {n : Nat}, ArgsOK P F w ks vs x → (∀ i v, vs[i]? = some v → V (n + i) = v) →
    vs.length = ks.length ∧ ∀ t e, look (argsEnt ks x n) t = some e → e.isOwner = false ∧ e.root = none ∧ EntOK P F w env V S t e
  | [], vs, x, n, h, hV => by
    have h : vs = [] := h
    subst h; exact ⟨rfl, fun t e h => by cases h⟩
  | k :: ks, vs, x, n, h, hV => by
    obtain ⟨v, r, rfl, h1, h2⟩ := h
    obtain ⟨g1, g2⟩ := argsEnt_ok (V := V) (n := n + 1) h2 (fun i u hu => by have := hV (i + 1) u (by simpa using hu); rw [← this]; congr 1; omega)
    refine ⟨by simp [g1], fun t e he => ?_⟩
    simp only [argsEnt, look] at he
    cases hb : Nat.beq n t
    · rw [hb] at he; exact g2 t e he
    · rw [hb] at he
      simp only [cond_true, Option.some.injEq] at he
      subst he
      have ht := nbeq_iff.1 hb
      subst ht
      refine ⟨by cases k <;> rfl, by cases k <;> rfl, argEnt_ok h1 (by have := hV 0 v rfl; simpa using this)⟩

/-- The beginning of a call. -/
theorem Inv0.start {ks : List AK} {vs : List Value} {x : kdens ks} (hF : ∀ b, F b → b < w.heap.size) (h : ArgsOK P F w ks vs x) (hn : vs.length ≤ N.n) :
    Inv0 P N w F none' (ofL (argsEnt ks x 0)) { tmps := vs.toArray ++ Array.replicate (N.n - vs.length) undef, defers := [] } w F (fun _ => none') := by
  have hV : ∀ i v, vs[i]? = some v → (vs.toArray ++ Array.replicate (N.n - vs.length) undef).getD (0 + i) undef = v := by
    intro i v hv
    have hi : i < vs.length := by
      rcases Nat.lt_or_ge i vs.length with h | h
      · exact h
      · rw [List.getElem?_eq_none h] at hv; cases hv
    rw [Nat.zero_add, Array.getD_eq_getD_getElem?, Array.getElem?_append_left (by simpa using hi)]
    simp [hv]
  have he := argsEnt_ok (env := ofL (argsEnt ks x 0)) (S := fun _ => none') (V := fun t => (vs.toArray ++ Array.replicate (N.n - vs.length) undef).getD t undef) (n := 0) h hV
  refine ⟨rfl, rfl, rfl, Nat.le_refl _, fun _ _ _ => rfl, hF, fun _ h => h, fun b h1 h2 => absurd h1 h2, fun _ _ h => h.elim, fun _ _ _ _ h => h.elim, ?_, rfl, ⟨by simp; omega, fun _ h => h.elim⟩⟩
  intro t
  show EntOK P F w (ofL (argsEnt ks x 0)) (fun t => (vs.toArray ++ Array.replicate (N.n - vs.length) undef).getD t undef) (fun _ => none') t (match look (argsEnt ks x 0) t with | some e => e | none => .dead)
  cases hl : look (argsEnt ks x 0) t with
  | none => trivial
  | some e => exact (he.2 t e hl).2.2

theorem ownR_ok (hi : Inv0 P N w0 F0 H env a w F S) {v : Value} {vw : View} (hv : ViewOK P F w env (fun t => a.tmps.getD t undef) S v vw) {τ : Ty} {m : Md} {x : τ.den} {l : List Nat} (h : ownR τ m vw = some (x, l)) :
    (l = [] ∧ OwnV F w τ m none' v x) ∨ ∃ t, l = [t] ∧ OwnV F w τ m (S t) v x := by
  unfold ownR at h
  split at h
  · rename_i y hy
    cases hb : (shrM m || τ.flat)
    · rw [hb] at h; exact ownAs_ok hi hv h
    · rw [hb] at h
      simp only [cond_true, Option.some.injEq, Prod.mk.injEq] at h
      obtain ⟨rfl, rfl⟩ := h
      have := shrAs_ok hi hv hy
      simp only [Bool.or_eq_true] at hb
      rcases hb with hb | hb
      · have hm : m = .shr := by cases m <;> first | rfl | cases hb
        subst hm
        exact .inl ⟨rfl, this⟩
      · exact .inl ⟨rfl, OwnV.flat hb this⟩
  · split at h
    · rename_i r he
      split at h
      · rename_i σ m' y hr
        cases hm : decide (m' = m)
        · rw [hm] at h; cases h
        · rw [hm] at h
          have hm := of_decide_eq_true hm
          subst hm
          simp only [cond_true, Option.map_eq_some_iff, Prod.mk.injEq] at h
          obtain ⟨z, h1, rfl, rfl⟩ := h
          have := castD_some h1
          injection this with e1 e2; subst e1; cases e2
          right
          refine ⟨r, rfl, ?_⟩
          have h2 := hv.ent (by rw [he]; rfl) (r + 1) (by rw [he]; simp [Ent.root])
          rw [he] at h2
          simp only [EntOK, if_true] at h2
          obtain ⟨τ0, m0, x0, pl, S0, cs, σ', μ, pl', cs', g1, g2, g3, g4, g5, g6, g7⟩ := h2
          simp only [show ¬ (r = r + 1) from by omega, if_false] at g1
          have hroot := hv.root
          rw [he] at hroot
          simp only [rootE, Ent.root] at hroot
          rw [← hroot, hr] at g1
          obtain ⟨e1, e2, e3, e4, e5⟩ := g1.own_inj
          injection e1 with e6 e7
          subst e6; cases e7; subst e2; subst e3; subst e4
          simp only [loc, Option.some.injEq, Prod.mk.injEq] at g2
          obtain ⟨rfl, rfl⟩ := g2
          simp only [Place.read, Option.some.injEq] at g3
          subst g3
          exact ⟨cs, g4, g1.2.2⟩
      · rename_i σ m' y hr
        cases hm : decide (m' = m)
        · rw [hm] at h; cases h
        · rw [hm] at h
          have hm := of_decide_eq_true hm
          subst hm
          simp only [cond_true, Option.map_eq_some_iff, Prod.mk.injEq] at h
          obtain ⟨z, h1, rfl, rfl⟩ := h
          have := castD_some h1
          injection this with e1 e2; subst e1; cases e2
          right
          refine ⟨r, rfl, ?_⟩
          have h2 := hv.ent (by rw [he]; rfl) (r + 1) (by rw [he]; simp [Ent.root])
          rw [he] at h2
          simp only [EntOK, if_true] at h2
          obtain ⟨τ0, m0, x0, pl, S0, cs, σ', μ, pl', cs', g1, g2, g3, g4, g5, g6, g7⟩ := h2
          simp only [show ¬ (r = r + 1) from by omega, if_false] at g1
          have hroot := hv.root
          rw [he] at hroot
          simp only [rootE, Ent.root] at hroot
          rw [← hroot, hr] at g1
          obtain ⟨e1, e2, b, e3, e4, e5, e6⟩ := g1.box_inj
          injection e1 with e7 e8
          subst e7; cases e8; subst e2
          simp only [loc, Option.some.injEq, Prod.mk.injEq] at g2
          obtain ⟨rfl, rfl⟩ := g2
          have g3' := g1.2.1.read.symm.trans g3
          simp only [Option.some.injEq] at g3'
          subst g3'
          exact ⟨cs, g4, g1.2.2.mono (fun _ h => h) g1.sub⟩
      · cases h
    · exact ownAs_ok hi hv h

theorem readR_ok (hi : Inv0 P N w0 F0 H env a w F S) {v : Value} {vw : View} (hv : ViewOK P F w env (fun t => a.tmps.getD t undef) S v vw) {τ : Ty} {x : τ.den} (h : readR τ vw = some x) :
    OwnV (FA F S) w τ .shr none' v x := by
  unfold readR at h
  split at h
  · rename_i y hy
    simp only [Option.some.injEq] at h
    subst h
    exact (shrAs_ok hi hv hy).mono (fun b hb => .inl hb) (fun _ h => h)
  · split at h
    · rename_i σ y hy
      have := castD_some h
      injection this with e1 e2; subst e1; cases e2
      exact View.val_ok hi hv hy
    · cases h

def resG (a : Act) : ResultVar → Sem Value
  | ResultVar.tmp t => (pure (a.tmps.getD t undef) : Sem Value)
  | .cell b t => do loadVar t (← asAddr (a.tmps.getD b undef))

theorem viewsR_ok (hi : Inv0 P N w0 F0 H env a w F S) : ∀ {rs : List ResultVar} {vws : List View}, viewsR env rs = some vws →
    ∃ vs, VsOK P F w env (fun t => a.tmps.getD t undef) S vs vws ∧ (rs.mapM (resG a)).run P w = .ok vs w ∧ vs.length = rs.length
  | [], vws, h => by
    simp only [viewsR, Option.some.injEq] at h
    subst h
    exact ⟨[], trivial, by simp [Sem.run_pure], rfl⟩
  | .tmp t :: rs, vws, h => by
    simp only [viewsR] at h
    split at h
    · rename_i vws' h'
      simp only [Option.some.injEq] at h
      subst h
      obtain ⟨vs, h1, h2, h3⟩ := viewsR_ok hi h'
      refine ⟨a.tmps.getD t undef :: vs, ⟨viewO_ok hi (.tmp t), h1⟩, ?_, by simp [h3]⟩
      rw [List.mapM_cons]
      simp only [resG, Sem.run_bind, Sem.run_pure, Result.andThen]
      rw [h2]
    · cases h
  | .cell _ _ :: _, _, h => by cases h

theorem ownRs_ok (hi : Inv0 P N w0 F0 H env a w F S) : ∀ {τ : Ty} {m : Md} {vs : List Value} {vws : List View} {x : τ.den} {l : List Nat},
    VsOK P F w env (fun t => a.tmps.getD t undef) S vs vws → ownRs τ m vws = some (x, l) → nodupN l = true → TupOK F w τ m (SL S l) vs x
  | .unit, m, [], [], x, l, _, h, _ => rfl
  | .prod A B, m, v :: vs, vw :: vws, x, l, ⟨hv, hvs⟩, h, hn => by
    simp only [ownRs] at h
    split at h
    · rename_i y l1 z l2 h1 h2
      simp only [Option.some.injEq, Prod.mk.injEq] at h
      obtain ⟨rfl, rfl⟩ := h
      have hfst : ∃ S1, Sub S1 (SL S l1) ∧ OwnV F w A m.fst S1 v y := by
        rcases ownR_ok hi hv h1 with ⟨rfl, h3⟩ | ⟨t, rfl, h3⟩
        · exact ⟨none', fun _ h => h.elim, h3⟩
        · exact ⟨S t, fun b hb => ⟨t, by simp, hb⟩, h3⟩
      have hn2 : nodupN l2 = true ∧ ∀ t, t ∈ l1 → t ∉ l2 := by
        rcases ownR_ok hi hv h1 with ⟨rfl, h3⟩ | ⟨t, rfl, h3⟩
        · exact ⟨hn, fun _ h => by cases h⟩
        · have := nodup_cons hn
          exact ⟨this.2, fun u hu => by simp at hu; subst hu; exact this.1⟩
      obtain ⟨S1, k1, k2⟩ := hfst
      refine ⟨v, vs, S1, SL S l2, rfl, ?_, ?_, ?_, k2, ownRs_ok hi hvs h2 hn2.1⟩
      · intro b hb; obtain ⟨t, ht, hb⟩ := k1 b hb; exact ⟨t, by simp [ht], hb⟩
      · intro b hb; obtain ⟨t, ht, hb⟩ := hb; exact ⟨t, by simp [ht], hb⟩
      · intro b hb1 hb2
        obtain ⟨t1, ht1, hb1⟩ := k1 b hb1
        obtain ⟨t2, ht2, hb2⟩ := hb2
        exact hi.sd t1 t2 (fun h => hn2.2 t1 ht1 (h ▸ ht2)) b hb1 hb2
    · cases h
  | .prod _ _, _, [], [], _, _, _, h, _ => by simp [ownRs] at h
  | .prod _ _, _, [], _ :: _, _, _, h, _, _ => h.elim
  | .prod _ _, _, _ :: _, [], _, _, h, _, _ => h.elim
  | .unit, _, [], _ :: _, _, _, h, _, _ => h.elim
  | .unit, _, _ :: _, [], _, _, h, _, _ => h.elim
  | .unit, _, _ :: _, _ :: _, _, _, _, h, _ => by simp [ownRs] at h
  | .int _, _, _, _, _, _, _, h, _ => by simp [ownRs] at h
  | .bool, _, _, _, _, _, _, h, _ => by simp [ownRs] at h
  | .str, _, _, _, _, _, _, h, _ => by simp [ownRs] at h
  | .slice _, _, _, _, _, _, _, h, _ => by simp [ownRs] at h
  | .arr _ _, _, _, _, _, _, _, h, _ => by simp [ownRs] at h

theorem readRs_ok (hi : Inv0 P N w0 F0 H env a w F S) : ∀ {τ : Ty} {vs : List Value} {vws : List View} {x : τ.den},
    VsOK P F w env (fun t => a.tmps.getD t undef) S vs vws → readRs τ vws = some x → TupOK (FA F S) w τ .shr none' vs x
  | .unit, [], [], x, _, h => rfl
  | .prod A B, v :: vs, vw :: vws, x, ⟨hv, hvs⟩, h => by
    simp only [readRs] at h
    split at h
    · rename_i y z h1 h2
      simp only [Option.some.injEq] at h
      subst h
      exact ⟨v, vs, none', none', rfl, fun _ h => h, fun _ h => h, fun _ h => h.elim, readR_ok hi hv h1, readRs_ok hi hvs h2⟩
    · cases h
  | .prod _ _, [], [], _, _, h => by simp [readRs] at h
  | .prod _ _, [], _ :: _, _, h, _ => h.elim
  | .prod _ _, _ :: _, [], _, h, _ => h.elim
  | .unit, [], _ :: _, _, h, _ => h.elim
  | .unit, _ :: _, [], _, h, _ => h.elim
  | .unit, _ :: _, _ :: _, _, _, h => by simp [readRs] at h
  | .int _, _, _, _, _, h => by simp [readRs] at h
  | .bool, _, _, _, _, h => by simp [readRs] at h
  | .str, _, _, _, _, h => by simp [readRs] at h
  | .slice _, _, _, _, _, h => by simp [readRs] at h
  | .arr _ _, _, _, _, _, h => by simp [readRs] at h

/-- What a call leaves, out of the frame's invariant at its end. -/
theorem Inv0.post {F : NSet} (hi : Inv0 P N w0 F0 none' env a w F S) {multi : Bool} {τ : Ty} {m : Md} {v : Value} {x : τ.den} {F' Sd : NSet}
    (hF : Sub F F') (hF' : ∀ b, F' b → F b ∨ ∃ t, S t b) (hS : ∀ b, Sd b → (∃ t, S t b) ∧ ¬ F' b) (h : RetV F' w multi τ m Sd v x) :
    Post F0 w0 multi τ m x (.returned v) w := by
  have hnew : ∀ b, (∃ t, S t b) → w0.heap.size ≤ b ∧ b < w.heap.size := by
    rintro b ⟨t, hb⟩
    obtain ⟨h1, h2, _⟩ := hi.sb t b hb
    exact ⟨h1.elim id (fun h => h.elim), h2⟩
  refine ⟨v, F', Sd, rfl, ?_, fun b hb => hF b (hi.f0 b hb), ?_, ?_, ?_, h⟩
  · exact ⟨hi.os, hi.tape, hi.output, hi.size, fun k hk => hi.block k hk (fun h => h)⟩
  · intro b h1 h2
    rcases hF' b h1 with h | h
    · exact (hi.fn b h h2).elim id (fun h => h.elim)
    · exact (hnew b h).1
  · intro b h
    rcases h with h | h
    · rcases hF' b h with h | h
      · exact hi.fb b h
      · exact (hnew b h).2
    · exact (hnew b (hS b h).1).2
  · intro b h
    exact ⟨(hnew b (hS b h).1).1, (hS b h).2⟩


theorem results_run {fn : Func} {vs : List Value} (h : (fn.results.toList.mapM (resG a)).run P w = .ok vs w) :
    (results fn a.tmps).run P w = .ok (if h : vs.toArray.size = 1 then vs.toArray[0] else .tuple vs.toArray) w := by
  have e : results fn a.tmps = (fn.results.mapM (resG a)) >>= fun vs => pure (if h : vs.size = 1 then vs[0] else .tuple vs) := by
    unfold results
    congr 1
  rw [e, Array.mapM_eq_mapM_toList]
  simp only [map_eq_pure_bind, Sem.run_bind, h, Result.andThen, Sem.run_pure]

theorem retP_ok (hC : CtxOK P C) {s : FSpec} {fn : Func} {y : s.res.den} (h : retP C fn.results.toList s y env) {a : Act} {w : World} (hi : Inv P N w0 F0 none' env a w) :
    ∃ v, (results fn a.tmps).run P w = .ok v w ∧ Post F0 w0 s.multi s.res s.mode y (.returned v) w := by
  unfold retP at h
  generalize hret : retE C fn.results.toList s env = g at h
  cases g with
  | none => cases h
  | some x =>
    simp only [] at h
    subst h
    obtain ⟨F, S, hi⟩ := hi
    have hFA : ∀ {m : Md} {v : Value}, shrM m = true → OwnV (FA F S) w s.res .shr none' v x → s.multi = false → m = s.mode → Post F0 w0 s.multi s.res s.mode x (.returned v) w := by
      intro m v hm hv hmu hms
      subst hms
      have hm' : s.mode = .shr := by cases hmm : s.mode <;> first | rfl | (rw [hmm] at hm; cases hm)
      refine hi.post (F' := FA F S) (Sd := none') (fun b hb => .inl hb) (fun b hb => hb) (fun b hb => hb.elim) ?_
      rw [hmu, hm']
      exact hv
    unfold retE at hret
    split at hret
    · rename_i t hrs hmu
      have hrun := results_run (P := P) (w := w) (a := a) (fn := fn) (vs := [a.tmps.getD t undef]) (by rw [hrs]; simp [resG, Sem.run_bind, Sem.run_pure, Result.andThen])
      refine ⟨_, hrun, ?_⟩
      simp only [List.size_toArray, List.length_cons, List.length_nil, Nat.zero_add, dite_true]
      show Post F0 w0 s.multi s.res s.mode x (.returned (a.tmps.getD t undef)) w
      have hv := viewO_ok hi (.tmp t)
      split at hret
      · rename_i z l hz
        simp only [Option.some.injEq] at hret
        subst hret
        rcases ownR_ok hi hv hz with ⟨rfl, h⟩ | ⟨u, rfl, h⟩
        · refine hi.post (F' := F) (Sd := none') (fun b hb => hb) (fun b hb => .inl hb) (fun b hb => hb.elim) ?_
          rw [hmu]; exact h
        · refine hi.post (F' := F) (Sd := S u) (fun b hb => hb) (fun b hb => .inl hb) (fun b hb => ⟨⟨u, hb⟩, (hi.sb u b hb).2.2⟩) ?_
          rw [hmu]; exact h
      · cases hm : shrM s.mode
        · rw [hm] at hret; cases hret
        · rw [hm] at hret
          simp only [cond_true] at hret
          exact hFA hm (readR_ok hi hv hret) hmu rfl
    · rename_i t T hrs hmu
      cases hm : (s.res.flat || shrM s.mode)
      · rw [hm] at hret
        simp only [cond_false] at hret
        unfold cellOwn at hret
        split at hret
        · rename_i σ m z he
          cases hT : (decide (look C.tys T = some s.res) && decide (m = s.mode))
          · rw [hT] at hret; cases hret
          rw [hT] at hret
          simp only [cond_true] at hret
          simp only [Bool.and_eq_true, decide_eq_true_eq] at hT
          obtain ⟨hT', hmd⟩ := hT
          have := castD_some hret
          injection this with e1 e2
          subst e1; cases e2
          have h1 := hi.ent t
          rw [he] at h1
          obtain ⟨pl, S0, cs, h1⟩ := h1
          obtain ⟨_, _, b, rfl, rfl, hv, hb⟩ := h1.box_inj
          obtain ⟨q1, q2, row, T0, q3, q4, q5⟩ := h1.2.1
          have hl := (hC.types T _ hT').loadVar q3 q4
          rw [q5] at hl
          have hrun := results_run (P := P) (w := w) (a := a) (fn := fn) (vs := [slotv s.res cs]) (by
            rw [hrs]
            simp only [List.mapM_cons, List.mapM_nil, resG, hv, asAddr, Sem.run_bind, Sem.run_pure, Result.andThen, hl])
          refine ⟨_, hrun, ?_⟩
          simp only [List.size_toArray, List.length_cons, List.length_nil, Nat.zero_add, dite_true]
          show Post F0 w0 s.multi s.res s.mode _ (.returned (slotv s.res cs)) w
          refine hi.post (F' := F) (Sd := fun k => S t k ∧ k ≠ b) (fun b hb => hb) (fun b hb => .inl hb) (fun k hk => ⟨⟨t, hk.1⟩, (hi.sb t k hk.1).2.2⟩) ?_
          rw [hmu]
          show OwnV F w s.res s.mode _ _ _
          rw [← hmd]
          exact ⟨cs, rfl, h1.2.2⟩
        · cases hret
      rw [hm] at hret
      simp only [cond_true] at hret
      unfold cellOf at hret
      split at hret
      · rename_i σ m z he
        cases hT : decide (look C.tys T = some s.res)
        · rw [hT] at hret; cases hret
        rw [hT] at hret
        simp only [cond_true] at hret
        have hT' := of_decide_eq_true hT
        have := castD_some hret
        injection this with e1 e2
        subst e1; cases e2
        have h1 := hi.ent t
        rw [he] at h1
        obtain ⟨pl, S0, cs, h1⟩ := h1
        obtain ⟨_, _, b, rfl, rfl, hv, hb⟩ := h1.box_inj
        obtain ⟨q1, q2, row, T0, q3, q4, q5⟩ := h1.2.1
        have hl := (hC.types T _ hT').loadVar q3 q4
        rw [q5] at hl
        have hrun := results_run (P := P) (w := w) (a := a) (fn := fn) (vs := [slotv s.res cs]) (by
          rw [hrs]
          simp only [List.mapM_cons, List.mapM_nil, resG, hv, asAddr, Sem.run_bind, Sem.run_pure, Result.andThen, hl])
        refine ⟨_, hrun, ?_⟩
        simp only [List.size_toArray, List.length_cons, List.length_nil, Nat.zero_add, dite_true]
        show Post F0 w0 s.multi s.res s.mode _ (.returned (slotv s.res cs)) w
        have hO : OwnV F w s.res m (fun k => S t k ∧ k ≠ b) (slotv s.res cs) _ := ⟨cs, rfl, h1.2.2⟩
        simp only [Bool.or_eq_true] at hm
        rcases hm with hm | hm
        · refine hi.post (F' := F) (Sd := none') (fun b hb => hb) (fun b hb => .inl hb) (fun b hb => hb.elim) ?_
          rw [hmu]; exact OwnV.flat hm hO
        · exact hFA hm (hO.freeze (fun k hk => hk.imp id fun hk => ⟨t, hk.1⟩)) hmu rfl
      · cases hret
    · rename_i hmu
      cases hl : Nat.beq fn.results.toList.length 1
      · rw [hl] at hret
        simp only [cond_false] at hret
        split at hret
        · rename_i vws hvs
          obtain ⟨vs, k1, k2, k3⟩ := viewsR_ok hi hvs
          have hrun := results_run (P := P) (w := w) (a := a) (fn := fn) (vs := vs) k2
          have hne : ¬ vs.toArray.size = 1 := by
            intro h
            simp only [List.size_toArray] at h
            rw [k3] at h
            rw [nbeq_iff.2 h] at hl; cases hl
          rw [dif_neg hne] at hrun
          refine ⟨_, hrun, ?_⟩
          split at hret
          · rename_i z l hz
            cases hn : nodupN l
            · rw [hn] at hret; cases hret
            rw [hn] at hret
            simp only [cond_true, Option.some.injEq] at hret
            subst hret
            refine hi.post (F' := F) (Sd := SL S l) (fun b hb => hb) (fun b hb => .inl hb) (fun b ⟨u, _, hb⟩ => ⟨⟨u, hb⟩, (hi.sb u b hb).2.2⟩) ?_
            rw [hmu]
            exact ⟨vs, rfl, ownRs_ok hi k1 hz hn⟩
          · cases hm : shrM s.mode
            · rw [hm] at hret; cases hret
            · rw [hm] at hret
              simp only [cond_true] at hret
              have hm' : s.mode = .shr := by cases hmm : s.mode <;> first | rfl | (rw [hmm] at hm; cases hm)
              refine hi.post (F' := FA F S) (Sd := none') (fun b hb => .inl hb) (fun b hb => hb) (fun b hb => hb.elim) ?_
              rw [hmu, hm']
              exact ⟨vs, rfl, readRs_ok hi k1 hret⟩
        · cases hret
      · rw [hl] at hret; cases hret
    · cases hret

theorem ArgsOK.len : ∀ {ks : List AK} {vs : List Value} {x : kdens ks}, ArgsOK P F w ks vs x → vs.length = ks.length
  | [], vs, _, h => by
    have h : vs = [] := h
    subst h; rfl
  | k :: ks, vs, x, h => by
    obtain ⟨v, r, rfl, _, h2⟩ := h
    simp [ArgsOK.len h2]

/-- A function computes what its specification says, if its body's proposition holds. -/
theorem FOk.intro (hC : CtxOK P C) {stp : St → Oper → Option (Prop × St)} (hstp : StpOK P C stp) {f : FuncId} {s : FSpec} {fn : Func} (hdef : FnDef P f) (hf : P.funcs[f]? = some fn) (hN : C.N = fn.ntmps)
    (hlen : Nat.ble s.args.length fn.ntmps = true) (L : kdens s.args → List LoopI) (h : funI C stp s L fn) : FOk P f s := by
  refine ⟨hdef, ?_⟩
  intro w F vs xs hF ha hp
  unfold funI at h
  split at h
  · rename_i c hb
    have hl := ArgsOK.len ha
    have hlen' : s.args.length ≤ fn.ntmps := Nat.le_of_ble_eq_true hlen
    have hst := Inv0.start (P := P) (N := C.np) hF ha (by show vs.length ≤ C.N; omega)
    refine calls_of_wp hf hb ?_
    rw [show C.np.n = fn.ntmps from hN] at hst
    refine wpI_ok hC hstp c (h xs hp (factsK_ok ha)) ⟨F, _, by simpa using hst⟩ ?_ (fun _ _ _ _ h => h.elim) ?_
    · intro st a w' hq hi
      obtain ⟨v, h1, h2⟩ := retP_ok hC hq hi
      obtain ⟨_, _, hi⟩ := hi
      exact ⟨hi.defers, v, h1, h2⟩
    · intro st a w' hq hi
      obtain ⟨v, h1, h2⟩ := retP_ok hC hq hi
      obtain ⟨_, _, hi⟩ := hi
      exact ⟨hi.defers, v, h1, h2⟩
  · cases h
end
end Go.Lf
namespace Go.Lf

/-- What is stored: the value, its mode, the owners that it is taken from, whether it is what has been appended to the place. -/
def valS (σ : Ty) (μ : Md) (l : Al) (v : View) : Option (σ.den × Md × List Nat × Bool) :=
  match v.e with
  | .nilS => match nilOwn σ μ with
    | some y => some (y, μ, [], false)
    | none => match nilD σ with
      | some y => some (y, .shr, [], false)
      | none => none
  | .own _ m' _ => match v.ownAs σ m' with
    | some (y, u) => some (y, m', u, false)
    | none => none
  | .sub r [] => match v.r with
    | .own _ m' _ => match v.shrAs σ with
      | some y => some (y, μ, [], false)
      | none => match ownR σ m' v with
        | some (y, u) => some (y, m', u, false)
        | none => none
    | .box _ m' _ => match v.shrAs σ with
      | some y => some (y, μ, [], false)
      | none => match ownR σ m' v with
        | some (y, u) => some (y, m', u, false)
        | none => none
    | _ => match v.shrAs σ with
      | some y => some (y, bif σ.flat then μ else .shr, [], false)
      | none => none
  | .pend r p e me x => bif Nat.beq r l.r && decide (p = l.p) && decide (μ = .own me) then (match castD (τ := .slice e) (σ := σ) x with
    | some y => some (y, μ, [], true)
    | none => none) else none
  | _ => match v.shrAs σ with
    | some y => some (y, bif σ.flat then μ else .shr, [], false)
    | none => none

def modeS (l : Al) (μ μ' : Md) : Option Md := bif decide (μ' = μ) then some l.m else setM l.p l.τ l.m μ'

def storeE (C : Ctx) (st : St) (T : TypeId) (va vv : View) : Option (Prop × St) :=
  match va.addr? with
  | some l => match getP l.p l.τ l.x, getM l.p l.τ l.m with
    | some ⟨σ, _⟩, some μ => bif decide (look C.tys T = some σ) then
        (match valS σ μ l vv with
        | some (y, μ', used, _) => match setP l.p l.τ l.x σ y, modeS l μ μ' with
          | some x', some m' => bif nodupN (l.r :: used) then some (True, upd (kill (dropAll st used) l.r) l.r (reown (st l.r) l.τ m' x')) else none
          | _, _ => none
        | none => none) else none
    | _, _ => none
  | none => none

section
variable {P : Program} {C : Ctx} {N : NP} {w0 : World} {F0 H : NSet} {env : St} {a : Act} {w : World} {F : NSet} {S : Nat → NSet} {d : Nat}

/-- Owners that are used up: the others are as they were. -/
theorem Inv0.dropAll' : ∀ (l : List Nat) {env : St} {S : Nat → NSet}, Inv0 P N w0 F0 H env a w F S →
    Inv0 P N w0 F0 H (Go.Lf.dropAll env l) a w F (fun t => if t ∈ l then none' else S t)
  | [], env, S, hi => by
    have : (fun t => if t ∈ ([] : List Nat) then none' else S t) = S := by funext t; simp
    rw [this]; exact hi
  | r :: l, env, S, hi => by
    have h := Inv0.dropAll' l (hi.drop r)
    have : (fun t => if t ∈ r :: l then none' else S t) = fun t => if t ∈ l then none' else if t = r then none' else S t := by
      funext t
      by_cases h1 : t ∈ l
      · simp [h1]
      · by_cases h2 : t = r
        · simp [h2]
        · simp [h1, h2]
    rw [this]; exact h

theorem kill_dropAll_owner : ∀ (l : List Nat) {env : St} {r : Nat}, (env r).isOwner = true → r ∉ l → dropAll env l r = env r := by
  intro l env r ho hn
  exact dropAll_keep l env r hn (fun q hq => by rw [Ent.owner_root ho] at hq; cases hq)

theorem Root.uniq {E : Ent} {Sx : NSet} {v : Value} {τ τ' : Ty} {m m' : Md} {x : τ.den} {x' : τ'.den} {pl pl' : Place} {S0 S0' : NSet} {cs cs' : List Value}
    (h : Root F w Sx v E τ m x pl S0 cs) (h' : Root F w Sx v E τ' m' x' pl' S0' cs') : (⟨τ, x⟩ : Σ τ : Ty, τ.den) = ⟨τ', x'⟩ ∧ m = m' ∧ pl = pl' ∧ S0 = S0' := by
  have hE := h.1
  rcases hE with ⟨hE, hp, hs, hv⟩ | ⟨hE, b, hp, hs, hv, hb⟩
  · subst hE
    obtain ⟨e1, e2, e3, e4, e5⟩ := h'.own_inj
    have hcs : cs = cs' := by
      injection e1 with e6 e7
      subst e6
      have l1 := slotv_cells h.2.2.len h.2.2.one
      have l2 := slotv_cells h'.2.2.len h'.2.2.one
      have : (slotv τ cs).cells = (slotv τ cs').cells := by rw [← hv, ← e5]
      rw [l1, l2] at this
      simpa using this
    exact ⟨e1, e2, by rw [hp, e3, hcs], by rw [hs, e4]⟩
  · subst hE
    obtain ⟨e1, e2, b', e3, e4, e5, e6⟩ := h'.box_inj
    rw [hv] at e5
    injection e5 with e5
    injection e5 with e5
    injection e5 with e5
    subst e5
    exact ⟨e1, e2, by rw [hp, e3], by rw [hs, e4]⟩

/-- A store at the end of a path. -/
theorem store_core (hC : CtxOK P C) (hi : Inv0 P N w0 F0 H env a w F S) {r : Nat} {p : Path} {τ : Ty} {m m' : Md} {x x' : τ.den} {pl : Place} {S0 S' : NSet} {cs : List Value} {σ : Ty} {μ μ' : Md} {b off : Nat} {y : σ.den} {T : TypeId} {S1 : NSet} {v : Value} {used : List Nat}
    (hT : look C.tys T = some σ) (hR : Root F w (S r) (a.tmps.getD r undef) (env r) τ m x pl S0 cs) (hP : Plug F w τ m S0 pl x p σ μ (.mem b off) S')
    (hrow : ∃ row T0, w.heap[b]? = some (.cells row T0 (0, 0)) ∧ off + σ.size ≤ row.size) (hv : OwnV F w σ μ' S1 v y) (hn : nodupN (r :: used) = true)
    (hS1 : ∀ k, S1 k → ¬ (S0 k ∧ ¬ S' k) ∧ ¬ pl.isB k ∧ (S r k ∨ SL S used k) ∧ k ≠ b) (hset : setP p τ x σ y = some x') (hm : μ' = μ ∧ m' = m ∨ setM p τ m μ' = some m') :
    ∃ w', (storeVar T ⟨b, off, none⟩ v).run P w = .ok () w' ∧ Inv P N w0 F0 H (upd (kill (dropAll env used) r) r (reown (env r) τ m' x')) a w' := by
  obtain ⟨hnr, _⟩ := nodup_cons hn
  have hi2 := hi.dropAll' used
  have ho : (env r).isOwner = true := hR.isOwner
  have hdr := kill_dropAll_owner used ho hnr
  obtain ⟨c', rfl, hvo⟩ := hv
  obtain ⟨row, T0, hr1, hr2⟩ := hrow
  obtain ⟨w', k1, k2, k3, k4, k5, k6, k7⟩ := (hC.types T _ hT).storeVar hr1 hr2 hvo.len hvo.one
  have hbS : S r b := (hP.blk b rfl).elim (hR.sub b) hR.isB
  have hF : ∀ k, F k → w'.heap[k]? = w.heap[k]? := fun k hk => k3 k (fun e => (hi.sb r b hbS).2.2 (e ▸ hk))
  have hvo' : Own F w' σ μ' S1 c' y := hvo.congr hF (fun k hk => k3 k (hS1 k hk).2.2.2)
  have hnF : ∀ k, S1 k → ¬ F k := by
    intro k hk
    rcases (hS1 k hk).2.2.1 with h | ⟨t, _, h⟩
    · exact (hi.sb r k h).2.2
    · exact (hi.sb t k h).2.2
  obtain ⟨cs2, g1, g2⟩ := hP.plug F w' b off S1 c' μ' m' y x' rfl (fun _ h => h) (fun k hk => ⟨fun h => (hi.sb r k (hR.sub k h)).2.2 hk, fun h => (hi.sb r k (hR.isB h)).2.2 hk⟩)
    (fun k _ hne => k3 k hne) (fun k _ hne => k3 k hne) k2 hvo' (fun k hk => ⟨(hS1 k hk).1, hnF k hk, (hS1 k hk).2.2.2, (hS1 k hk).2.1⟩) hm hset
  refine ⟨w', k1, F, fun t => if t = r then (fun k => ((S0 k ∧ ¬ S' k) ∨ S1 k) ∨ pl.isB k) else if t ∈ used then none' else S t, ?_⟩
  have hset2 := hi2.setRoot (r := r) (by rw [hdr]; exact ho) (w' := w') (Sr := fun k => ((S0 k ∧ ¬ S' k) ∨ S1 k) ∨ pl.isB k) (E := reown (env r) τ m' x') (by unfold reown; split <;> rfl)
    k5 k6 k7 (by omega) (fun k hk hH => k3 k (fun e => by subst e; exact (hi.sb r k hbS).1.elim (fun h => by omega) hH))
    (by
      rintro k (hk | ⟨t, ht, hk⟩)
      · exact hF k hk
      · refine k3 k (fun e => ?_)
        subst e
        split at hk
        · exact hk
        · exact hi.sd t r ht k hk hbS)
    (by
      intro k hk
      have hk2 : S r k ∨ SL S used k := by
        rcases hk with (hk | hk) | hk
        · exact .inl (hR.sub k hk.1)
        · exact (hS1 k hk).2.2.1
        · exact .inl (hR.isB hk)
      rcases hk2 with h | ⟨u, hu, h⟩
      · obtain ⟨q1, q2, q3⟩ := hi.sb r k h
        refine ⟨q1, by omega, q3, fun t ht hk => ?_⟩
        split at hk
        · exact hk
        · exact hi.sd t r ht k hk h
      · obtain ⟨q1, q2, q3⟩ := hi.sb u k h
        refine ⟨q1, by omega, q3, fun t ht hk => ?_⟩
        split at hk
        · exact hk
        · rename_i htu
          exact hi.sd t u (fun e => htu (e ▸ hu)) k hk h)
    (by
      rcases hR.1 with ⟨hE, hpl, hs, hvv⟩ | ⟨hE, b0, hpl, hs, hvv, hb0⟩
      · rw [hE]
        subst hpl
        have hcs : cs = cs2 := g1
        subst hcs
        simp only [reown, EntOK, if_true]
        refine ⟨.val cs, _, cs, .inl ⟨rfl, rfl, rfl, hvv⟩, rfl, g2.mono (fun _ h => h) (fun k hk => .inl hk)⟩
      · rw [hE]
        subst hpl
        simp only [reown, EntOK, if_true]
        refine ⟨.mem b0 0, _, cs2, .inr ⟨rfl, b0, rfl, ?_, hvv, .inr rfl⟩, g1, g2⟩
        funext k
        apply propext
        constructor
        · intro h
          exact ⟨.inl h, fun e => by subst e; exact g1.1 h⟩
        · rintro ⟨h | h, hne⟩
          · exact h
          · exact absurd h hne)
  exact hset2
end
end Go.Lf
namespace Go.Lf

/-- Forget what hangs on an owner, but for addresses. -/
def killA (r : Nat) (e : Ent) : Ent := match e with
  | .addr r' p => .addr r' p
  | e => killE r e
def killS (env : St) (r : Nat) : St := fun t => killA r (env t)

section
variable {P : Program} {C : Ctx} {N : NP} {w0 : World} {F0 H : NSet} {env : St} {a : Act} {w : World} {F : NSet} {S : Nat → NSet} {d : Nat}

theorem killA_cases (r : Nat) (e : Ent) : killA r e = .dead ∨ (killA r e = e ∧ (e.root ≠ some r ∨ ∃ p, e = .addr r p)) := by
  unfold killA
  split
  · rename_i r' p
    right
    refine ⟨rfl, ?_⟩
    by_cases h : r' = r
    · subst h; exact .inr ⟨p, rfl⟩
    · left; simp [Ent.root, h]
  · unfold killE
    cases h : e.root with
    | none => right; simp
    | some r' =>
      by_cases e' : r' = r
      · left; simp [e']
      · right
        simp [nbeq_ne e', e']

theorem killA_owner {r : Nat} {e : Ent} (h : e.isOwner = true) : killA r e = e := by
  cases e <;> first | rfl | cases h

theorem Plug.enlarge {τ : Ty} {m : Md} {S0 S' X : NSet} {pl pl' : Place} {x : τ.den} {p : Path} {σ : Ty} {μ : Md} (f : Plug F w τ m S0 pl x p σ μ pl' S') (hX : ∀ k, X k → ¬ S0 k ∧ ¬ pl.isB k) :
    Plug F w τ m (fun k => S0 k ∨ X k) pl x p σ μ pl' (fun k => S' k ∨ X k) := by
  have he : ∀ k, ((S0 k ∨ X k) ∧ ¬ (S' k ∨ X k)) ↔ (S0 k ∧ ¬ S' k) := by
    intro k
    constructor
    · rintro ⟨h | h, hn⟩
      · exact ⟨h, fun h' => hn (.inl h')⟩
      · exact absurd (.inr h) hn
    · rintro ⟨h, hn⟩
      exact ⟨.inl h, fun h' => h'.elim hn (fun hx => (hX k hx).1 h)⟩
  have he' : (fun k => (S0 k ∨ X k) ∧ ¬ (S' k ∨ X k)) = fun k => S0 k ∧ ¬ S' k := by
    funext k; exact propext (he k)
  refine ⟨f.loc, fun k hk => hk.imp (f.sub k) id, fun b hb => (f.blk b hb).imp .inl id, ?_, ?_⟩
  · intro b hb h
    rcases h with h | h
    · exact f.out b hb h
    · rcases f.blk b hb with h' | h'
      · exact (hX b h).1 h'
      · exact (hX b h).2 h'
  · intro F2 w' b off S'' c' μ' m' y' x' hpl e1 e2 h1 h2 hu ho h3 hm hs
    have := f.plug F2 w' b off S'' c' μ' m' y' x' hpl e1 (fun k hk => ⟨fun h => (e2 k hk).1 (.inl h), (e2 k hk).2⟩)
      (fun k hk hne => h1 k (hk.imp id (he k).2) hne) h2 hu ho (fun k hk => ⟨fun h => (h3 k hk).1 ((he k).2 h), (h3 k hk).2⟩) hm hs
    obtain ⟨cs2, g1, g2⟩ := this
    have e3 : (fun k => ((S0 k ∨ X k) ∧ ¬ (S' k ∨ X k)) ∨ S'' k) = fun k => (S0 k ∧ ¬ S' k) ∨ S'' k := by
      funext k
      apply propext
      exact ⟨fun h => h.imp (he k).1 id, fun h => h.imp (he k).2 id⟩
    refine ⟨cs2, ?_, ?_⟩
    · show PlOk F2 (fun k => ((S0 k ∨ X k) ∧ ¬ (S' k ∨ X k)) ∨ S'' k) w' pl τ.size cs2
      rw [e3]; exact g1
    · show Own F2 w' τ m' (fun k => ((S0 k ∨ X k) ∧ ¬ (S' k ∨ X k)) ∨ S'' k) cs2 x'
      rw [e3]; exact g2

theorem pend_put (hi : Inv0 P N w0 F0 H env a w F S) (hd : Wr N d) {r : Nat} {p : Path} {τ : Ty} {m : Md} {x : τ.den} {pl pl' : Place} {S0 : NSet} {cs : List Value} {e : Ty} {me : Md} {xs ys : List e.den} {used : List Nat} {v : Value}
    (hR : Root F w (S r) (a.tmps.getD r undef) (env r) τ m x pl S0 cs) (hg : getP p τ x = some ⟨.slice e, xs⟩) (hm : getM p τ m = some (.own me)) (hir : inR p τ x) (hn : nodupN (r :: used) = true) (hdr : d ≠ r)
    (hl : loc w p τ pl = some (.slice e, pl')) {w' : World} (h1 : w'.os = w.os) (h2 : w'.tape = w.tape) (h3 : w'.output = w.output) (h4 : w.heap.size ≤ w'.heap.size) (h6 : ∀ k, k < w0.heap.size → ¬ H k → w'.heap[k]? = w.heap[k]?)
    (h5 : ∀ b, F b ∨ (∃ t, t ≠ r ∧ t ∉ used ∧ S t b) → w'.heap[b]? = w.heap[b]?)
    (hO : Own F w' τ m S0 cs x) (hPl : PlOk F S0 w' pl τ.size cs) (hloc : ∀ q μ, getM q τ m = some μ → inR q τ x → loc w' q τ pl = loc w q τ pl)
    {X : NSet} (hX : ∀ b, X b → SL S used b ∨ (b = w.heap.size ∧ b < w'.heap.size))
    (hval : ∀ S' cs', Focus F w' τ m S0 pl x p (.slice e) xs (.own me) pl' cs' S' → OwnV F w' (.slice e) (.own me) (fun k => S' k ∨ X k) v (xs ++ ys)) :
    ∃ S2, Inv0 P N w0 F0 H (Go.Lf.put (killS (Go.Lf.dropAll env used) r) d (.pend r p e me (xs ++ ys))) (a.put (some d) v) w' F S2 := by
  obtain ⟨hnr, _⟩ := nodup_cons hn
  have hi2 := hi.dropAll' used
  have ho : (env r).isOwner = true := hR.isOwner
  have hdrop := kill_dropAll_owner used ho hnr
  have hXS : ∀ b, X b → (w0.heap.size ≤ b ∨ H b) ∧ b < w'.heap.size ∧ ¬ F b ∧ ∀ t, t ∉ used → ¬ S t b := by
    intro b hb
    rcases hX b hb with ⟨u, hu, h⟩ | ⟨rfl, h⟩
    · obtain ⟨q1, q2, q3⟩ := hi.sb u b h
      exact ⟨q1, by omega, q3, fun t ht hk => hi.sd t u (fun e => ht (e ▸ hu)) b hk h⟩
    · exact ⟨.inl hi.size, h, fun hf => by have := hi.fb _ hf; omega, fun t _ ht => by have := (hi.sb t _ ht).2.1; omega⟩
  have hXr : ∀ k, X k → ¬ S0 k ∧ ¬ pl.isB k := fun k hk => ⟨fun h => (hXS k hk).2.2.2 r hnr (hR.sub k h), fun h => (hXS k hk).2.2.2 r hnr (hR.isB h)⟩
  have hR' : Root F w' (fun k => S r k ∨ X k) (a.tmps.getD r undef) (env r) τ m x pl (fun k => S0 k ∨ X k) cs := by
    refine ⟨?_, ?_, hO.mono (fun _ h => h) (fun k hk => .inl hk)⟩
    · rcases hR.1 with ⟨g1, g2, g3, g4⟩ | ⟨g1, b, g2, g3, g4, g5⟩
      · left; exact ⟨g1, g2, by rw [g3], g4⟩
      · right
        refine ⟨g1, b, g2, ?_, g4, .inl g5⟩
        rw [g3]
        funext k
        apply propext
        constructor
        · rintro (⟨h, h'⟩ | h)
          · exact ⟨.inl h, h'⟩
          · exact ⟨.inr h, fun e => (hXr k h).2 (by rw [g2, e]; rfl)⟩
        · rintro ⟨h | h, h'⟩
          · exact .inl ⟨h, h'⟩
          · exact .inr h
    · cases pl with
      | val _ => exact hPl
      | mem b off =>
        obtain ⟨q1, q2, q3⟩ := hPl
        exact ⟨fun h => h.elim q1 (fun h => (hXr b h).2 rfl), q2, q3⟩
  -- the frame with the owner's memory enlarged
  have hi3 : Inv0 P N w0 F0 H (killS (Go.Lf.dropAll env used) r) a w' F (fun t => if t = r then (fun k => S r k ∨ X k) else if t ∈ used then none' else S t) := by
    refine ⟨h1.trans hi.os, h2.trans hi.tape, h3.trans hi.output, Nat.le_trans hi.size h4, fun k hk hH => (h6 k hk hH).trans (hi.block k hk hH), fun b hb => Nat.lt_of_lt_of_le (hi.fb b hb) h4, hi.f0, hi.fn, ?_, ?_, ?_, hi.defers, hi.slots⟩
    · intro t b ht
      by_cases h : t = r
      · simp only [h, if_true] at ht
        rcases ht with ht | ht
        · obtain ⟨g1, g2, g3⟩ := hi.sb r b ht; exact ⟨g1, by omega, g3⟩
        · exact ⟨(hXS b ht).1, (hXS b ht).2.1, (hXS b ht).2.2.1⟩
      · simp only [h, if_false] at ht
        split at ht
        · exact ht.elim
        · obtain ⟨g1, g2, g3⟩ := hi.sb t b ht; exact ⟨g1, by omega, g3⟩
    · have aux : ∀ t b, t ≠ r → (if t ∈ used then none' else S t) b → ¬ (S r b ∨ X b) := by
        intro t b ht hb hx
        split at hb
        · exact hb
        · rename_i htu
          rcases hx with hx | hx
          · exact hi.sd t r ht b hb hx
          · exact (hXS b hx).2.2.2 t htu hb
      intro t u htu b hb1 hb2
      by_cases h : t = r
      · simp only [h, if_true] at hb1
        have hu : u ≠ r := fun e => htu (h.trans e.symm)
        simp only [hu, if_false] at hb2
        exact aux u b hu hb2 hb1
      · simp only [h, if_false] at hb1
        by_cases h' : u = r
        · simp only [h', if_true] at hb2
          exact aux t b h hb1 hb2
        · simp only [h', if_false] at hb2
          split at hb1
          · exact hb1
          · split at hb2
            · exact hb2
            · exact hi.sd t u htu b hb1 hb2
    · intro t
      by_cases h : t = r
      · subst h
        have hk : killS (Go.Lf.dropAll env used) t t = env t := by unfold killS; rw [hdrop, killA_owner ho]
        rw [hk]
        rcases hR.1 with ⟨g1, _⟩ | ⟨g1, _⟩
        · rw [g1] at hR' ⊢
          simp only [EntOK, if_true]
          exact ⟨_, _, _, hR'⟩
        · rw [g1] at hR' ⊢
          simp only [EntOK, if_true]
          exact ⟨_, _, _, hR'⟩
      · rcases killA_cases r (Go.Lf.dropAll env used t) with hk | ⟨hk, hk2⟩
        · show EntOK P F w' _ _ _ t (killA r (Go.Lf.dropAll env used t))
          rw [hk]; trivial
        · show EntOK P F w' _ _ _ t (killA r (Go.Lf.dropAll env used t))
          rw [hk]
          have hent := hi2.ent t
          rcases hk2 with hk2 | ⟨p2, hk2⟩
          · refine EntOK.keep (fun _ h => h) (fun b hb => h5 b (.inl hb)) rfl ?_ ?_ hent
            · intro q hq
              have hqr : q ≠ r := fun e => hk2 (e ▸ hq)
              refine ⟨fun ho' => by unfold killS; exact killA_owner ho', fun _ => rfl, by simp [hqr], fun b hb => ?_, fun b h1 h2 => absurd h1 h2, fun b hb => (hi2.sb q b hb).2.2⟩
              split at hb
              · exact hb.elim
              · rename_i hqu; exact h5 b (.inr ⟨q, hqr, hqu, hb⟩)
            · intro _
              refine ⟨by simp [h], fun b hb => ?_, fun b h1 h2 => absurd h1 h2⟩
              split at hb
              · exact hb.elim
              · rename_i htu; exact h5 b (.inr ⟨t, h, htu, hb⟩)
          · rw [hk2] at hent ⊢
            simp only [EntOK] at hent ⊢
            obtain ⟨τ1, m1, x1, pl1, S1, cs1, σ, μ, b, off, g1, g2, g4, g5, g6, g7⟩ := hent
            rw [hdrop] at g1
            simp only [hnr, if_false] at g1
            obtain ⟨e1, e2, e3, e4⟩ := g1.uniq hR
            injection e1 with e5 e6
            subst e5; cases e6; subst e2; subst e3; subst e4
            have hk : killS (Go.Lf.dropAll env used) r r = env r := by unfold killS; rw [hdrop, killA_owner ho]
            rw [← hk] at hR'
            simp only [if_true]
            exact ⟨_, _, _, _, _, _, σ, μ, b, off, hR', (hloc p2 μ g6 g7).trans g2, g4, g5, g6, g7⟩
  have hdisj : ∀ b, S0 b → ¬ F b := fun b hb => (hi.sb r b (hR.sub b hb)).2.2
  obtain ⟨pl2, cs', S', f⟩ := focus p hdisj hO hPl hg hm hir
  have hpl : pl2 = pl' := by
    have := f.loc.symm.trans ((hloc p _ hm hir).trans hl)
    simp only [Option.some.injEq, Prod.mk.injEq, true_and] at this
    exact this
  subst hpl
  obtain ⟨cp, hv1, hv2⟩ := hval S' cs' f
  have hVd : ∀ s, (a.put (some d) v).tmps.getD s undef = if s = d then v else a.tmps.getD s undef := fun s => Act.getD_put (by rw [hi.slots.size]; exact hd.1)
  refine ⟨_, hi3.put (Sd := none') hd (RowKit.Below.refl _ _) (fun _ h => h) hi3.fb (fun b h1 h2 => absurd h1 h2) (fun _ h => h.elim) ?_⟩
  have hk : killS (Go.Lf.dropAll env used) r r = env r := by unfold killS; rw [hdrop, killA_owner ho]
  have henv : Go.Lf.put (killS (Go.Lf.dropAll env used) r) d (.pend r p e me (xs ++ ys)) r = env r := by
    unfold Go.Lf.put
    cases (killS (Go.Lf.dropAll env used) r d).isOwner
    · simp only [cond_false]; rw [upd_ne _ _ (Ne.symm hdr)]; exact hk
    · simp only [cond_true]
      rw [upd_ne _ _ (Ne.symm hdr)]
      unfold kill killE
      rw [hk, Ent.owner_root ho]
  simp only [EntOK, hVd, if_true, henv, Ne.symm hdr, if_false]
  refine ⟨τ, m, x, pl, fun k => S0 k ∨ X k, cs, xs, pl2, fun k => S' k ∨ X k, fun k => S' k ∨ X k, cp, hR', f.toPlug.enlarge hXr, hm, hir, hg, hv1, hv2, ?_, ?_⟩
  · intro k hk
    exact hk.imp (fun h => hR.sub k (f.sub k h)) id
  · intro k hk
    refine ⟨fun h => h.2 hk, fun hb => ?_⟩
    rcases hk with hk | hk
    · have hb' := f.sub k hk
      cases pl with
      | val _ => exact hb
      | mem b0 o0 =>
        cases hb
        exact hPl.1 hb'
    · exact (hXr k hk).2 hb
end
end Go.Lf
namespace Go.Lf

def appE (C : Ctx) (d : Nat) (st : St) (T T2 : TypeId) (vx vy : View) : Option (Prop × St) :=
  match look C.tys T, look C.tys T2, vx.e, vx.sub? with
  | some (.slice e), some (.slice _), .sub _ _, some al => match getP al.p al.τ al.x, getM al.p al.τ al.m with
    | some ⟨.slice e', xs⟩, some (.own me) => match castD (τ := .slice e') (σ := .slice e) xs, srcE e me vy with
      | some xs, some (ys, l) => bif nodupN (al.r :: l) && !Nat.beq d al.r then
          some (((List.length xs + List.length ys : Nat) : Int) ≤ maxNew, put (killS (dropAll st l) al.r) d (.pend al.r al.p e me (xs ++ ys))) else none
      | _, _ => none
    | _, _ => none
  | _, _, _, _ => none

section
variable {P : Program} {C : Ctx} {N : NP} {w0 : World} {F0 H : NSet} {env : St} {a : Act} {w : World} {F : NSet} {S : Nat → NSet} {d : Nat}

theorem appE_core (hC : CtxOK P C) (hi : Inv0 P N w0 F0 H env a w F S) (hd : Wr N d) {T T2 ty : TypeId} {e e2 : Ty} (hT : look C.tys T = some (.slice e)) (hT2 : look C.tys T2 = some (.slice e2))
    {l : Al} {xs ys : List e.den} {me : Md} {pl : Place} {S0 : NSet} {cs : List Value} {pl' : Place} {cs' : List Value} (hA : AlAt F w env (fun t => a.tmps.getD t undef) S l (.slice e) xs (.own me) pl S0 cs pl') (hrd : pl'.read w 1 = some cs')
    {G2 : NSet} {v2 : Value} {n2 cap2 : Nat} {ao2 : Option Addr} {cs2 : List Value} {Si2 : Nat → NSet} {used : List Nat}
    (r2 : RowOf P G2 (SL S used) F w e me v2 n2 cap2 ao2 ys cs2 Si2) (hn : nodupN (l.r :: used) = true) (hdr : d ≠ l.r) (hlen : ((xs.length + ys.length : Nat) : Int) ≤ maxNew) :
    ∃ v w' F2 S2, (Builtin.append_ #[T, T2] ty #[slotv (.slice e) cs', v2]).run P w = .ok v w' ∧ Inv0 P N w0 F0 H (put (killS (dropAll env used) l.r) d (.pend l.r l.p e me (xs ++ ys))) (a.put (some d) v) w' F2 S2 := by
  obtain ⟨hnr, _⟩ := nodup_cons hn
  obtain ⟨cs1', S', f⟩ := hA.focus (fun b hb => (hi.sb _ b hb).2.2)
  have e0 := f.ok.read.symm.trans hrd
  simp only [Option.some.injEq] at e0; subst e0
  obtain ⟨ao1, n1, cap1, c1, Si1, r1, hgr⟩ := RowOf.of_own (P := P) (w := w) (F := F) (Sx := S') (v := slotv (.slice e) cs1') (xs := xs) (me := me) ⟨cs1', rfl, f.own⟩
  have ev1 := r1.val
  have ev2 := r2.val
  have l1 := r1.len
  have l2 := r2.len
  subst l1; subst l2; subst ev2
  have hcs1 : cs1' = [.slice ao1 xs.length cap1] := by
    obtain ⟨ao, cap, q, _⟩ := f.own
    rw [q] at ev1 ⊢
    simp only [slotv, Ty.isAgg, Bool.false_eq_true, if_false, List.headD_cons] at ev1
    rw [ev1]
  obtain ⟨g1, g2⟩ := run_append_gen (P := P) (ty := ty) (w := w) hC hT hT2 (ao := ao1) (sLen := xs.length) (sCap := cap1) (olds := c1) (ax := ao2) (n := ys.length) (cx := cap2) (news := cs2)
    (fun w' hw => by rw [← ev1]; exact r1.read w' (fun b _ => by rw [hw])) (fun w' hw => r2.read w' (fun b _ => by rw [hw])) hlen
  rw [← ev1] at g1 g2
  have hl : (xs ++ ys).length = xs.length + ys.length := by simp
  have hm := hA.mode
  have hS'S : ∀ b, S' b → S l.r b := fun b hb => hA.root.sub b (f.sub b hb)
  have hUr : ∀ b, SL S used b → ¬ S l.r b := by
    rintro b ⟨t, ht, hb⟩ hr
    exact hi.sd t l.r (fun e => hnr (e ▸ ht)) b hb hr
  have hUF : ∀ b, SL S used b → ¬ F b := by rintro b ⟨t, ht, hb⟩; exact (hi.sb t b hb).2.2
  by_cases hfit : xs.length + ys.length ≤ cap1
  · have g1 := g1 hfit
    rcases hgr with ⟨rfl, hc⟩ | ⟨b, off, row, T0, rfl, hb, hrow, hsz, hcs, hnb⟩
    · have hx0 : xs = [] := List.eq_nil_of_length_eq_zero (by omega)
      have hy0 : ys = [] := List.eq_nil_of_length_eq_zero (by omega)
      subst hx0; subst hy0; subst hc
      obtain ⟨S2, h5⟩ := pend_put (e := e) (me := me) (xs := []) (ys := []) (v := .slice none 0 0) (used := used) (X := none') hi hd hA.root hA.get hA.mode hA.inr hn hdr hA.loc (w' := w) rfl rfl rfl (Nat.le_refl _) (fun _ _ _ => rfl) (fun _ _ => rfl)
        hA.root.2.2 hA.root.2.1 (fun _ _ _ _ => rfl) (fun _ h => h.elim) (fun S' cs' _ => .nil _ _ _ _ _)
      exact ⟨_, _, F, S2, g1, h5⟩
    · have hn1 : ∀ u ∈ cs2, u.oneCell' = true := r2.all_one
      have hl2 := r2.csl
      have hl1 := r1.csl
      have hfit2 : off + xs.length * e.size + cs2.length ≤ row.size := by
        have := Nat.mul_le_mul_right e.size hfit
        rw [Nat.add_mul] at this
        omega
      have hst := run_storeCells_at (P := P) b (off + xs.length * e.size) T0 cs2 0 row w hrow (by omega) hn1
      simp only [Nat.add_zero] at hst
      have g1' : (Builtin.append_ #[T, T2] ty #[slotv (.slice e) cs1', .slice ao2 ys.length cap2]).run P w = .ok (.slice (some ⟨b, off, none⟩) (xs.length + ys.length) cap1)
          (w.setRow b (row.toList.take (off + xs.length * e.size) ++ cs2 ++ row.toList.drop (off + xs.length * e.size + cs2.length)).toArray) := by
        rw [g1]; simp only [appFit, add_mk, hst, Result.andThen]
      generalize hrw : (row.toList.take (off + xs.length * e.size) ++ cs2 ++ row.toList.drop (off + xs.length * e.size + cs2.length)) = row2 at g1'
      generalize hw' : w.setRow b row2.toArray = w' at g1'
      have hrow' : w'.heap[b]? = some (.cells row2.toArray T0 (0, 0)) := by
        rw [← hw']; simp [World.setRow, Array.getElem?_modify, hrow]
      have hoth : ∀ k, k ≠ b → w'.heap[k]? = w.heap[k]? := by
        intro k hk; rw [← hw']; simp only [World.setRow, Array.getElem?_modify]; rw [if_neg (Ne.symm hk)]
      have hsize : w'.heap.size = w.heap.size := by rw [← hw']; simp [World.setRow]
      have hrl : row2.length = row.size := by rw [← hrw]; simp; omega
      have hseg : ∀ o n, o + n ≤ off + xs.length * e.size → seg row2 o n = seg row.toList o n := by
        intro o n ho
        rw [← hrw]
        exact seg_upd_out _ _ _ _ rfl (by simpa using hfit2) _ _ (by simp; omega) (.inl ho)
      have hbr : S l.r b := hS'S b hb
      have htail : TailW w w' b (off + xs.length * e.size) := ⟨hoth, row, row2.toArray, T0, hrow, hrow', by simpa using hrl, fun o n ho => by simpa using hseg o n ho⟩
      have hrd1 : pl'.read w 1 = some [.slice (some ⟨b, off, none⟩) xs.length cap1] := by rw [hrd, hcs1]
      have hroot' : Own F w' l.τ l.m S0 cs l.x ∧ ∀ q μ, getM q l.τ l.m = some μ → inR q l.τ l.x → loc w' q l.τ pl = loc w q l.τ pl := by
        by_cases hc0 : cap1 = 0
        · have hy0 : ys = [] := List.eq_nil_of_length_eq_zero (by omega)
          have hc2 : cs2 = [] := by subst hy0; exact List.eq_nil_of_length_eq_zero (by simpa using hl2)
          have hr2 : row2 = row.toList := by rw [← hrw, hc2]; simp
          have hall : ∀ k : Nat, w'.heap[k]? = w.heap[k]? := by
            intro k
            by_cases hk : k = b
            · subst hk; rw [hrow', hrow, hr2]
            · exact hoth k hk
          refine ⟨hA.root.2.2.congr (fun b _ => hall b) (fun b _ => hall b), fun q μ hq hr => ?_⟩
          exact loc_congr q hA.root.2.2 hA.root.2.1.read ((Place.read_congr (fun k _ => hall k)).trans hA.root.2.1.read) hq hr (fun b _ => hall b)
        · exact (tail_ok htail l.p (fun k hk => (hi.sb _ k (hA.root.sub k hk)).2.2) hA.root.2.2 hA.root.2.1 hA.get hA.mode hA.inr hA.loc hrd1 (by omega)).2
      have hplb : ∀ k, pl.isB k → k ≠ b := by
        intro k hk e
        have h0 := hA.root.2.1
        have hk' : pl.isB b := e ▸ hk
        cases pl with
        | val _ => exact hk
        | mem b0 o0 => have h1 : b = b0 := hk'; rw [← h1] at h0; exact h0.1 (f.sub b hb)
      have hpl'b : ∀ k, pl'.isB k → k ≠ b := by
        intro k hk e
        have h0 := f.ok
        have hk' : pl'.isB b := e ▸ hk
        cases pl' with
        | val _ => exact hk
        | mem b0 o0 => have h1 : b = b0 := hk'; rw [← h1] at h0; exact h0.1 hb
      obtain ⟨S2, h5⟩ := pend_put (e := e) (me := me) (xs := xs) (ys := ys) (v := .slice (some ⟨b, off, none⟩) (xs.length + ys.length) cap1) (used := used) (X := SL S used) hi hd hA.root hA.get hA.mode hA.inr hn hdr hA.loc (w' := w')
        (by rw [← hw']; rfl) (by rw [← hw']; rfl) (by rw [← hw']; rfl) (by omega) (fun k hk hH => hoth k (fun e => by subst e; exact (hi.sb _ k hbr).1.elim (fun h => by omega) hH))
        (by
          rintro k (hk | ⟨t, ht, _, hk⟩)
          · exact hoth k (fun e => (hi.sb _ b hbr).2.2 (e ▸ hk))
          · exact hoth k (fun e => hi.sd t l.r ht b (e ▸ hk) hbr))
        hroot'.1 (hA.root.2.1.congr (fun k hk => hoth k (hplb k hk))) hroot'.2 (fun b hb => .inl hb)
        (by
          intro S2 cs2' f2
          have hrd2 : pl'.read w' 1 = some [.slice (some ⟨b, off, none⟩) xs.length cap1] := (Place.read_congr (fun k hk => hoth k (hpl'b k hk))).trans hrd1
          have e1 := f2.ok.read.symm.trans hrd2
          simp only [Option.some.injEq] at e1; subst e1
          obtain ⟨ao, cap, q1, q2, q3, q4⟩ := f2.own
          simp only [List.cons.injEq, Value.slice.injEq, and_true, true_and] at q1
          obtain ⟨rfl, rfl⟩ := q1
          rcases q4 with ⟨q4, _⟩ | ⟨b', off', row', T', Si', q4, q5, q6, q7, q8, q9, q10, q11⟩
          · cases q4
          injection q4 with q4
          injection q4 with q4 q4'
          subst q4; subst q4'
          rw [hrow'] at q6
          injection q6 with q6
          injection q6 with q6
          subst q6
          rw [← hl]
          refine ⟨_, rfl, _, cap1, rfl, by omega, by rw [hl]; exact lim_of_maxNew hlen, .inr ⟨b, off, row2.toArray, T', SiA xs.length Si' Si2, rfl, .inl q5, by rw [hrow']; congr 1; congr 1 <;> simp_all, ?_, ?_, ?_, ?_, ?_⟩⟩
          · simp; omega
          · intro i k hk
            unfold SiA at hk
            split at hk
            · exact .inl (q8 i k hk)
            · exact .inr (r2.sub _ k hk)
          · intro i h
            unfold SiA at h
            split at h
            · exact q9 _ h
            · exact hUr b (r2.sub _ b h) hbr
          · exact SiA_dis (X := S2) (Y := SL S used) q8 r2.sub (fun k h1 h2 => hUr k h2 (hA.root.sub k (f2.sub k h1))) q10 r2.dis
          · intro i x hx'
            unfold SiA
            by_cases hi' : i < xs.length
            · simp only [hi', if_true]
              rw [List.getElem?_append_left hi'] at hx'
              exact q11 i x hx'
            · simp only [hi', if_false]
              rw [List.getElem?_append_right (by omega)] at hx'
              have hj : i - xs.length < ys.length := by
                rcases Nat.lt_or_ge (i - xs.length) ys.length with h | h
                · exact h
                · rw [List.getElem?_eq_none h] at hx'; cases hx'
              have hle : (i - xs.length + 1) * e.size ≤ ys.length * e.size := Nat.mul_le_mul_right _ (by omega)
              rw [Nat.add_mul, Nat.one_mul] at hle
              have h1 := seg_upd_in row.toList (off + xs.length * e.size) cs2.length cs2 rfl (by simpa using hfit2)
              rw [hrw] at h1
              have h2 := seg_seg row2 (off + xs.length * e.size) cs2.length ((i - xs.length) * e.size) e.size (by omega)
              rw [h1] at h2
              have h3 : off + i * e.size = off + xs.length * e.size + (i - xs.length) * e.size := by
                have : i * e.size = xs.length * e.size + (i - xs.length) * e.size := by rw [← Nat.add_mul]; congr 1; omega
                omega
              have h4 := (r2.own _ x hx').congr (w' := w') (fun k hk => hoth k (fun e => (hi.sb _ b hbr).2.2 (e ▸ hk))) (fun k hk => hoth k (fun e => hUr b (e ▸ r2.sub _ k hk) hbr))
              rw [h2] at h4
              simp only [h3]
              exact h4)
      exact ⟨_, _, F, S2, g1', h5⟩
  · obtain ⟨cap, zs, E, k1, k2, k3⟩ := g2 (by omega)
    generalize hw' : w.drew.alloc (.cells (c1 ++ cs2 ++ zs).toArray E) = w' at k3
    have hbel : RowKit.Below w.heap.size w w' := by rw [← hw']; exact (RowKit.Below.refl _ _).drew.alloc (Nat.le_refl _) _
    have hsz : w'.heap.size = w.heap.size + 1 := by rw [← hw']; simp
    have hnew : w'.heap[w.heap.size]? = some (.cells (c1 ++ cs2 ++ zs).toArray E (0, 0)) := by rw [← hw']; exact alloc_new w.drew _
    have hold : ∀ k, k < w.heap.size → w'.heap[k]? = w.heap[k]? := hbel.block
    have hSlt : ∀ t b, S t b → b < w.heap.size := fun t b hb => (hi.sb t b hb).2.1
    have hplb : ∀ k, pl.isB k → k < w.heap.size := fun k hk => hSlt l.r k (hA.root.isB hk)
    obtain ⟨S2, h5⟩ := pend_put (e := e) (me := me) (xs := xs) (ys := ys) (v := .slice (some ⟨w.heap.size, 0, none⟩) (xs.length + ys.length) cap) (used := used) (X := fun b => SL S used b ∨ b = w.heap.size) hi hd hA.root hA.get hA.mode hA.inr hn hdr hA.loc (w' := w')
      hbel.os hbel.tape hbel.output (by omega) (fun k hk _ => hold k (Nat.lt_of_lt_of_le hk hi.size))
      (by
        rintro k (hk | ⟨t, _, _, hk⟩)
        · exact hold k (hi.fb k hk)
        · exact hold k (hSlt t k hk))
      (hA.root.2.2.congr (fun b hb => hold b (hi.fb b hb)) (fun b hb => hold b (hSlt _ b (hA.root.sub b hb)))) (hA.root.2.1.congr (fun k hk => hold k (hplb k hk)))
      (fun q μ hq hr => loc_congr q hA.root.2.2 hA.root.2.1.read ((Place.read_congr (fun k hk => hold k (hplb k hk))).trans hA.root.2.1.read) hq hr (fun b hb => hold b (hSlt _ b (hA.root.sub b hb))))
      (fun b hb => hb.elim .inl (fun h => .inr ⟨h, by omega⟩))
      (by
        intro S2 cs2' f2
        have hrd2 : pl'.read w' 1 = some cs1' := by
          refine (Place.read_congr (fun k hk => hold k ?_)).trans hrd
          exact (f.blk k hk).elim (fun h => hSlt _ k (hA.root.sub k h)) (hplb k)
        have e1 := f2.ok.read.symm.trans hrd2
        simp only [Option.some.injEq] at e1; subst e1
        obtain ⟨ao', n', cap', c1', Si1', r1', hgr'⟩ := RowOf.of_own (P := P) (w := w') (F := F) (Sx := S2) (v := slotv (.slice e) cs2') (xs := xs) (me := me) ⟨cs2', rfl, f2.own⟩
        have e2 := ev1.symm.trans r1'.val
        injection e2 with e2 e3 e4
        subst e2; subst e3; subst e4
        have hcc : c1' = c1 := by
          rcases hgr with ⟨h1, h2⟩ | ⟨b, off, row, T0, h1, hb, hrow, hsz', hcs, hnb⟩
          · have hx0 : xs = [] := List.eq_nil_of_length_eq_zero (by have := r1.le; omega)
            have q1 := r1.csl; have q2 := r1'.csl
            rw [hx0] at q1 q2
            simp only [List.length_nil, Nat.zero_mul] at q1 q2
            rw [List.eq_nil_of_length_eq_zero q1, List.eq_nil_of_length_eq_zero q2]
          · rcases hgr' with ⟨h1', h2'⟩ | ⟨b', off', row', T0', h1', hb', hrow', hsz'', hcs', hnb'⟩
            · rw [h1] at h1'; cases h1'
            · rw [h1] at h1'
              injection h1' with h1'
              injection h1' with h1' h1''
              subst h1'; subst h1''
              rw [hold b (hSlt l.r b (hS'S b hb)), hrow] at hrow'
              injection hrow' with hrow'
              injection hrow' with hrow'
              rw [hcs, hcs', hrow']
        subst hcc
        have hown := OwnV.newRow (G := F) (w' := w') (e := e) (me := me) (b := w.heap.size) (row := (c1' ++ cs2 ++ zs).toArray) (T := E)
          (Sd := fun k => S2 k ∨ SL S used k ∨ k = w.heap.size) (xs := xs ++ ys) (cap := cap) (Si := SiA xs.length Si1' Si2) (.inr (.inr rfl)) hnew
          (by
            have := r1.csl; have := r2.csl
            have hmul : cap * e.size = xs.length * e.size + ys.length * e.size + (cap - (xs.length + ys.length)) * e.size := by
              rw [← Nat.add_mul, ← Nat.add_mul]; congr 1; omega
            simp; omega) (by rw [hl]; omega) (by rw [hl]; exact lim_of_maxNew hlen)
          (by
            intro i k hk
            unfold SiA at hk
            split at hk
            · exact .inl (r1'.sub _ k hk)
            · exact .inr (.inl (r2.sub _ k hk)))
          (by
            intro i hk
            unfold SiA at hk
            split at hk
            · have := hSlt l.r _ (hA.root.sub _ (f2.sub _ (r1'.sub _ _ hk))); omega
            · obtain ⟨t, _, hb⟩ := r2.sub _ _ hk
              have := hSlt t _ hb; omega)
          (SiA_dis (X := S2) (Y := SL S used) r1'.sub r2.sub (fun k h1 h2 => hUr k h2 (hA.root.sub k (f2.sub k h1))) r1'.dis r2.dis)
          (by
            have := own_app (F := F) (w' := w') (c3 := zs) (A := Si1') (B := Si2) r1'.csl r2.csl (fun i x hx' => r1'.own i x hx')
              (fun i x hx' => (r2.own i x hx').congr (fun b hb => hold b (hi.fb b hb)) (fun b hb => by obtain ⟨t, _, hb⟩ := r2.sub _ b hb; exact hold b (hSlt t b hb)))
            simpa using this)
        rw [hl] at hown
        exact hown)
    exact ⟨_, _, F, S2, k3, h5⟩
end
end Go.Lf
namespace Go.Lf

structure Taken where
  τ : Ty
  m : Md
  x : τ.den
  t : Nat

/-- A value that may be taken over whole, and the owner that it is taken from. -/
def takeE (v : View) : Option Taken :=
  match v.e with
  | .own τ m x => match v.s with
    | some t => some ⟨τ, m, x, t⟩
    | none => none
  | .pend r _ e me x => some ⟨.slice e, .own me, x, r⟩
  | .sub r [] => match v.r with
    | .own τ m x => some ⟨τ, m, x, r⟩
    | _ => none
  | _ => none

def isSub : Ent → Bool
  | .sub _ _ => true
  | _ => false

def ownA (C : Ctx) (d : Nat) (st : St) (v : View) : Option (Prop × St) :=
  bif isSub v.e && isNone (look C.mds d) then none else match takeE v with
  | some k => some (True, put (drop st k.t) d (mkE C d k.τ k.m k.x))
  | none => none

def pureStp (C : Ctx) (st : St) (o : Oper) : Option (Prop × St) :=
  match o.dst, opE C o (viewO st) with
  | some d, some (c, e, l) => some (c, put (dropAll st l) d e)
  | _, _ => none

def appC (C : Ctx) (st : St) (o : Oper) (q : Call) : Option (Prop × St) :=
  match q.callee, q.args.toList, q.argTypes.toList, o.dst with
  | .builtin .append, [x, y], [T, T2], some d => bif wrB C d then appE C d st T T2 (viewO st x) (viewO st y) else none
  | _, _, _, _ => none

def stp (C : Ctx) (st : St) (o : Oper) : Option (Prop × St) :=
  match o.op with
  | .store T x v => bif isNone o.dst then storeE C st T (viewO st x) (viewO st v) else none
  | .assign x => match o.dst with
    | some d => match (bif wrB C d then ownA C d st (viewO st x) else none) with
      | some r => some r
      | none => pureStp C st o
    | none => none
  | .panic _ => some (False, st)
  | .call q => match appC C st o q with
    | some r => some r
    | none => pureStp C st o
  | _ => pureStp C st o

section
variable {P : Program} {C : Ctx} {N : NP} {w0 : World} {F0 H : NSet} {env : St} {a : Act} {w : World} {F : NSet} {S : Nat → NSet} {d : Nat}

theorem pend_ok (hi : Inv0 P N w0 F0 H env a w F S) {v : Value} {vw : View} (hv : ViewOK P F w env (fun t => a.tmps.getD t undef) S v vw) {r : Nat} {p : Path} {e : Ty} {me : Md} {x : List e.den} (he : vw.e = .pend r p e me x) :
    ∃ τ m z pl S0 cs y pl' S' Sp, Root F w (S r) (a.tmps.getD r undef) (env r) τ m z pl S0 cs ∧ Plug F w τ m S0 pl z p (.slice e) (.own me) pl' S' ∧
      getM p τ m = some (.own me) ∧ inR p τ z ∧ getP p τ z = some ⟨.slice e, y⟩ ∧ OwnV F w (.slice e) (.own me) Sp v x ∧ Sub Sp (S r) ∧ (∀ k, Sp k → ¬ (S0 k ∧ ¬ S' k) ∧ ¬ pl.isB k) := by
  have h1 := hv.ent (by rw [he]; rfl) (r + 1) (by rw [he]; simp [Ent.root])
  rw [he] at h1
  simp only [EntOK, if_true] at h1
  obtain ⟨τ0, m0, x0, pl, S0, cs, y, pl', S', Sp, cp, g1, g2, g3, g4, g5, g6, g7, g8, g9⟩ := h1
  simp only [show ¬ (r = r + 1) from by omega, if_false] at g1
  exact ⟨τ0, m0, x0, pl, S0, cs, y, pl', S', Sp, g1, g2, g3, g4, g5, ⟨cp, g6, g7⟩, g8, g9⟩

theorem takeE_ok (hi : Inv0 P N w0 F0 H env a w F S) {v : Value} {vw : View} (hv : ViewOK P F w env (fun t => a.tmps.getD t undef) S v vw) {k : Taken} (h : takeE vw = some k) :
    ∃ Sd, Sub Sd (S k.t) ∧ OwnV F w k.τ k.m Sd v k.x := by
  unfold takeE at h
  split at h
  · rename_i τ m x he
    split at h
    · rename_i t hs
      simp only [Option.some.injEq] at h
      subst h
      obtain ⟨t', g1, g2, rfl⟩ := hv.own (by rw [he]; rfl)
      rw [hs] at g1; injection g1 with g1; subst g1
      have h3 := hi.ent t
      rw [g2, he] at h3
      obtain ⟨pl, S0, cs, h3⟩ := h3
      obtain ⟨_, _, e3, e4, e5⟩ := h3.own_inj
      subst e4
      exact ⟨_, fun _ h => h, cs, e5, h3.2.2⟩
    · cases h
  · rename_i r p e me x he
    simp only [Option.some.injEq] at h
    subst h
    obtain ⟨τ, m, z, pl, S0, cs, y, pl', S', Sp, g1, g2, g3, g4, g5, g6, g7, g8⟩ := pend_ok hi hv he
    exact ⟨Sp, g7, g6⟩
  · rename_i r he
    split at h
    · rename_i τ m x hr
      simp only [Option.some.injEq] at h
      subst h
      have h2 := hv.ent (by rw [he]; rfl) (r + 1) (by rw [he]; simp [Ent.root])
      rw [he] at h2
      simp only [EntOK, if_true] at h2
      obtain ⟨τ0, m0, x0, pl, S0, cs, σ', μ, pl', cs', g1, g2, g3, g4, g5, g6, g7⟩ := h2
      simp only [show ¬ (r = r + 1) from by omega, if_false] at g1
      have hroot := hv.root
      rw [he] at hroot
      simp only [rootE, Ent.root] at hroot
      rw [← hroot, hr] at g1
      obtain ⟨e1, e2, e3, e4, e5⟩ := g1.own_inj
      injection e1 with e6 e7
      subst e6; cases e7; subst e2; subst e3; subst e4
      simp only [loc, Option.some.injEq, Prod.mk.injEq] at g2
      obtain ⟨rfl, rfl⟩ := g2
      simp only [Place.read, Option.some.injEq] at g3
      subst g3
      exact ⟨_, fun _ h => h, cs, g4, g1.2.2⟩
    · cases h
  · cases h

theorem Inv0.takeOver (hi : Inv0 P N w0 F0 H env a w F S) {t : Nat} {τ : Ty} {m : Md} {x : τ.den} {v : Value} {Sd : NSet} (hd : Wr N d) (hs : Sub Sd (S t)) (hv : OwnV F w τ m Sd v x) :
    ∃ F2 S2, Inv0 P N w0 F0 H (Go.Lf.put (Go.Lf.drop env t) d (mkE C d τ m x)) (a.put (some d) v) w F2 S2 := by
  refine (hi.drop t).putNew hd (RowKit.Below.refl _ _) (fun _ h => h) hi.fb (fun b h1 h2 => absurd h1 h2) ?_ hv
  intro b hb
  obtain ⟨h1, h2, h3⟩ := hi.sb t b (hs b hb)
  refine ⟨h1, h2, h3, fun u hu => ?_⟩
  by_cases h : u = t
  · simp [h] at hu; exact hu
  · simp only [h, if_false] at hu
    exact hi.sd u t h b hu (hs b hb)

theorem ownA_ok (hi : Inv0 P C.np w0 F0 H env a w F S) (hd : Wr C.np d) {v : Value} {vw : View} (hv : ViewOK P F w env (fun t => a.tmps.getD t undef) S v vw) {c : Prop} {st' : St} (h : ownA C d env vw = some (c, st')) :
    Inv P C.np w0 F0 H st' (a.put (some d) v) w := by
  unfold ownA at h
  cases hb : (isSub vw.e && isNone (look C.mds d))
  · rw [hb] at h
    simp only [cond_false] at h
    split at h
    · rename_i k hk
      simp only [Option.some.injEq, Prod.mk.injEq] at h
      obtain ⟨_, rfl⟩ := h
      obtain ⟨Sd, g1, g2⟩ := takeE_ok hi hv hk
      exact hi.takeOver hd g1 g2
    · cases h
  · rw [hb] at h; cases h

theorem valS_ok (hi : Inv0 P N w0 F0 H env a w F S) {v : Value} {vw : View} (hv : ViewOK P F w env (fun t => a.tmps.getD t undef) S v vw) {σ : Ty} {μ μ' : Md} {l : Al} {y : σ.den} {u : List Nat}
    (h : valS σ μ l vw = some (y, μ', u, false)) : (u = [] ∧ OwnV F w σ μ' none' v y) ∨ ∃ t, u = [t] ∧ OwnV F w σ μ' (S t) v y := by
  have hsh : ∀ {y : σ.den}, vw.shrAs σ = some y → OwnV F w σ (bif σ.flat then μ else .shr) none' v y := by
    intro y hy
    have := shrAs_ok hi hv hy
    cases hf : σ.flat
    · exact this
    · exact OwnV.flat hf this
  unfold valS at h
  split at h
  · rename_i he
    split at h
    · rename_i z hz
      simp only [Option.some.injEq, Prod.mk.injEq] at h
      obtain ⟨rfl, rfl, rfl, _⟩ := h
      have := ownAs_ok (e := σ) (m := μ) (x := z) (l := []) hi hv (by unfold View.ownAs; rw [he]; simp [hz])
      rcases this with ⟨_, h⟩ | ⟨t, h, _⟩
      · exact .inl ⟨rfl, h⟩
      · cases h
    · split at h
      · rename_i z hz
        simp only [Option.some.injEq, Prod.mk.injEq] at h
        obtain ⟨rfl, rfl, rfl, _⟩ := h
        exact .inl ⟨rfl, shrAs_ok hi hv (by unfold View.shrAs; rw [he]; exact hz)⟩
      · cases h
  · split at h
    · rename_i z u' hz
      simp only [Option.some.injEq, Prod.mk.injEq] at h
      obtain ⟨rfl, rfl, rfl, _⟩ := h
      exact ownAs_ok hi hv hz
    · cases h
  · rename_i r he
    split at h
    · split at h
      · rename_i z hz
        simp only [Option.some.injEq, Prod.mk.injEq] at h
        obtain ⟨rfl, rfl, rfl, _⟩ := h
        have hfl : σ.flat = true := by
          unfold View.shrAs at hz
          rw [he] at hz
          simp only [] at hz
          cases hf : σ.flat
          · rw [hf] at hz; cases hz
          · rfl
        exact .inl ⟨rfl, OwnV.flat hfl (shrAs_ok hi hv hz)⟩
      · split at h
        · rename_i z u' hz
          simp only [Option.some.injEq, Prod.mk.injEq] at h
          obtain ⟨rfl, rfl, rfl, _⟩ := h
          exact ownR_ok hi hv hz
        · cases h
    · split at h
      · rename_i z hz
        simp only [Option.some.injEq, Prod.mk.injEq] at h
        obtain ⟨rfl, rfl, rfl, _⟩ := h
        have hfl : σ.flat = true := by
          unfold View.shrAs at hz
          rw [he] at hz
          simp only [] at hz
          cases hf : σ.flat
          · rw [hf] at hz; cases hz
          · rfl
        exact .inl ⟨rfl, OwnV.flat hfl (shrAs_ok hi hv hz)⟩
      · split at h
        · rename_i z u' hz
          simp only [Option.some.injEq, Prod.mk.injEq] at h
          obtain ⟨rfl, rfl, rfl, _⟩ := h
          exact ownR_ok hi hv hz
        · cases h
    · split at h
      · rename_i z hz
        simp only [Option.some.injEq, Prod.mk.injEq] at h
        obtain ⟨rfl, rfl, rfl, _⟩ := h
        exact .inl ⟨rfl, hsh hz⟩
      · cases h
  · rename_i r p e me x he
    cases hb : (Nat.beq r l.r && decide (p = l.p) && decide (μ = .own me))
    · rw [hb] at h; cases h
    · rw [hb] at h
      simp only [cond_true] at h
      split at h
      · simp only [Option.some.injEq, Prod.mk.injEq] at h
        obtain ⟨_, _, _, h⟩ := h
        cases h
      · cases h
  · split at h
    · rename_i z hz
      simp only [Option.some.injEq, Prod.mk.injEq] at h
      obtain ⟨rfl, rfl, rfl, _⟩ := h
      exact .inl ⟨rfl, hsh hz⟩
    · cases h

theorem valS_pend {vw : View} {σ : Ty} {μ μ' : Md} {l : Al} {y : σ.den} {u : List Nat} (h : valS σ μ l vw = some (y, μ', u, true)) :
    ∃ e me x, vw.e = .pend l.r l.p e me x ∧ μ = .own me ∧ μ' = μ ∧ u = [] ∧ (⟨.slice e, x⟩ : Σ τ : Ty, τ.den) = ⟨σ, y⟩ := by
  unfold valS at h
  split at h
  · split at h
    · simp only [Option.some.injEq, Prod.mk.injEq] at h; obtain ⟨_, _, _, h⟩ := h; cases h
    · split at h
      · simp only [Option.some.injEq, Prod.mk.injEq] at h; obtain ⟨_, _, _, h⟩ := h; cases h
      · cases h
  · split at h
    · simp only [Option.some.injEq, Prod.mk.injEq] at h; obtain ⟨_, _, _, h⟩ := h; cases h
    · cases h
  · split at h
    · split at h
      · simp only [Option.some.injEq, Prod.mk.injEq] at h; obtain ⟨_, _, _, h⟩ := h; cases h
      · split at h
        · simp only [Option.some.injEq, Prod.mk.injEq] at h; obtain ⟨_, _, _, h⟩ := h; cases h
        · cases h
    · split at h
      · simp only [Option.some.injEq, Prod.mk.injEq] at h; obtain ⟨_, _, _, h⟩ := h; cases h
      · split at h
        · simp only [Option.some.injEq, Prod.mk.injEq] at h; obtain ⟨_, _, _, h⟩ := h; cases h
        · cases h
    · split at h
      · simp only [Option.some.injEq, Prod.mk.injEq] at h; obtain ⟨_, _, _, h⟩ := h; cases h
      · cases h
  · rename_i r p e me x he
    cases hb : (Nat.beq r l.r && decide (p = l.p) && decide (μ = .own me))
    · rw [hb] at h; cases h
    · rw [hb] at h
      simp only [cond_true] at h
      simp only [Bool.and_eq_true, nbeq_iff, decide_eq_true_eq] at hb
      obtain ⟨⟨h1, h2⟩, h3⟩ := hb
      split at h
      · rename_i z hz
        simp only [Option.some.injEq, Prod.mk.injEq] at h
        obtain ⟨rfl, rfl, rfl, _⟩ := h
        exact ⟨e, me, x, by rw [he, h1, h2], h3, rfl, rfl, castD_some hz⟩
      · cases h
  · split at h
    · simp only [Option.some.injEq, Prod.mk.injEq] at h; obtain ⟨_, _, _, h⟩ := h; cases h
    · cases h

theorem storeE_ok (hC : CtxOK P C) (hi : Inv0 P N w0 F0 H env a w F S) {T : TypeId} {x z : Operand} {o : Oper} (ho : o.op = .store T x z) (hod : o.dst = none) {vx vz : View}
    (hx : ViewOK P F w env (fun t => a.tmps.getD t undef) S (a.eval x) vx) (hz : ViewOK P F w env (fun t => a.tmps.getD t undef) S (a.eval z) vz)
    {c : Prop} {st' : St} (h : storeE C env T vx vz = some (c, st')) {K : Act → World → Prop} {Q : Exit → Act → World → Prop} (hK : ∀ a' w', Inv P N w0 F0 H st' a' w' → K a' w') : o.wp P a w K Q := by
  unfold storeE at h
  split at h
  · rename_i l hl
    obtain ⟨σ, y0, μ, pl, S0, cs, b, off, hA, hv⟩ := addr?_ok hi hx hl
    rw [hA.get, hA.mode] at h
    simp only [] at h
    cases hT : decide (look C.tys T = some σ)
    · rw [hT] at h; cases h
    have hT' := of_decide_eq_true hT
    rw [hT] at h
    simp only [cond_true] at h
    split at h
    · rename_i y μ' used isP hvs
      split at h
      · rename_i x' m' hset hmode
        cases hn : nodupN (l.r :: used)
        · rw [hn] at h; cases h
        rw [hn] at h
        simp only [cond_true, Option.some.injEq, Prod.mk.injEq] at h
        obtain ⟨_, rfl⟩ := h
        have hm : μ' = μ ∧ m' = l.m ∨ setM l.p l.τ l.m μ' = some m' := by
          unfold modeS at hmode
          cases hd : decide (μ' = μ)
          · rw [hd] at hmode; exact .inr hmode
          · rw [hd] at hmode
            simp only [cond_true, Option.some.injEq] at hmode
            exact .inl ⟨of_decide_eq_true hd, hmode.symm⟩
        obtain ⟨cs2, S', f⟩ := hA.focus (fun b hb => (hi.sb _ b hb).2.2)
        obtain ⟨q1, q2, row, T0, q3, q4, q5⟩ := f.ok
        have fin : ∀ w', (storeVar T ⟨b, off, none⟩ (a.eval z)).run P w = .ok () w' → (execOp a.eval o).run P w = .ok .skip w' := by
          intro w' hw'
          simp [execOp, ho, Instr.storeAt, hv, Instr.sureAddr, hw']
        have goal : ∀ w', (storeVar T ⟨b, off, none⟩ (a.eval z)).run P w = .ok () w' → Inv P N w0 F0 H (upd (kill (dropAll env used) l.r) l.r (reown (env l.r) l.τ m' x')) a w' → o.wp P a w K Q := by
          intro w' hw' hinv
          unfold Oper.wp
          rw [fin w' hw', Oper.upon_skip, hod]
          exact hK a w' hinv
        have hbS : S l.r b := (f.blk b rfl).elim (hA.root.sub b) hA.root.isB
        cases isP with
        | false =>
          have hval := valS_ok hi hz hvs
          have hown : ∃ S1, Sub S1 (SL S used) ∧ OwnV F w σ μ' S1 (a.eval z) y := by
            rcases hval with ⟨rfl, h⟩ | ⟨t, rfl, h⟩
            · exact ⟨none', fun _ h => h.elim, h⟩
            · exact ⟨S t, fun b hb => ⟨t, by simp, hb⟩, h⟩
          obtain ⟨S1, k1, k2⟩ := hown
          obtain ⟨hnr, _⟩ := nodup_cons hn
          have hdis : ∀ k, S1 k → ¬ S l.r k := by
            intro k hk hr
            obtain ⟨t, ht, hk⟩ := k1 k hk
            exact hi.sd t l.r (fun e => hnr (e ▸ ht)) k hk hr
          obtain ⟨w', g1, g2⟩ := store_core hC hi hT' hA.root f.toPlug ⟨row, T0, q3, q4⟩ k2 hn (fun k hk => ⟨fun h => hdis k hk (hA.root.sub k h.1), fun h => hdis k hk (hA.root.isB h), .inr (k1 k hk), fun e => hdis k hk (e ▸ hbS)⟩) hset hm
          exact goal w' g1 g2
        | true =>
          obtain ⟨e, me, xs, he, h1, h2, h3, h4⟩ := valS_pend hvs
          subst h2; subst h3
          obtain ⟨τ, m, z0, pl2, S02, cs3, y2, pl3, S3, Sp, g1, g2, g3, g4, g5, g6, g7, g8⟩ := pend_ok hi hz he
          obtain ⟨e1, e2, e3, e4⟩ := g1.uniq hA.root
          injection e1 with e5 e6
          subst e5; cases e6; subst e2; subst e3; subst e4
          injection h4 with h5 h6
          subst h5; cases h6; subst h1
          have hpl : pl3 = .mem b off := by
            have := g2.loc.symm.trans hA.loc
            simp only [Option.some.injEq, Prod.mk.injEq, true_and] at this
            exact this
          subst hpl
          obtain ⟨w', k1, k2⟩ := store_core hC hi hT' g1 g2 ⟨row, T0, q3, q4⟩ g6 hn (fun k hk => ⟨(g8 k hk).1, (g8 k hk).2, .inl (g7 k hk), fun e => by
            subst e
            have h1 := g2.out k rfl
            rcases g2.blk k rfl with h | h
            · exact (g8 k hk).1 ⟨h, h1⟩
            · exact (g8 k hk).2 h⟩) hset hm
          exact goal w' k1 k2
      · cases h
    · cases h
  · cases h

theorem pureStp_ok (hC : CtxOK P C) (hi : Inv0 P C.np w0 F0 H env a w F S) {o : Oper} {c : Prop} {st' : St} (h : pureStp C env o = some (c, st')) (hc : c) {K : Act → World → Prop} {Q : Exit → Act → World → Prop}
    (hK : ∀ a' w', Inv P C.np w0 F0 H st' a' w' → K a' w') : o.wp P a w K Q := by
  unfold pureStp at h
  split at h
  · rename_i d c' e l hd ho
    simp only [Option.some.injEq, Prod.mk.injEq] at h
    obtain ⟨rfl, rfl⟩ := h
    have hv : VOK P F w env a S o.op (viewO env) := by
      unfold VOK
      split
      · exact ⟨viewO_ok hi _, fun _ _ _ => viewO_ok hi _, fun _ _ _ => viewO_ok hi _⟩
      · exact fun z _ => viewO_ok hi z
    obtain ⟨d', h1, _, h2⟩ := opE_ok hC hi hv ho hc
    rw [hd] at h1; injection h1 with h1; subst h1
    exact h2 K Q (fun v w' F2 S2 h => hK _ _ ⟨F2, S2, h⟩)
  · cases h

theorem appC_ok (hC : CtxOK P C) (hi : Inv0 P C.np w0 F0 H env a w F S) {o : Oper} {q : Call} (ho : o.op = .call q) {c : Prop} {st' : St} (h : appC C env o q = some (c, st')) (hc : c) {K : Act → World → Prop} {Q : Exit → Act → World → Prop}
    (hK : ∀ a' w', Inv P C.np w0 F0 H st' a' w' → K a' w') : o.wp P a w K Q := by
  obtain ⟨callee, args, ts⟩ := q
  unfold appC at h
  split at h
  · rename_i x y T T2 d hcal hargs hts hd
    simp only [] at hcal hargs hts
    cases hb : wrB C d
    · rw [hb] at h; cases h
    rw [hb] at h
    simp only [cond_true] at h
    have e1 : args = #[x, y] := by apply Array.ext'; simpa using hargs
    have e2 : ts = #[T, T2] := by apply Array.ext'; simpa using hts
    subst e1; subst e2; subst hcal
    have hx := viewO_ok hi x
    have hy := viewO_ok hi y
    unfold appE at h
    split at h
    · rename_i e e2 r p al hT hT2 he hs
      obtain ⟨σ, z, μ, pl, S0, cs, pl', cs', hA, hrd, hv⟩ := sub?_ok hi hx hs
      split at h
      · rename_i e' xs' me hg hm
        split at h
        · rename_i xs ys l hcast hsrc
          cases hn : (nodupN (al.r :: l) && !Nat.beq d al.r)
          · rw [hn] at h; cases h
          rw [hn] at h
          simp only [cond_true, Option.some.injEq, Prod.mk.injEq] at h
          obtain ⟨rfl, rfl⟩ := h
          simp only [Bool.and_eq_true, Bool.not_eq_true'] at hn
          have hdr : d ≠ al.r := fun h => by rw [nbeq_iff.2 h] at hn; exact absurd hn.2 (by simp)
          obtain ⟨rfl, rfl⟩ := castD_slice hcast
          have e3 := hA.get.symm.trans hg
          simp only [Option.some.injEq, Sigma.mk.injEq] at e3
          obtain ⟨rfl, e3⟩ := e3; cases e3
          have e4 := hA.mode.symm.trans hm
          simp only [Option.some.injEq] at e4; subst e4
          obtain ⟨ao2, n2, cap2, cs2, Si2, me', q2, hm2⟩ := srcE_ok hi hy hsrc
          obtain ⟨v, w', F2, S2, k1, k2⟩ := appE_core (ty := o.type) hC hi (wrB_iff hb) hT hT2 hA hrd (q2.fix hm2) hn.1 hdr (by simpa using hc)
          unfold Oper.wp
          have hrun : (execOp a.eval o).run P w = .ok (.value v) w' := by
            simp only [execOp, ho, resolve, invoke, builtin, Sem.run_bind, Sem.run_pure, Result.andThen, List.map_toArray, List.map_cons, List.map_nil]
            rw [hv, k1]
          rw [hrun, Oper.upon_value, hd]
          exact hK _ _ ⟨F2, S2, k2⟩
        · cases h
      · cases h
    · cases h
  · cases h

theorem stp_ok (hC : CtxOK P C) : StpOK P C (stp C) := by
  intro w0 F0 H env env' a w o c hi h hc K Q hK
  obtain ⟨F, S, hi⟩ := hi
  unfold stp at h
  split at h
  · rename_i T x v hop
    cases hd : isNone o.dst
    · rw [hd] at h; cases h
    · rw [hd] at h
      exact storeE_ok hC hi hop (isNone_iff.1 hd) (viewO_ok hi x) (viewO_ok hi v) h hK
  · rename_i x hop
    split at h
    · rename_i d hd
      split at h
      · rename_i r hr
        cases hb : wrB C d
        · rw [hb] at hr; cases hr
        · rw [hb] at hr
          simp only [cond_true] at hr
          simp only [Option.some.injEq] at h
          subst h
          have := ownA_ok hi (wrB_iff hb) (viewO_ok hi x) hr
          unfold Oper.wp
          have hrun : (execOp a.eval o).run P w = .ok (.value (a.eval x)) w := by simp [execOp, hop]
          rw [hrun, Oper.upon_value, hd]
          exact hK _ _ this
      · exact pureStp_ok hC hi h hc hK
    · cases h
  · simp only [Option.some.injEq, Prod.mk.injEq] at h
    obtain ⟨rfl, _⟩ := h
    exact hc.elim
  · rename_i q hop
    split at h
    · rename_i r hr
      simp only [Option.some.injEq] at h
      subst h
      exact appC_ok hC hi hop hr hc hK
    · exact pureStp_ok hC hi h hc hK
  · exact pureStp_ok hC hi h hc hK
end
end Go.Lf
