/- Written by gen.py: what is left to show of each function. -/
import Derived.Test.YtdcbiadlojcaoaaLfj
import Derived.Scope
set_option linter.unusedVariables false
set_option linter.unusedSimpArgs false
namespace Go.Lf
def Md.le : Md -> Md -> Bool
 | .shr, _ => true
 | .own a, .own b => Md.le a b
 | .pair a b, .pair c d => Md.le a c && Md.le b d
 | _, _ => false
theorem Md.le_fst : ∀ {a b : Md}, Md.le a b = true -> Md.le a.fst b.fst = true
 | .shr, _, _ => by simp [Md.fst, Md.le]
 | .own _, .own _, _ => by simp [Md.fst, Md.le]
 | .pair _ _, .pair _ _, h => by simp only [Md.le, Bool.and_eq_true] at h; exact h.1
theorem Md.le_snd : ∀ {a b : Md}, Md.le a b = true -> Md.le a.snd b.snd = true
 | .shr, _, _ => by simp [Md.snd, Md.le]
 | .own _, .own _, _ => by simp [Md.snd, Md.le]
 | .pair _ _, .pair _ _, h => by simp only [Md.le, Bool.and_eq_true] at h; exact h.2
theorem Md.le_elem : ∀ {a b : Md}, Md.le a b = true -> Md.le a.elem b.elem = true
 | .shr, _, _ => by simp [Md.elem, Md.le]
 | .own _, .own _, h => h
 | .pair _ _, .pair _ _, h => by simp [Md.elem, Md.le]
theorem Own.weak {F : aA} {w : World} : ∀ {τ : Ty} {m m' : Md} {S : aA} {cs : List Value} {x : τ.den}, Own F w τ m S cs x -> Md.le m' m = true ->
  ∃ S', Sub S' S /\ Own (fun b => F b ∨ (S b /\ ¬ S' b)) w τ m' S' cs x
 | .int _, _, _, _, _, _, h, _ => ⟨none', fun _ h => h.elim, by simpa [Own] using h⟩
 | .bool, _, _, _, _, _, h, _ => ⟨none', fun _ h => h.elim, by simpa [Own] using h⟩
 | .str, _, _, _, _, _, h, _ => ⟨none', fun _ h => h.elim, by simpa [Own] using h⟩
 | .abs _, _, _, _, _, _, h, _ => ⟨none', fun _ h => h.elim, AbsOK.congr (fun _ h => .inl h) (fun _ _ => rfl) h⟩
 | .unit, _, _, _, _, _, h, _ => ⟨none', fun _ h => h.elim, by simpa [Own] using h⟩
 | .prod a b, m, m', S, cs, x, h, hm => by
  obtain ⟨c1, c2, S1, S2, rfl, s1, s2, d, h1, h2⟩ := h;obtain ⟨T1, t1, g1⟩ := Own.weak (τ := a) h1 (Md.le_fst hm);obtain ⟨T2, t2, g2⟩ := Own.weak (τ := b) h2 (Md.le_snd hm);refine ⟨fun k => T1 k ∨ T2 k, fun k hk => hk.elim (fun h => s1 k (t1 k h)) (fun h => s2 k (t2 k h)), c1, c2, T1, T2, rfl, fun _ h => .inl h, fun _ h => .inr h, fun k h1 h2 => d k (t1 k h1) (t2 k h2), ?_, ?_⟩
  ·exact g1.mono (fun k hk => hk.imp id fun hk => ⟨s1 k hk.1, fun h => h.elim hk.2 (fun h => d k hk.1 (t2 k h))⟩) (fun _ h => h)
  ·exact g2.mono (fun k hk => hk.imp id fun hk => ⟨s2 k hk.1, fun h => h.elim (fun h => d k (t1 k h) hk.1) hk.2⟩) (fun _ h => h)
 | .slice e, m, .shr, S, cs, xs, h, hm => ⟨none', fun _ h => h.elim, (Own.freeze (S' := none') h).mono (fun k hk => hk.imp id fun hk => ⟨hk, fun h => h⟩) (fun _ h => h)⟩
 | .slice e, m, .pair _ _, S, cs, xs, h, hm => by
  obtain ⟨ao, cap, rfl, hc, hl, h⟩ := h;cases m with
  | own me => cases hm
  | shr => cases hm
  | pair a b =>
   refine ⟨none', fun _ h => h.elim, ao, cap, rfl, hc, hl, ?_⟩
   rcases h with h | ⟨b, off, row, T, fr, ha, hb, hr, ho, he⟩
   ·exact .inl h
   ·exact .inr ⟨b, off, row, T, fr, ha, .inl hb, hr, ho, fun i x hx => (he i x hx).mono (fun _ h => .inl h) (fun _ h => h)⟩
 | .slice e, m, .own me', S, cs, xs, h, hm => by
  obtain ⟨ao, cap, rfl, hc, hl, h⟩ := h;cases m with
  | shr => cases hm
  | pair _ _ => cases hm
  | own me =>
   rcases h with h | ⟨b, off, row, T, Si, ha, hb, hr, ho, s, nb, d, he⟩
   ·exact ⟨none', fun _ h => h.elim, ao, cap, rfl, hc, hl, .inl h⟩
   ·have hex : ∀ i : Nat, ∃ Ti : aA, Sub Ti (Si i) /\ ∀ x, xs[i]? = some x -> Own (fun b => F b ∨ (Si i b /\ ¬ Ti b)) w e me' Ti (seg row.toList (off + i * e.size) e.size) x := by
     intro i;cases hx : xs[i]? with
     | none => exact ⟨none', fun _ h => h.elim, fun x hx => by cases hx⟩
     | some x =>
      obtain ⟨T1, t1, g1⟩ := Own.weak (τ := e) (he i x hx) hm;exact ⟨T1, t1, fun y hy => by cases hy; exact g1⟩
    have hTs := fun i => (hex i).choose_spec
    generalize hT : (fun i => (hex i).choose) = Ti at hTs
    have hT' : ∀ i, (hex i).choose = Ti i := fun i => by rw [<- hT]
    simp only [hT'] at hTs;refine ⟨fun k => k = b ∨ ∃ i, Ti i k, ?_, ao, cap, rfl, hc, hl, .inr ⟨b, off, row, T, Ti, ha, .inl rfl, hr, ho, fun i k hk => .inr ⟨i, hk⟩, fun i hk => nb i ((hTs i).1 _ hk), fun i j hij k h1 h2 => d i j hij k ((hTs i).1 _ h1) ((hTs j).1 _ h2), ?_⟩⟩
    ·rintro k (rfl | ⟨i, hk⟩)
     ·exact hb
     ·exact s i k ((hTs i).1 _ hk)
    ·intro i x hx
     refine ((hTs i).2 x hx).mono (fun k hk => hk.imp id fun hk => ⟨s i k hk.1, ?_⟩) (fun _ h => h)
     rintro (rfl | ⟨j, hj⟩)
     ·exact nb i hk.1
     ·by_cases hij : i = j
      ·subst hij; exact hk.2 hj
      ·exact d i j hij k hk.1 ((hTs j).1 _ hj)
 | .arr n e, m, m', S, cs, xs, h, hm => by
  obtain ⟨hn, hc, Si, s, d, he⟩ := h;have hex : ∀ i : Nat, ∃ Ti : aA, Sub Ti (Si i) /\ ∀ x, xs[i]? = some x -> Own (fun b => F b ∨ (Si i b /\ ¬ Ti b)) w e m'.elem Ti (seg cs (i * e.size) e.size) x := by
   intro i;cases hx : xs[i]? with
   | none => exact ⟨none', fun _ h => h.elim, fun x hx => by cases hx⟩
   | some x =>
    obtain ⟨T1, t1, g1⟩ := Own.weak (τ := e) (he i x hx) (Md.le_elem hm);exact ⟨T1, t1, fun y hy => by cases hy; exact g1⟩
  have hTs := fun i => (hex i).choose_spec
  generalize hT : (fun i => (hex i).choose) = Ti at hTs
  have hT' : ∀ i, (hex i).choose = Ti i := fun i => by rw [<- hT]
  simp only [hT'] at hTs;refine ⟨fun k => ∃ i, Ti i k, fun k ⟨i, hk⟩ => s i k ((hTs i).1 _ hk), hn, hc, Ti, fun i k hk => ⟨i, hk⟩, fun i j hij k h1 h2 => d i j hij k ((hTs i).1 _ h1) ((hTs j).1 _ h2), ?_⟩
  intro i x hx;refine ((hTs i).2 x hx).mono (fun k hk => hk.imp id fun hk => ⟨s i k hk.1, ?_⟩) (fun _ h => h)
  rintro ⟨j, hj⟩
  by_cases hij : i = j
  ·subst hij; exact hk.2 hj
  ·exact d i j hij k hk.1 ((hTs j).1 _ hj)
def weakO (st : St) (r : Nat) (m : Md) : St :=
 match st r with
 | .own τ m0 x => bif Md.le m m0 then upd (cJ st r) r (.own τ m x) else st
 | .box τ m0 x => bif Md.le m m0 then upd (cJ st r) r (.box τ m x) else st
 | _ => st
section
variable {P : Program} {N : NP} {w0 : World} {F0 H : aA} {env : St} {a : Act} {w : World} {F : aA} {S : Nat -> aA}
theorem aM.weakE (hi : aM P N w0 F0 H env a w F S) {r : Nat} {e : Ent} {S1 : aA} (hs : Sub S1 (S r)) (hr : (env r).isOwner = true)
  (he : aC P (fun b => F b ∨ (S r b /\ ¬ S1 b)) w (upd (cJ env r) r e) (fun t => a.tmps.getD t undef) (fun t => if t = r then S1 else S t) r e) :
  aM P N w0 F0 H (upd (cJ env r) r e) a w (fun b => F b ∨ (S r b /\ ¬ S1 b)) (fun t => if t = r then S1 else S t) := by
 have hap : ∀ t b, t ≠ r -> S t b -> ¬ S r b := fun t b h h1 h2 => hi.sd t r h b h1 h2
 refine ⟨hi.os, hi.tape, hi.output, hi.size, hi.block, ?_, fun b hb => .inl (hi.f0 b hb), ?_, ?_, ?_, ?_, hi.defers, hi.slots⟩
 ·rintro b (hb | ⟨hb, _⟩)
  ·exact hi.fb b hb
  ·exact (hi.sb r b hb).2.1
 ·rintro b (hb | ⟨hb, _⟩) hn
  ·exact hi.fn b hb hn
  ·exact (hi.sb r b hb).1
 ·intro t b ht
  by_cases h : t = r
  ·simp only [h, if_true] at ht
   obtain ⟨g1, g2, g3⟩ := hi.sb r b (hs b ht);exact ⟨g1, g2, fun hF => hF.elim g3 (fun h => h.2 ht)⟩
  ·simp only [h, if_false] at ht
   obtain ⟨g1, g2, g3⟩ := hi.sb t b ht;exact ⟨g1, g2, fun hF => hF.elim g3 (fun h' => hap t b h ht h'.1)⟩
 ·intro t u htu b h1 h2
  by_cases h : t = r
  ·simp only [h, if_true] at h1
   by_cases h' : u = r
   ·exact htu (h.trans h'.symm)
   ·simp only [h', if_false] at h2
    exact hap u b h' h2 (hs b h1)
  ·simp only [h, if_false] at h1
   by_cases h' : u = r
   ·simp only [h', if_true] at h2; exact hap t b h h1 (hs b h2)
   ·simp only [h', if_false] at h2
    exact hi.sd t u htu b h1 h2
 ·intro t
  by_cases h : t = r
  ·subst h
   rw [bZ];exact he
  ·rw [bN _ _ h]
   rcases c8 env r t with h' | ⟨h', hne⟩
   ·rw [h']; trivial
   ·rw [h']
    refine aC.keep (fun b hb => .inl hb) (fun _ _ => rfl) rfl ?_ ?_ (hi.ent t)
    ·intro q hq
     have hqr : q ≠ r := fun e => hne (e ▸ hq)
     refine ⟨fun ho => ?_, fun _ => rfl, by simp [hqr], fun _ _ => rfl, ?_, fun b hb => (hi.sb q b hb).2.2⟩
     ·rw [bN _ _ hqr]; unfold cJ d8; rw [Ent.owner_root ho]
     ·rintro b (h1 | h1) h2
      ·exact absurd h1 h2
      ·exact fun h3 => hap q b hqr h3 h1.1
    ·intro _
     refine ⟨by simp [h], fun _ _ => rfl, ?_⟩
     rintro b (h1 | h1) h2
     ·exact absurd h1 h2
     ·exact fun h3 => hap t b h h3 h1.1
theorem weakO_ok {r : Nat} {m : Md} (h : Inv P N w0 F0 H env a w) : Inv P N w0 F0 H (weakO env r m) a w := by
 obtain ⟨F, S, hi⟩ := h
 unfold weakO
 split
 ·rename_i τ m0 x hr
  cases hm : Md.le m m0
  ·exact ⟨F, S, hi⟩
  ·have h1 := hi.ent r
   rw [hr] at h1;obtain ⟨pl, S0, cs, h1⟩ := h1;obtain ⟨_, _, hpl, hS0, hv⟩ := h1.own_inj;obtain ⟨S1, s1, g1⟩ := Own.weak h1.2.2 hm;subst hS0;refine ⟨_, _, hi.weakE s1 (by rw [hr]; rfl) ?_⟩;refine ⟨.val cs, S1, cs, .inl ⟨rfl, rfl, ?_, hv⟩, rfl, g1⟩
   simp
 ·rename_i τ m0 x hr
  cases hm : Md.le m m0
  ·exact ⟨F, S, hi⟩
  ·have h1 := hi.ent r
   rw [hr] at h1;obtain ⟨pl, S0, cs, h1⟩ := h1;obtain ⟨_, _, b, rfl, hS0, hval, hsb⟩ := h1.box_inj;obtain ⟨q1, q2, row, T0, q3, q4, q5⟩ := h1.2.1;obtain ⟨S1, s1, g1⟩ := Own.weak h1.2.2 hm;have hb1 : ¬ S1 b := fun h => q1 (s1 b h)
   refine ⟨_, _, hi.weakE (S1 := fun k => S1 k ∨ k = b) (fun k hk => hk.elim (fun h => h1.sub k (s1 k h)) (fun h => h ▸ hsb)) (by rw [hr]; rfl) ?_⟩
   refine ⟨.mem b 0, S1, cs, .inr ⟨rfl, b, rfl, ?_, hval, by simp⟩, ⟨hb1, ?_, row, T0, q3, q4, q5⟩, g1.mono ?_ (fun _ h => h)⟩
   ·funext k
    simp only [if_true]
    apply propext
    constructor
    ·exact fun h => ⟨.inl h, fun e => hb1 (e ▸ h)⟩
    ·rintro ⟨h | h, h2⟩
     ·exact h
     ·exact absurd h h2
   ·rintro (h | ⟨_, h⟩)
    ·exact q2 h
    ·exact h (.inr rfl)
   ·rintro k (h | ⟨h, h2⟩)
    ·exact .inl h
    ·refine .inr ⟨h1.sub k h, ?_⟩
     rintro (h3 | h3)
     ·exact h2 h3
     ·subst h3; exact q1 h
 ·exact ⟨F, S, hi⟩
end
end Go.Lf
namespace Go.Lf

def frzW (st : St) (r : Nat) : St := match st r with
 | .box τ _ x => fun t => match st t with
  | .addr r' [] => bif Nat.beq r' r then .saddr τ x else frzO st r t
  | _ => frzO st r t
 | _ => st

section
variable {P : Program} {N : NP} {w0 : World} {F0 H : aA} {env : St} {a : Act} {w : World}
theorem frzW_ok {r : Nat} (h : Inv P N w0 F0 H env a w) : Inv P N w0 F0 H (frzW env r) a w := by
 have hf := frzO_ok (r := r) h
 obtain ⟨F, S, hi⟩ := h
 unfold frzW
 split
 ·rename_i τ m x hr
  have e0 : frzO env r = upd (cJ env r) r (.saddr τ x) := by unfold frzO; rw [hr]
  obtain ⟨F', S', hi'⟩ := hf;have hsr : fV F' w (a.tmps.getD r undef) τ x := by
   have := hi'.ent r
   rw [e0, bZ] at this;exact this
  have hval : ∀ t, env t = .addr r [] -> a.tmps.getD t undef = a.tmps.getD r undef := by
   intro t ht;have h1 := hi.ent t;rw [ht] at h1;obtain ⟨τ1, m1, x1, pl, S0, cs, σ, μ, b, off, h1, h2, h3, h4, h5, h6⟩ := h1;rw [hr] at h1;obtain ⟨_, _, b', rfl, _, g1, _⟩ := h1.box_inj;simp only [loc, Option.some.injEq, Prod.mk.injEq, aD.mem.injEq] at h2;obtain ⟨_, rfl, rfl⟩ := h2;exact h3.trans g1.symm
  refine ⟨F', S', hi'.os, hi'.tape, hi'.output, hi'.size, hi'.block, hi'.fb, hi'.f0, hi'.fn, hi'.sb, hi'.sd, ?_, hi'.defers, hi'.slots⟩
  have hsame : ∀ q, (frzO env r q).isOwner = true -> (match env q with
    | .addr r' [] => bif Nat.beq r' r then .saddr τ x else frzO env r q
    | _ => frzO env r q) = frzO env r q := by
   intro q hq;split
   ·rename_i r' hq'
    cases hb : Nat.beq r' r
    ·rfl
    ·exfalso
     have := aX.1 hb
     subst this;rw [e0] at hq;have hne : q ≠ r' := fun e => by subst e; rw [hr] at hq'; cases hq'
     rw [bN _ _ hne] at hq;rcases c8 env r' q with h | ⟨h, h2⟩
     ·rw [h] at hq; cases hq
     ·rw [hq'] at h2; exact h2 rfl
   ·rfl
  have hkeep : ∀ t, aC P F' w (fun t => match env t with
    | .addr r' [] => bif Nat.beq r' r then .saddr τ x else frzO env r t
    | _ => frzO env r t) (fun t => a.tmps.getD t undef) S' t (frzO env r t) := by
   intro t;refine aC.keep (fun _ h => h) (fun _ _ => rfl) rfl ?_ (fun _ => ⟨rfl, fun _ _ => rfl, fun b h1 h2 => absurd h1 h2⟩) (hi'.ent t)
   intro q hq;exact ⟨fun ho => hsame q ho, fun _ => rfl, rfl, fun _ _ => rfl, fun b h1 h2 => absurd h1 h2, fun b hb => (hi'.sb q b hb).2.2⟩
  intro t;have := hkeep t
  revert this
  cases hm : env t with
  | addr r' p =>
   cases p with
   | nil =>
    cases hb : Nat.beq r' r
    ·intro this; dsimp only; rw [hb]; exact this
    ·intro _
     have := aX.1 hb
     subst this
     dsimp only; rw [hb]
     show fV F' w (a.tmps.getD t undef) τ x
     rw [hval t hm];exact hsr
   | cons _ _ => intro this; exact this
  | _ => intro this; exact this
 ·exact ⟨F, S, hi⟩
end

inductive KT : Type 1 where
 | i (L : List aW)
 | s (a b : KT)
 | c (l : aW) (a : KT) (b : l.ι -> KT)
 | d (a b : KT)
 | b (a : KT)
 | l (l : aW) (b : l.ι -> KT)
 | z (r : Nat) (L : List aW)
 | y (r : Nat) (m : Md) (L : List aW)
 | o (a : KT)
 | m

def wpT (C : Ctx) (stp : St -> Oper -> Option (Prop × St)) : KT -> Code -> St -> (St -> Prop) -> (Nat -> St -> Prop) -> (St -> Prop) -> Prop
 | .i L, c, st, Qn, Qx, Qr => wpI C stp L c 0 st Qn Qx Qr
 | .z r L, c, st, Qn, Qx, Qr => wpI C stp L c 0 (frzW st r) Qn Qx Qr
 | .y r m L, c, st, Qn, Qx, Qr => wpI C stp L c 0 (weakO st r m) Qn Qx Qr
 | .s ka kb, .seq a b, st, Qn, Qx, Qr => wpT C stp ka a st (fun st' => wpT C stp kb b st' Qn Qx Qr) Qx Qr
 | .c l ka kb, .seq a b, st, Qn, Qx, Qr => wpT C stp ka a st (fun st' => ∃ x, l.inv x /\ atX l st x (frzA st' l.frz)) Qx Qr /\ ∀ x, l.inv x -> factsL (l.ovr x) [] -> wpT C stp (kb x) b (stx l st x) Qn Qx Qr
 | .d ka kb, .cond x a b, st, Qn, Qx, Qr => match (bR st x).val with
  | some ⟨.bool, p⟩ => (p = true -> wpT C stp ka a st Qn Qx Qr) /\ (p = false -> wpT C stp kb b st Qn Qx Qr)
  | none => match (bR st x).e with
   | .nb p q => (p -> wpT C stp ka a st Qn Qx Qr) /\ (q -> wpT C stp kb b st Qn Qx Qr)
   | _ => False
  | _ => False
 | .b ka, .block id b, st, Qn, Qx, Qr => wpT C stp ka b st Qn (fun i st' => bif Nat.beq i id then Qn st' else Qx i st') Qr
 | .l l kb, .loop b, st, _, Qx, Qr => (∃ x, l.inv x /\ atX l (frzA st l.frz) x (frzA st l.frz)) /\ ∀ x, l.inv x -> factsL (l.ovr x) [] -> wpT C stp (kb x) b (stx l (frzA st l.frz) x) (fun st' => ∃ y, l.inv y /\ l.dec y < l.dec x /\ atX l (frzA st l.frz) y (frzA st' l.frz)) Qx Qr
 | .o ka, .scope b, st, Qn, Qx, Qr => wpT C stp ka b st Qn Qx Qr
 | .m, .label _, st, Qn, _, _ => Qn st
 | _, _, _, _, _, _ => False
termination_by structural _ c => c

def funPT (C : Ctx) (stp : St -> Oper -> Option (Prop × St)) (s : cX) (K : s.τ.den -> aN s.args -> KT) (fn : Func) : Prop :=
 match fn.body with
 | some c => ∀ x y, s.pre x y -> aB s.τ x -> factsK s.args y -> wpT C stp (K x y) c (ofL ((0, .box s.τ s.m x) :: dK s.args y 1)) (retPP C s fn.results.toList (s.fn x y) (s.out x y)) (fun _ _ => False) (retPP C s fn.results.toList (s.fn x y) (s.out x y))
 | none => False
def funIT (C : Ctx) (stp : St -> Oper -> Option (Prop × St)) (s : bG) (K : aN s.args -> KT) (fn : Func) : Prop :=
 match fn.body with
 | some c => ∀ x, s.pre x -> factsK s.args x -> wpT C stp (K x) c (ofL (dK s.args x 0)) (retP C fn.results.toList s (s.fn x)) (fun _ _ => False) (retP C fn.results.toList s (s.fn x))
 | none => False

section
variable {P : Program} {C : Ctx} {w0 : World} {F0 H : aA}

theorem wpT_ok (hC : aF P C) {stp : St -> Oper -> Option (Prop × St)} (hstp : eD P C stp) :
  ∀ (c : Code) {T : KT} {st : St} {Qn : St -> Prop} {Qx : Nat -> St -> Prop} {Qr : St -> Prop} {Q : Exit -> Act -> World -> Prop} {a : Act} {w : World}, wpT C stp T c st Qn Qx Qr -> Inv P C.np w0 F0 H st a w ->
   (∀ st a w, Qn st -> Inv P C.np w0 F0 H st a w -> Q .normal a w) -> (∀ i st a w, Qx i st -> Inv P C.np w0 F0 H st a w -> Q (.exit i) a w) -> (∀ st a w, Qr st -> Inv P C.np w0 F0 H st a w -> Q .ret a w) -> c.wp P Q a w := by
 intro c
 induction c with
 | seq x y ihx ihy =>
  intro T st Qn Qx Qr Q a w h hi hn hx hr;cases T with
  | i L => simp only [wpT] at h; exact cH hC hstp _ h hi hn hx hr
  | z r L => simp only [wpT] at h; exact cH hC hstp _ h (frzW_ok hi) hn hx hr
  | y r m L => simp only [wpT] at h; exact cH hC hstp _ h (weakO_ok hi) hn hx hr
  | s ka kb =>
   simp only [wpT] at h;refine wp_seq (ihx h hi ?_ hx hr);intro st1 a1 w1 h1 hi1;exact ihy h1 hi1 hn hx hr
  | c l ka kb =>
   simp only [wpT] at h;refine wp_seq (ihx h.1 hi ?_ hx hr);intro st1 a1 w1 h1 hi1;obtain ⟨z, g1, g2⟩ := h1;have hi2 := atX_ok g2 (frzA_ok (l := l.frz) hi1);exact ihy (h.2 z g1 (factsL_ok hi2 (f := l.ovr z) (fun t e h => by simp only [stx, h]) (l.ovr z) [] (fun t e _ h => h))) hi2 hn hx hr
  | _ => simp [wpT] at h
 | cond z x y ihx ihy =>
  intro T st Qn Qx Qr Q a w h hi hn hx hr;cases T with
  | i L => simp only [wpT] at h; exact cH hC hstp _ h hi hn hx hr
  | z r L => simp only [wpT] at h; exact cH hC hstp _ h (frzW_ok hi) hn hx hr
  | y r m L => simp only [wpT] at h; exact cH hC hstp _ h (weakO_ok hi) hn hx hr
  | d ka kb =>
   simp only [wpT] at h;split at h
   ·rename_i p hv
    obtain ⟨F, S, hi0⟩ := hi;have := (aK.val_ok hi0 (bA hi0 z) hv).bool_eq;refine wp_cond_split this (fun hp => ihx (h.1 hp) ⟨F, S, hi0⟩ hn hx hr) (fun hp => ihy (h.2 hp) ⟨F, S, hi0⟩ hn hx hr)
   ·split at h
    ·rename_i p q hv
     obtain ⟨F, S, hi0⟩ := hi;have h1 := (bA hi0 z).ent (by rw [hv]; rfl) 0 (by rw [hv]; simp [Ent.root]);rw [hv] at h1;simp only [aC, if_true] at h1;obtain ⟨b, h1, h2, h3⟩ := h1;refine wp_cond_split h1 (fun hp => ihx (h.1 (h2 hp)) ⟨F, S, hi0⟩ hn hx hr) (fun hp => ihy (h.2 (h3 hp)) ⟨F, S, hi0⟩ hn hx hr)
    ·cases h
   ·cases h
  | _ => simp [wpT] at h
 | block id b ih =>
  intro T st Qn Qx Qr Q a w h hi hn hx hr;cases T with
  | i L => simp only [wpT] at h; exact cH hC hstp _ h hi hn hx hr
  | z r L => simp only [wpT] at h; exact cH hC hstp _ h (frzW_ok hi) hn hx hr
  | y r m L => simp only [wpT] at h; exact cH hC hstp _ h (weakO_ok hi) hn hx hr
  | b ka =>
   simp only [wpT] at h;refine wp_block (ih h hi hn ?_ hr);intro i st1 a1 w1 h1 hi1;simp only [Exit.inBlock];cases hb : Nat.beq i id
   ·rw [hb] at h1
    have : i ≠ id := fun e => by subst e; rw [Nat.beq_refl] at hb; cases hb
    rw [if_neg this];exact hx _ _ _ _ h1 hi1
   ·rw [hb] at h1
    rw [if_pos (aX.1 hb)];exact hn _ _ _ h1 hi1
  | _ => simp [wpT] at h
 | loop b ih =>
  intro T st Qn Qx Qr Q a w h hi hn hx hr;cases T with
  | i L => simp only [wpT] at h; exact cH hC hstp _ h hi hn hx hr
  | z r L => simp only [wpT] at h; exact cH hC hstp _ h (frzW_ok hi) hn hx hr
  | y r m L => simp only [wpT] at h; exact cH hC hstp _ h (weakO_ok hi) hn hx hr
  | l l kb =>
   simp only [wpT] at h;obtain ⟨⟨x, h1, h2⟩, h3⟩ := h;refine wp_loop_x (fun x a w => l.inv x /\ Inv P C.np w0 F0 H (stx l (frzA st l.frz) x) a w) l.dec x ⟨h1, atX_ok h2 (frzA_ok hi)⟩ ?_
   intro y a1 w1 ⟨g1, g2⟩;refine ih (h3 y g1 (factsL_ok g2 (f := l.ovr y) (fun t e h => by simp only [stx, h]) (l.ovr y) [] (fun t e _ h => h))) g2 ?_ hx hr
   intro st2 a2 w2 ⟨z, k1, k2, k3⟩ hi2;exact ⟨z, ⟨k1, atX_ok k3 (frzA_ok hi2)⟩, k2⟩
  | _ => simp [wpT] at h
 | scope b ih =>
  intro T st Qn Qx Qr Q a w h hi hn hx hr;cases T with
  | i L => simp only [wpT] at h; exact cH hC hstp _ h hi hn hx hr
  | z r L => simp only [wpT] at h; exact cH hC hstp _ h (frzW_ok hi) hn hx hr
  | y r m L => simp only [wpT] at h; exact cH hC hstp _ h (weakO_ok hi) hn hx hr
  | o ka =>
   simp only [wpT] at h;exact wp_scope_straight (ih h hi (fun st a w h1 h2 => hn st a w h1 h2) (fun i st a w h1 h2 => hx i st a w h1 h2) (fun st a w h1 h2 => hr st a w h1 h2))
  | _ => simp [wpT] at h
 | label l =>
  intro T st Qn Qx Qr Q a w h hi hn hx hr;cases T with
  | i L => simp only [wpT] at h; exact cH hC hstp _ h hi hn hx hr
  | z r L => simp only [wpT] at h; exact cH hC hstp _ h (frzW_ok hi) hn hx hr
  | y r m L => simp only [wpT] at h; exact cH hC hstp _ h (weakO_ok hi) hn hx hr
  | m => simp only [wpT] at h; exact wp_label (hn _ _ _ h hi)
  | _ => simp [wpT] at h
 | _ =>
  intro T st Qn Qx Qr Q a w h hi hn hx hr;cases T with
  | i L => simp only [wpT] at h; exact cH hC hstp _ h hi hn hx hr
  | z r L => simp only [wpT] at h; exact cH hC hstp _ h (frzW_ok hi) hn hx hr
  | y r m L => simp only [wpT] at h; exact cH hC hstp _ h (weakO_ok hi) hn hx hr
  | _ => simp [wpT] at h

theorem POk.introQT {q : Nat} (hC : aF P C) {stp : St -> Oper -> Option (Prop × St)} (hstp : eD P C stp) {f : FuncId} {s : cX} {fn : Func} (hdef : FnDef P f) (hf : P.funcs[f]? = some fn)
  (hN : C.np = ⟨fn.ntmps, some 0, q, 0⟩) (hlen : Nat.ble (s.args.length + 1) fn.ntmps = true) (K : s.τ.den -> aN s.args -> KT) (h : funPT C stp s K fn) : POk P f s (some q) := by
 refine ⟨hdef, ?_⟩
 intro w F S0 b cs x vs y hq hb hF hS0 h1 h2 ha hpre
 have hq := hq q rfl
 subst hq
 unfold funPT at h
 split at h
 ·rename_i c hbd
  have hl := cO.len ha
  have hlen' : s.args.length + 1 <= fn.ntmps := Nat.le_of_ble_eq_true hlen
  have hst := aM.startP (P := P) (n := fn.ntmps) hb hF hS0 h1 h2 ha (by omega)
  rw [<- hN] at hst;refine calls_of_wp hf hbd ?_;have hend : ∀ st a w', retPP C s fn.results.toList (s.fn x y) (s.out x y) st -> Inv P C.np w F (fun k => S0 k ∨ k = b) st a w' -> bodyPost P fn (PPost F S0 w b s x y) .normal a w' := by
   intro st a w' hq hi;have hqq : C.np.q = b := by rw [hN]
   have := retPP_ok (N := C.np) hC (by rw [hN]) (x := x) (y := y) (S0 := S0) (by rw [hqq]) hq hi
   rwa [hqq] at this
  refine wpT_ok hC hstp c (h x y hpre h2.fact (factsK_ok ha)) ⟨F, _, by simpa using hst⟩ ?_ (fun _ _ _ _ h => h.elim) ?_
  ·intro st a w' hq hi
   exact hend st a w' hq hi
  ·intro st a w' hq hi
   exact hend st a w' hq hi
 ·cases h
theorem POk.introT {C : Nat -> Ctx} (hC : ∀ q, aF P (C q)) {stp : Nat -> St -> Oper -> Option (Prop × St)} (hstp : ∀ q, eD P (C q) (stp q)) {f : FuncId} {s : cX} {fn : Func} (hdef : FnDef P f) (hf : P.funcs[f]? = some fn)
  (hN : ∀ q, (C q).np = ⟨fn.ntmps, some 0, q, 0⟩) (hlen : Nat.ble (s.args.length + 1) fn.ntmps = true) (K : Nat -> s.τ.den -> aN s.args -> KT) (h : ∀ q, funPT (C q) (stp q) s (K q) fn) : POk P f s :=
 POk.all fun q => POk.introQT (hC q) (hstp q) hdef hf (hN q) hlen (K q) (h q)

theorem FOk.introT (hC : aF P C) {stp : St -> Oper -> Option (Prop × St)} (hstp : eD P C stp) {f : FuncId} {s : bG} {fn : Func} (hdef : FnDef P f) (hf : P.funcs[f]? = some fn) (hN : C.np = ⟨fn.ntmps, none, 0, s.glb⟩)
  (hlen : Nat.ble s.args.length fn.ntmps = true) (K : aN s.args -> KT) (h : funIT C stp s K fn) : FOk P f s := by
 refine ⟨hdef, ?_⟩
 intro w F vs xs hG hF ha hp
 unfold funIT at h
 split at h
 ·rename_i c hb
  have hl := cO.len ha
  have hlen' : s.args.length <= fn.ntmps := Nat.le_of_ble_eq_true hlen
  have hst := aM.start (P := P) (N := C.np) (by rw [hN]; exact hG) hF ha (by rw [hN]; show vs.length <= fn.ntmps; omega) (by rw [hN])
  refine calls_of_wp hf hb ?_
  rw [show C.np.n = fn.ntmps by rw [hN]] at hst
  refine wpT_ok hC hstp c (h xs hp (factsK_ok ha)) ⟨F, _, by simpa using hst⟩ ?_ (fun _ _ _ _ h => h.elim) ?_
  ·intro st a w' hq hi
   obtain ⟨v, h1, h2⟩ := retP_ok hC hq hi;obtain ⟨_, _, hi⟩ := hi;exact ⟨hi.defers, v, h1, h2⟩
  ·intro st a w' hq hi
   obtain ⟨v, h1, h2⟩ := retP_ok hC hq hi;obtain ⟨_, _, hi⟩ := hi;exact ⟨hi.defers, v, h1, h2⟩
 ·cases h
end
end Go.Lf
namespace Sp
def rg1 (b : Int) (s : Mk) : Mk := wT (insM s) b (tJ 1 (b + 1) 0)
def rgV (b last : Int) (s : Mk) : Int := b + 1 + Int.tmod (nxV s) (last - b)
def rg2 (b last : Int) (s : Mk) : Mk := if Int.tmod (nxV s) 2 = 0 then wT (nxM (nxM (nxM (nxM s)))) b (tB (eN (nxM s)) (rgV b last (nxM (nxM s))) (rgV b last (nxM (nxM (nxM s))))) else nxM s
def rgS (b last : Int) (s : Mk) : Mk := fH (rg2 b last (rg1 b s))
def rgN (last : Int) : Nat -> Mk -> Mk
 | 0, s => s
 | k + 1, s => rgN last k (rgS (last - ((k + 1 : Nat) : Int)) last s)
def rgM (s : Mk) (n : Int) : Mk := insM (rgN (nB s + n) n.toNat (fH s))
end Sp
namespace Go.User
open Go.Lf
def cutM (n : Nat) (x : Sp.Mk) (o : List (Nat × Ent)) : aW := { ι := Unit, inv := fun _ => True, dec := fun _ => 0, ovr := fun _ => (0, .box tMk mMk x) :: o, keep := [] }
def S47 : cX := { τ := tMk, m := mMk, args := [.val tI], pre := fun s y => Sp.aG 4000 s /\ 0 <= y.1 /\ y.1 <= 2, fn := fun s y => Sp.rgM s y.1, out := fun _ _ => () }
def C47 (q : Nat) : Ctx := mkM 77 q [] [(49, S49), (52, S52)]
def T47 (q : Nat) (x : S47.τ.den) (y : aN S47.args) : KT :=
 let last : Int := Sp.nB x + y.1
 .s (.i []) (.s (.i []) (.s (.i []) (.s (.s (.i []) (.b (.l
  {ι := Nat × Sp.Mk, inv := fun t => (t.1 : Int) <= y.1 /\ Sp.aG (4200 - 60 * t.1) t.2 /\ (Sp.bY t.2 : Int) = last - (t.1 : Int) + 1 /\ Sp.rgN last t.1 t.2 = Sp.rgN last y.1.toNat (Sp.fH x), dec := fun t => t.1, ovr := fun t => [(0, .box tMk mMk t.2), (5, .shr tI last), (6, .shr tI (last - (t.1 : Int)))], keep := [] }
  (fun t =>
   let b : Int := last - (t.1 : Int)
   let o : List (Nat × Ent) := [(5, .shr tI last), (6, .shr tI b)]
   .s (.i []) (.s (.b (.c (cutM 6 (Sp.insM t.2) o) (.i []) (fun _ => .c (cutM 7 (Sp.rg1 b t.2) o) (.i []) (fun _ => .c (cutM 8 (Sp.rg2 b last (Sp.rg1 b t.2)) o) (.i []) (fun _ => .i []))))) (.i [])))))) (.i []))))
end Go.User
namespace Go.User
open Go.Proofs Go.Lf
set_option maxRecDepth 100000
theorem vc47 : (∀ q : Nat, funPT (C47 q) (stpN nums14 (C47 q)) S47 (T47 q) Try.f47) = (
let q0 : Nat := (2 : Nat);
let q1 : Nat := (5000 : Nat);
let q2 : List Sp.Block := Sp.blk0 :: ([] : List Sp.Block);
let q3 : Int := (1 : Int);
let q4 : Prop := True /\ True /\ True;
let q5 : Prop := True /\ q4;
let q6 : Int := (0 : Int);
let q7 : Sp.Opd := (q6, q6, q6, ());
let q8 : List Int := List.replicate q0 q6;
let q9 : Sp.Block := (([] : List aL.den), (q6, q6, q7, q7, q7, q8, ()), ());
let q10 : Nat := (0 : Nat);
let q11 : Nat := (1 : Nat);
let q12 : Int := (2 : Int);
let q13 : Prop := q10 = q10;
let q14 : Prop := True /\ q13 /\ ([] : List Step) = ([] : List Step);
let q15 : List Step := Step.snd :: Step.fst :: ([] : List Step);
let q16 : List Step := Step.snd :: q15;
let q17 : Prop := True /\ q13 /\ q16 = q16;
let q18 : List Step := Step.snd :: Step.snd :: Step.fst :: Step.snd :: Step.snd :: Step.snd :: Step.snd :: Step.snd :: q16;
let q19 : Prop := True /\ q13 /\ q18 = q18;
let q20 : Prop := True /\ q5;
∀ (q : Nat) (x : Sp.Mk),
 let q21 : Int := (↑(Sp.cB x.2.2.1 ++ q2).length : Int) - q3;
 ∀ (y : Int × Unit),
 let q22 : Int := q21 + y.1;
 let q23 : Int := Sp.nB x + y.1;
 let q24 : Prop := aB tI q23;
 let q25 : Prop := q23 = q23;
 let q26 : Prop := True /\ q25;
 Sp.aG (4000 : Nat) x /\ (0 : (AK.val tI).den) <= y.1 /\ y.1 <= (2 : (AK.val tI).den) ->
 aB (tU8.slice.prod (tI.prod ((tI.prod (tI.prod (tI.prod (tI.prod (tI.prod (cG.slice.prod (bF.slice.prod ((aL.slice.prod ((tI.prod (tI.prod (aQ.prod (aQ.prod (aQ.prod ((Ty.arr q0 tI).prod Ty.unit)))))).prod Ty.unit)).slice.prod Ty.unit)))))))).prod Ty.unit))) x ->
 aB tI y.1 /\ True ->
 ((True /\ True) /\ Sp.aG q1 x /\ True) /\
 ((True /\ True /\ True /\ True /\ True /\ True /\ inK IntKind.i64 q21 /\ True /\ True) /\ True) /\
 ((True /\ True /\ inK IntKind.i64 q22 /\ True /\ True) /\ True) /\
 (q4 /\ True) /\
 (∃ (x_1 : Nat × Sp.Mk),
 let q27 : Int := (↑x_1.1 : Int);
 let q28 : Int := q23 - q27;
 (q27 <= y.1 /\ Sp.aG ((4200 : Nat) - (60 : Nat) * x_1.1) x_1.2 /\ (↑(Sp.bY x_1.2) : Int) = q28 + q3 /\ Sp.rgN q23 x_1.1 x_1.2 = Sp.rgN q23 y.1.toNat (Sp.fH x)) /\ Sp.fH x = x_1.2 /\ q22 = q23 /\ q21 = q28 /\ True) /\
 ∀ (x_1 : Nat × Sp.Mk),
 let q29 : Int := (↑x_1.1 : Int);
 let q30 : Int := q23 - q29;
 let q31 : Int := q30 + q3;
 let q32 : Prop := q24 /\ aB tI q30 /\ True;
 let q33 : Bool := decide (q30 < q23);
 let q34 : Prop := (True /\ True) /\ (Sp.aG (4500 : Nat) x_1.2 /\ Sp.has x_1.2) /\ True;
 let q35 : Prop := q30 = q30;
 let q36 : Prop := q25 /\ q35 /\ True;
 let q37 : Prop := inK IntKind.i64 q31;
 let q38 : Sp.Code × Unit := (Sp.insM x_1.2).2.2;
 let q39 : Sp.Code := q38.1;
 let q40 : Int × Int × Int × Int × List Sp.Arr × List Sp.Opd × List Sp.Block × Unit := q39.2;
 let q41 : Int × Int × Int × List Sp.Arr × List Sp.Opd × List Sp.Block × Unit := q40.2;
 let q42 : Int × Int × List Sp.Arr × List Sp.Opd × List Sp.Block × Unit := q41.2;
 let q43 : Int × List Sp.Arr × List Sp.Opd × List Sp.Block × Unit := q42.2;
 let q44 : List Sp.Arr × List Sp.Opd × List Sp.Block × Unit := q43.2;
 let q45 : List Sp.Opd × List Sp.Block × Unit := q44.2;
 let q46 : List Sp.Block × Unit := q45.2;
 let q47 : List Sp.Block := q46.1;
 let q48 : Int := (Sp.insM x_1.2).2.1;
 let q49 : Int := q39.1;
 let q50 : Int := q40.1;
 let q51 : Int := q41.1;
 let q52 : Int := q42.1;
 let q53 : Int := q43.1;
 let q54 : List Sp.Arr := q44.1;
 let q55 : List Sp.Opd := q45.1;
 let q56 : Nat := q30.toNat;
 let q57 : Sp.Block := q47.getD q56 q9;
 let q58 : Sp.Mk := Sp.rg1 q30 x_1.2;
 let q59 : Bool := (Sp.nxV q58).tmod q12 == q6;
 let q60 : Int := q23 - q30;
 let q61 : Prop := inK IntKind.i64 q60;
 let q62 : Prop := True /\ q35;
 let q63 : Prop := q37 /\ q31 = q31;
 let q64 : Prop := q61 /\ q60 = q60;
 let q65 : Prop := q62 /\ q63 /\ q14 /\ q26 /\ q62 /\ q64 /\ q62 /\ q63 /\ q14 /\ q26 /\ q62 /\ q64 /\ True;
 let q66 : Int := q48 + q3;
 let q67 : List Sp.Block := Sp.setT (Sp.cB q39) q30 (Sp.tJ q3 q31 q6);
 let q68 : Sp.Code × Unit := (Sp.fK q39 q67, ());
 let q69 : Sp.Mk := ((Sp.insM x_1.2).1, q66, q68);
 let q70 : Int := q66 + q3;
 let q71 : Sp.Mk := ((Sp.insM x_1.2).1, q70, q68);
 let q72 : Prop := q60 ≠ q6;
 let q73 : Int := (Sp.nxV q71).tmod q60;
 let q74 : Int := q31 + q73;
 let q75 : Prop := inK IntKind.i64 q74;
 let q76 : Prop := q72 /\ q73 = q73;
 let q77 : Prop := q75 /\ q74 = q74;
 let q78 : Int := q70 + q3;
 let q79 : Sp.Mk := ((Sp.insM x_1.2).1, q78, q68);
 let q80 : Int := (Sp.nxV q79).tmod q60;
 let q81 : Int := q31 + q80;
 let q82 : Prop := inK IntKind.i64 q81;
 let q83 : Prop := inN q30 q67.length;
 let q84 : List Step := Step.snd :: Step.snd :: Step.fst :: Step.snd :: Step.snd :: Step.snd :: Step.snd :: Step.snd :: Step.snd :: Step.snd :: Step.fst :: Step.idx q56 :: ([] : List Step);
 let q85 : List Step := Step.snd :: Step.snd :: Step.fst :: Step.snd :: Step.snd :: Step.snd :: Step.snd :: Step.snd :: Step.snd :: Step.snd :: Step.fst :: Step.idx q56 :: q15;
 let q86 : Sp.Block := q67.getD q56 q9;
 let q87 : Sp.Mk := Sp.rg2 q30 q23 q58;
 q29 <= y.1 /\ Sp.aG ((4200 : Nat) - (60 : Nat) * x_1.1) x_1.2 /\ (↑(Sp.bY x_1.2) : Int) = q31 /\ Sp.rgN q23 x_1.1 x_1.2 = Sp.rgN q23 y.1.toNat (Sp.fH x) ->
 aB (tU8.slice.prod (tI.prod ((tI.prod (tI.prod (tI.prod (tI.prod (tI.prod (cG.slice.prod (bF.slice.prod ((aL.slice.prod ((tI.prod (tI.prod (aQ.prod (aQ.prod (aQ.prod ((Ty.arr q0 tI).prod Ty.unit)))))).prod Ty.unit)).slice.prod Ty.unit)))))))).prod Ty.unit))) x_1.2 /\ q32 ->
 (q5 /\ True) /\
 (q33 = true ->
 (q34 /\ ∃ (x : Unit), True /\ Sp.insM x_1.2 = Sp.insM x_1.2 /\ q36) /\
 ∀ (x_2 : Unit),
 True ->
 aB (tU8.slice.prod (tI.prod ((tI.prod (tI.prod (tI.prod (tI.prod (tI.prod (cG.slice.prod (bF.slice.prod ((aL.slice.prod ((tI.prod (tI.prod (aQ.prod (aQ.prod (aQ.prod ((Ty.arr q0 tI).prod Ty.unit)))))).prod Ty.unit)).slice.prod Ty.unit)))))))).prod Ty.unit))) (Sp.insM x_1.2) /\ q32 ->
 (((True /\ True /\ True /\ True /\ True /\ True /\ True /\ q37 /\ True /\ True /\ inN q30 q47.length /\ True /\ True) /\ True /\ True) /\ ∃ (x : Unit), True /\ ((Sp.insM x_1.2).1, q48, (q49, q50, q51, q52, q53, q54, q55, q47.set q56 (q57.1, (q3, q6, q7, q7, q7, (q8.set q10 q31).set q11 q6, ()), q57.2.2), q46.2), q38.2) = q58 /\ q36) /\
 ∀ (x_3 : Unit),
 True ->
 aB (tU8.slice.prod (tI.prod ((tI.prod (tI.prod (tI.prod (tI.prod (tI.prod (cG.slice.prod (bF.slice.prod ((aL.slice.prod ((tI.prod (tI.prod (aQ.prod (aQ.prod (aQ.prod ((Ty.arr q0 tI).prod Ty.unit)))))).prod Ty.unit)).slice.prod Ty.unit)))))))).prod Ty.unit))) q58 /\ q32 ->
 (((True /\ True) /\ Sp.aG q1 q58 /\ q12 ≠ q6 /\ True /\ True) /\ (q59 = true -> (True /\ True /\ True /\ True /\ True /\ True /\ True /\ True /\ q37 /\ True /\ True /\ True /\ q61 /\ True /\ q37 /\ True /\ True /\ True /\ q61 /\ True) /\ (q14 /\ q14 /\ q17 /\ q19 /\ q19 /\ q62 /\ q14 /\ q65) /\ (Sp.aG q1 q69 /\ True /\ (q14 /\ q14 /\ q17 /\ q19 /\ q19 /\ q62 /\ q65) /\ (Sp.aG q1 q71 /\ (q72 /\ q75 /\ True) /\ (q14 /\ q14 /\ q17 /\ q19 /\ q19 /\ q62 /\ q62 /\ q63 /\ q26 /\ q62 /\ q64 /\ q62 /\ q63 /\ q14 /\ q26 /\ q62 /\ q64 /\ q76 /\ q77 /\ True) /\ (Sp.aG q1 q79 /\ (q72 /\ q82 /\ True) /\ (q14 /\ q14 /\ q17 /\ q19 /\ q19 /\ q62 /\ q62 /\ q63 /\ q26 /\ q62 /\ q64 /\ q62 /\ q63 /\ q26 /\ q62 /\ q64 /\ q76 /\ q77 /\ (q72 /\ q80 = q80) /\ (q82 /\ q81 = q81) /\ True) /\ (True /\ True /\ (q14 /\ q14 /\ q17 /\ q19 /\ q19 /\ q62 /\ True) /\ (True /\ (q83 /\ True /\ True) /\ (q14 /\ q14 /\ q17 /\ q19 /\ q19 /\ q62 /\ (q83 /\ q13 /\ q84 = q84) /\ (True /\ q13 /\ q85 = q85) /\ True) /\ (True /\ True /\ True /\ ∃ (x : Unit), True /\ ((Sp.insM x_1.2).1, q78 + q3, (q49, q50, q51, q52, q53, q54, q55, q67.set q56 (q86.1, (q12, q6, q7, Sp.eN q69, q7, (q8.set q10 q74).set q11 q81, ()), q86.2.2), ()), ()) = q87 /\ q36) /\ True) /\ True /\ True) /\ q4) /\ q5) /\ q20) /\ True /\ q20) /\ (q59 = false -> ∃ (x : Unit), True /\ q69 = q87 /\ q36)) /\
 ∀ (x_4 : Unit),
 True ->
 aB (tU8.slice.prod (tI.prod ((tI.prod (tI.prod (tI.prod (tI.prod (tI.prod (cG.slice.prod (bF.slice.prod ((aL.slice.prod ((tI.prod (tI.prod (aQ.prod (aQ.prod (aQ.prod ((Ty.arr q0 tI).prod Ty.unit)))))).prod Ty.unit)).slice.prod Ty.unit)))))))).prod Ty.unit))) q87 /\ q32 ->
 ((True /\ True) /\ Sp.aG q1 q87 /\ True) /\
 ((True /\ q37 /\ True /\ True) /\ True) /\
 ∃ (y_1 : Nat × Sp.Mk),
 let q88 : Int := (↑y_1.1 : Int);
 let q89 : Int := q23 - q88;
 (q88 <= y.1 /\ Sp.aG ((4200 : Nat) - (60 : Nat) * y_1.1) y_1.2 /\ (↑(Sp.bY y_1.2) : Int) = q89 + q3 /\ Sp.rgN q23 y_1.1 y_1.2 = Sp.rgN q23 y.1.toNat (Sp.fH x)) /\ y_1.1 < x_1.1 /\ Sp.fH q87 = y_1.2 /\ q25 /\ q31 = q89 /\ True) /\
 (q33 = false -> q34 /\ Sp.insM x_1.2 = Sp.rgM x y.1 /\ (([] : List Go.ResultVar)).toArray.toList = ([] : List Go.ResultVar) /\ Ty.unit = Ty.unit)) := by kernel_rfl
end Go.User
namespace Sp
theorem rg2_cases (P : Mk -> Prop) (b last : Int) (s : Mk) (h1 : P (wT (nxM (nxM (nxM (nxM s)))) b (tB (eN (nxM s)) (rgV b last (nxM (nxM s))) (rgV b last (nxM (nxM (nxM s))))))) (h2 : P (nxM s)) : P (rg2 b last s) := by
 unfold rg2
 split
 ·exact h1
 ·exact h2
theorem rg_facts {n : Nat} {s : Mk} (h : aG n s) (hb : ∀ v ∈ s.1, 0 <= v /\ v <= 255) (b last : Int) :
  aG (n + 50) (insM s) /\ aG (n + 50) (rg1 b s) /\ aG (n + 54) (rg2 b last (rg1 b s)) /\ aG (n + 55) (rgS b last s) := by
 have h1 := h.insM hb
 have h2 := h1.wT b (tJ 1 (b + 1) 0)
 have h3 : aG (n + 54) (rg2 b last (rg1 b s)) := by
  refine rg2_cases _ b last _ ?_ ?_
  ·exact (h2.nx.nx.nx.nx).wT _ _
  ·exact h2.nx.mono (by omega)
 exact ⟨h1, h2, h3, h3.bl⟩
theorem rg_len (b last : Int) (s : Mk) : bY (rg1 b s) = bY s /\ bY (rg2 b last (rg1 b s)) = bY s /\ bY (rgS b last s) = bY s + 1 := by
 have h1 : bY (rg1 b s) = bY s := (lenB_wT _ _ _).trans (lenB_ins s)
 have h2 : bY (rg2 b last (rg1 b s)) = bY s := by
  refine rg2_cases (fun t => bY t = bY s) b last _ ?_ ?_
  ·exact (lenB_wT _ _ _).trans h1
  ·exact h1
 exact ⟨h1, h2, (lenB_blk _).trans (congrArg (· + 1) h2)⟩
end Sp
namespace Go.User
open Go.Lf Go.Proofs
set_option maxHeartbeats 4000000 in
set_option maxRecDepth 100000 in
theorem pk47 : POk Try.prog 47 S47 := by
 have hC : ∀ q, aF Try.prog (C47 q) := fun q => okM' q aO (b9 pk49 (b9 pk52 eI)) rfl rfl rfl rfl rfl rfl
 refine POk.introT hC (fun q => stpN_ok (hC q) nums_ok) Try.call47 Try.func47 (fun q => rfl) (by kernel_rfl) T47 ?_
 rw [vc47]
 simp only [zz, zy]
 intro x y hM hx hy
 obtain ⟨hM, h0, h2⟩ := hM
 have hb := dM hx.1
 have hI : ∀ z : Int, -10 <= z -> z <= 100000 -> inK .i64 z := fun z _ _ => aS (by omega) (by omega)
 have hl : Sp.nB x <= 4000 := by have := hM.blk; show ((Sp.cB x.2.2.1).length : Int) <= 4000; omega
 have hl0 : 0 <= Sp.nB x := Int.natCast_nonneg _
 have e0 : (((Sp.cB x.2.2.1) ++ Sp.blk0 :: []).length : Int) - 1 = Sp.nB x := by
  rw [List.length_append];show (((Sp.cB x.2.2.1).length + 1 : Nat) : Int) - 1 = ((Sp.cB x.2.2.1).length : Int);omega
 have hlb : (Sp.bY (Sp.fH x) : Int) = Sp.nB x + 1 := by rw [Sp.lenB_blk]; rfl
 rw [e0]
 obtain ⟨yv, u⟩ := y
 have h0 : (0 : Int) <= yv := h0
 have h2 : yv <= (2 : Int) := h2
 dsimp only
 refine ⟨hM.mono (by decide), hI _ (by omega) (by omega), hI _ (by omega) (by omega), ⟨(yv.toNat, Sp.fH x), ⟨by show ((yv.toNat : Nat) : Int) <= yv; omega, hM.bl.mono (by dsimp only; omega), ?_, rfl⟩, rfl, rfl, ?_⟩, ?_⟩
 ·dsimp only; omega
 ·dsimp only; omega
 intro t
 obtain ⟨k, s⟩ := t
 dsimp only
 intro ht hd
 obtain ⟨g1, g2, g3, g4⟩ := ht
 have g1 : (k : Int) <= yv := g1
 have hbs := dM hd.1.1
 obtain ⟨m1, m2, m3, m4⟩ := Sp.rg_facts g2 hbs (Sp.nB x + yv - (k : Int)) (Sp.nB x + yv)
 obtain ⟨l1, l2, l3⟩ := Sp.rg_len (Sp.nB x + yv - (k : Int)) (Sp.nB x + yv) s
 have hh : Sp.has s := Sp.has_iff.2 (by omega)
 refine ⟨fun hlt => ?_, fun hge => ?_⟩
 ·have hk : 0 < k := by omega
  have hin : ∀ n : Nat, n = Sp.bY s -> inN (Sp.nB x + yv - (k : Int)) n := fun n hn => ⟨by omega, by omega⟩
  have a1 : inK .i64 (Sp.nB x + yv - (k : Int) + 1) := hI _ (by omega) (by omega)
  have a2 : inK .i64 (Sp.nB x + yv - (Sp.nB x + yv - (k : Int))) := hI _ (by omega) (by omega)
  have a3 : ¬Sp.nB x + yv - (Sp.nB x + yv - (k : Int)) = 0 := by omega
  have a4 : ∀ v : Int, 0 <= v -> inK .i64 (Sp.nB x + yv - (k : Int) + 1 + v.tmod (Sp.nB x + yv - (Sp.nB x + yv - (k : Int)))) := by
   intro v hv;have e : Sp.nB x + yv - (Sp.nB x + yv - (k : Int)) = (k : Int) := by omega
   rw [e];have := Sp.eO hv (k := (k : Int)) (by omega);exact hI _ (by omega) (by omega)
  refine ⟨⟨⟨g2.mono (by omega), hh⟩, (), trivial⟩, fun hq => ?_⟩
  have hbi : ∀ v ∈ (Sp.insM s).1, 0 <= v /\ v <= 255 := dM hq.1.1
  have b0 : Sp.aG 5000 (Sp.rg1 (Sp.nB x + yv - (k : Int)) s) := m2.mono (by omega)
  have b1 : Sp.aG 5000 (Sp.nxM (Sp.rg1 (Sp.nB x + yv - (k : Int)) s)) := m2.nx.mono (by omega)
  have b2 : Sp.aG 5000 (Sp.nxM (Sp.nxM (Sp.rg1 (Sp.nB x + yv - (k : Int)) s))) := m2.nx.nx.mono (by omega)
  have b3 : Sp.aG 5000 (Sp.nxM (Sp.nxM (Sp.nxM (Sp.rg1 (Sp.nB x + yv - (k : Int)) s)))) := m2.nx.nx.nx.mono (by omega)
  have v2 := (Sp.fM (Sp.nxM (Sp.nxM (Sp.rg1 (Sp.nB x + yv - (k : Int)) s))) hbi).1
  have v3 := (Sp.fM (Sp.nxM (Sp.nxM (Sp.nxM (Sp.rg1 (Sp.nB x + yv - (k : Int)) s)))) hbi).1
  have i1 : inN (Sp.nB x + yv - (k : Int)) (Sp.bY (Sp.rg1 (Sp.nB x + yv - (k : Int)) s)) := hin _ l1
  refine ⟨⟨⟨a1, hin _ (Sp.lenB_ins s)⟩, (), rfl⟩, fun _ => ⟨⟨⟨b0, by decide⟩, fun c => ?_, fun c => ?_⟩, fun _ => ?_⟩⟩
  ·have E : ∀ A, A = Sp.wT (Sp.nxM (Sp.nxM (Sp.nxM (Sp.nxM (Sp.rg1 (Sp.nB x + yv - (k : Int)) s))))) (Sp.nB x + yv - (k : Int)) (Sp.tB (Sp.eN (Sp.nxM (Sp.rg1 (Sp.nB x + yv - (k : Int)) s))) (Sp.rgV (Sp.nB x + yv - (k : Int)) (Sp.nB x + yv) (Sp.nxM (Sp.nxM (Sp.rg1 (Sp.nB x + yv - (k : Int)) s)))) (Sp.rgV (Sp.nB x + yv - (k : Int)) (Sp.nB x + yv) (Sp.nxM (Sp.nxM (Sp.nxM (Sp.rg1 (Sp.nB x + yv - (k : Int)) s)))))) -> A = Sp.rg2 (Sp.nB x + yv - (k : Int)) (Sp.nB x + yv) (Sp.rg1 (Sp.nB x + yv - (k : Int)) s) := by
    rintro A rfl
    unfold Sp.rg2;rw [if_pos c]
   refine ⟨⟨a1, a2, a1, a2⟩, ⟨a1, a2, a1, a2⟩, b1, ⟨a1, a2, a1, a2⟩, b2, ⟨a3, a4 _ v2⟩, ⟨a1, a2, a1, a2, a3, a4 _ v2⟩, b3, ⟨a3, a4 _ v3⟩, ⟨a1, a2, a1, a2, a3, a4 _ v2, a3, a4 _ v3⟩, i1, i1, (), E _ rfl⟩
  ·refine ⟨(), ?_⟩
   show _ = Sp.rg2 _ _ _
   unfold Sp.rg2;rw [if_neg c]
   rfl
  ·refine ⟨m3.mono (by omega), a1, (k - 1, Sp.rgS (Sp.nB x + yv - (k : Int)) (Sp.nB x + yv) s), ⟨by show ((k - 1 : Nat) : Int) <= yv; omega, m4.mono (by dsimp only; omega), ?_, ?_⟩, by dsimp only; omega, rfl, by dsimp only; omega⟩
   ·dsimp only; omega
   ·rw [<- g4]
    obtain ⟨j, rfl⟩ : ∃ j, k = j + 1 := ⟨k - 1, by omega⟩
    rfl
 ·refine ⟨⟨g2.mono (by omega), hh⟩, ?_⟩
  have hk : k = 0 := by omega
  subst hk;show Sp.insM s = Sp.insM _;rw [<- g4]
  rfl
end Go.User
namespace Go.User
open Go Go.Proofs Go.RowKit Go.Lib Go.Lf
def N45o : NSpec := { τ := tMk, m := mMk, T := 3, p := [.snd, .fst], res := tI, pre := fun s => 0 <= s.2.1 /\ s.2.1 <= 5000, num := fun s => s.2.1 + 1, out := fun s => Sp.nxV s }
theorem nk45o : NOk Try.prog 45 N45o := by
 refine ⟨Try.call45, ?_⟩
 intro w F S0 b off cs x hb hF hS0 hp hown hpre hloc
 obtain ⟨hoff, nF, hlim, ao, cap, row, T, hrow, r0, r1, hel⟩ := mk_cells hp hown hloc
 subst hoff
 have hbs := dM (hown.fact).1
 have h0 : 0 <= x.2.1 := hpre.1
 have h1 : x.2.1 <= 5000 := hpre.2
 obtain ⟨L, at0, C, u⟩ := x
 have hk : ∀ z : Int, 0 <= z -> z <= 5000 -> inK .i64 (z + 1) := fun z _ _ => aS (by omega) (by omega)
 refine ⟨hk at0 h0 h1, (nx_calls w F b cap ao row T L at0 h0 h1 hlim nF hrow r0 r1 hbs hel C).mono ?_⟩
 rintro e w' ⟨rfl, k, rfl⟩
 refine ⟨_, _, store_int hrow r1, ⟨rfl, rfl, rfl, Nat.le_refl _, fun _ _ => rfl⟩, rfl, [_], rfl, rfl, ?_⟩
 have := Sp.fM (L, at0, C, ()) hbs
 have b1 : (-9223372036854775808 : Int) <= Sp.nxV (L, at0, C, ()) := by omega
 have b2 : Sp.nxV (L, at0, C, ()) <= 9223372036854775807 := by omega
 exact ⟨b1, b2⟩
def numsO : List (FuncId × NSpec) := [(45, N45o), (50, N50), (51, N51)]
theorem numsO_ok : ∀ f s, Lf.look numsO f = some s -> NOk Try.prog f s := by
 intro f s hs
 unfold numsO at hs
 simp only [Lf.look] at hs
 cases h1 : Nat.beq 45 f
 ·rw [h1] at hs
  simp only [cond_false] at hs;cases h2 : Nat.beq 50 f
  ·rw [h2] at hs
   simp only [cond_false] at hs;cases h3 : Nat.beq 51 f
   ·rw [h3] at hs; cases hs
   ·rw [h3] at hs
    have := Nat.eq_of_beq_eq_true h3
    simp only [cond_true, Option.some.injEq] at hs;rw [<- this, <- hs]; exact nk51
  ·rw [h2] at hs
   have := Nat.eq_of_beq_eq_true h2
   simp only [cond_true, Option.some.injEq] at hs;rw [<- this, <- hs]; exact nk50
 ·rw [h1] at hs
  have := Nat.eq_of_beq_eq_true h1
  simp only [cond_true, Option.some.injEq] at hs;rw [<- this, <- hs]; exact nk45o
end Go.User
namespace Sp
def code0 : Code := (0, 0, 0, 0, 0, [], [], [], ())
def md0 (L : List Int) : Mk := (L, 0, code0, ())
def md1 (L : List Int) : Mk := (L, 1, ([4, 1, 2, 8, 6].getD (Int.tmod (nxV (md0 L)) 5).toNat 0, 1, 6, 0, 3, arrs, [], [], ()), ())
def gG (s : Mk) : Int := s.2.2.1.1
def gS (s : Mk) : Int := s.2.2.1.2.1
def wS (s : Mk) (n : Int) : Mk := (s.1, s.2.1, (s.2.2.1.1, n, s.2.2.1.2.2), ())
def sbN : Nat -> Mk -> Mk
 | 0, s => s
 | k + 1, s => if Int.tmod (gG s) (2 * gS s) = 0 then sbN k (wS s (2 * gS s)) else s
def md2 (L : List Int) : Mk := sbN (Int.tmod (nxV (md1 L)) 3).toNat (nxM (md1 L))
def q1 (s : Mk) : Mk := rgM (nxM s) (Int.tmod (nxV s) 3)
def q2 (s : Mk) : Mk := if Int.tmod (nxV s) 3 = 0 then fH (lpM (nxM s)) else nxM s
def q3 (s : Mk) : Mk := wT s (nB s - 1) (tJ 3 (nB s - 1 + 1) 0)
def tC (s : Mk) (b : Int) : Term := (4, 1 + Int.tmod (nxV s) 6, eN (nxM s), eY (nxM (nxM s)), eY (nxM (nxM (nxM s))), [b + 1, 0], ())
def q4 (b : Int) (s : Mk) : Mk := if Int.tmod (nxV s) 3 = 0 then wT (nxM (nxM (nxM (nxM (nxM s))))) b (tC (nxM s) b) else nxM s
def mdS (s : Mk) : Mk := q4 (nB (q2 (q1 s)) - 1) (q3 (q2 (q1 s)))
def mdN : Nat -> Mk -> Mk
 | 0, s => s
 | k + 1, s => mdN k (mdS s)
def md3 (L : List Int) : Mk := mdN (Int.tmod (nxV (md2 L)) 3).toNat (nxM (md2 L))
def q5 (s : Mk) : Mk := if Int.tmod (nxV s) 3 = 0 then insM (fH (lpM (nxM s))) else nxM s
def md4 (L : List Int) : Mk := q5 (q1 (md3 L))
def md5 (L : List Int) : Mk := wT (md4 L) (nB (md4 L) - 1) (tJ 5 0 0)
def bQ (L : List Int) : Code := (md5 L).2.2.1
end Sp
namespace Go.User
open Go.Lf
def S21 : bG := { args := [.val (.prod (.slice (.int .u8)) .unit)], multi := false, res := bT, mode := .shr, pre := fun _ => True, fn := fun x => Sp.bQ x.1.1 }
def C21 : Ctx := { mkC 153 [(46, S46)] with ptrs := [(47, S47), (48, S48), (49, S49), (50, S50), (51, S51), (52, S52)], fzs := [10], mds := [(2, .shr), (9, .pair (.shr) (.pair .shr (.pair mCode .shr))), (10, mMk), (19, mCode)] }
def cut21 (s : Sp.Mk) (o : List (Nat × Ent)) : aW := { ι := Unit, inv := fun _ => True, dec := fun _ => 0, ovr := fun _ => (2, .box bT .shr Sp.code0) :: (3, .addr 10 []) :: (10, .box tMk mMk s) :: o, keep := [] }
def T21 (x : aN S21.args) : KT :=
 let L := x.1.1
 .s (.i []) (.s (.i []) (.c (cut21 (Sp.md1 L) []) (.i []) (fun _ =>
  .c (cut21 (Sp.md2 L) []) (.s (.i []) (.b (.l
   {ι := Nat × Sp.Mk, inv := fun t => t.1 <= 2 /\ Sp.aG 2 t.2 /\ 1 <= Sp.gS t.2 /\ Sp.gS t.2 <= 4 /\ (1 <= t.1 -> Sp.gS t.2 <= 2) /\ (2 <= t.1 -> Sp.gS t.2 <= 1) /\ Sp.sbN t.1 t.2 = Sp.md2 L, dec := fun t => t.1, ovr := fun t => [(2, .box bT .shr Sp.code0), (3, .addr 10 []), (10, .box tMk mMk t.2), (4, .shr tI (t.1 : Int))], keep := [] }
   (fun t => .i [])))) (fun _ =>
  .c (cut21 (Sp.md3 L) []) (.s (.i []) (.b (.l
   {ι := Nat × Sp.Mk, inv := fun t => t.1 <= 2 /\ Sp.aG (700 - 310 * t.1) t.2 /\ Sp.mdN t.1 t.2 = Sp.md3 L, dec := fun t => t.1, ovr := fun t => [(2, .box bT .shr Sp.code0), (3, .addr 10 []), (10, .box tMk mMk t.2), (5, .shr tI (t.1 : Int))], keep := [] }
   (fun t =>
    let b : Int := Sp.nB (Sp.q2 (Sp.q1 t.2)) - 1
    let i : Nat × Ent := (5, .shr tI (t.1 : Int))
    let o : List (Nat × Ent) := [i, (6, .shr tI b)]
    .s (.i []) (.c (cut21 (Sp.mdS t.2) [i]) (.b (.c (cut21 (Sp.q1 t.2) [i]) (.i []) (fun _ => .c (cut21 (Sp.q2 (Sp.q1 t.2)) [i]) (.i []) (fun _ => .c (cut21 (Sp.q2 (Sp.q1 t.2)) o) (.i []) (fun _ => .c (cut21 (Sp.q3 (Sp.q2 (Sp.q1 t.2))) o) (.i []) (fun _ => .i [])))))) (fun _ => .i [])))))) (fun _ =>
  .c (cut21 (Sp.q1 (Sp.md3 L)) []) (.i []) (fun _ => .c (cut21 (Sp.md4 L) []) (.i []) (fun _ => .c (cut21 (Sp.md5 L) []) (.i []) (fun _ => .z 10 []))))))))
end Go.User
namespace Go.User
open Go.Proofs Go.Lf
set_option maxRecDepth 100000
theorem vc21 : (funIT C21 (stpN numsO C21) S21 T21 Try.f21) = (
let q0 : Prop := True /\ True /\ True;
let q1 : Prop := q0 /\ True;
let q2 : Prop := True /\ q0;
let q3 : Prop := True /\ q2;
let q4 : Prop := True /\ q3;
let q5 : Nat := (10 : Nat);
let q6 : Prop := q5 = q5;
let q7 : Prop := ([] : List Step) = ([] : List Step);
let q8 : Prop := True /\ q6 /\ q7;
let q9 : Prop := q8 /\ q8 /\ True;
let q10 : Int := (0 : tI.den);
let q11 : Int := (0 : Int);
let q12 : Int := (5000 : tI.den);
let q13 : Prop := q10 <= q11 /\ q11 <= q12;
let q14 : Int := (5 : Int);
let q15 : Prop := q14 ≠ q11;
let q16 : List Sp.Opd × List Sp.Block × Unit := (([] : List bF.den), ([] : List fY.den), ());
let q17 : Sp.Code := (q11, q11, q11, q11, q11, ([] : List cG.den), q16);
let q18 : Int × Sp.Code × Unit := (q11, q17, ());
let q19 : Int := (4 : Int);
let q20 : Int := (1 : Int);
let q21 : Int := (2 : Int);
let q22 : Int := (8 : Int);
let q23 : Int := (6 : Int);
let q24 : List Int := q19 :: q20 :: q21 :: q22 :: q23 :: ([] : List tI.den);
let q25 : Nat := (12 : Nat);
let q26 : List Step := Step.snd :: Step.fst :: ([] : List Step);
let q27 : List Step := Step.snd :: q26;
let q28 : Prop := True /\ q6 /\ q27 = q27;
let q29 : Int := (3 : Int);
let q30 : Nat := (2 : Nat);
let q31 : Prop := aB (tI.prod (tI.prod (tI.prod (tI.prod (tI.prod (cG.slice.prod (bF.slice.prod ((aL.slice.prod ((tI.prod (tI.prod (aQ.prod (aQ.prod (aQ.prod ((Ty.arr q30 tI).prod Ty.unit)))))).prod Ty.unit)).slice.prod Ty.unit)))))))) Sp.code0;
let q32 : Prop := q29 ≠ q11;
let q33 : Prop := q32 /\ True /\ True;
let q34 : Nat := (1 : Nat);
let q35 : Prop := Sp.code0 = Sp.code0;
let q36 : Nat := (4000 : Nat);
let q37 : Int := (0 : (AK.val tI).den);
let q38 : Int := (2 : (AK.val tI).den);
let q39 : Nat := (5000 : Nat);
let q40 : Sp.Opd := (q11, q11, q11, ());
let q41 : List Int := List.replicate q30 q11;
let q42 : Int × Sp.Opd × Sp.Opd × Sp.Opd × List Int × Unit := (q11, q40, q40, q40, q41, ());
let q43 : Sp.Block := (([] : List aL.den), (q11, q42), ());
let q44 : Nat := (0 : Nat);
let q45 : List Step := Step.snd :: Step.snd :: Step.fst :: Step.snd :: Step.snd :: Step.snd :: Step.snd :: Step.snd :: q27;
let q46 : Prop := True /\ q6 /\ q45 = q45;
let q47 : Prop := q23 ≠ q11;
∀ (x : (List Int × Unit) × Unit),
 let q48 : Int := (Sp.nxV (x.1.1, q18)).tmod q14;
 let q49 : Prop := inN q48 q24.length;
 let q50 : Prop := q49 /\ True /\ True;
 let q51 : Prop := q15 /\ q48 = q48;
 let q52 : Nat := q48.toNat;
 let q53 : List Step := Step.idx q52 :: ([] : List Step);
 let q54 : Int := q24.getD q52 q11;
 let q55 : Prop := q8 /\ q51 /\ (q49 /\ q25 = q25 /\ q53 = q53) /\ (True /\ q54 = q54) /\ True;
 let q56 : Prop := q55 /\ (True /\ q0 /\ (q8 /\ q8 /\ q28 /\ True) /\ (True /\ True /\ True /\ ∃ (x_1 : Unit), True /\ q17 = Sp.code0 /\ q7 /\ (x.1.1, q11 + q20, (q54, q20, q23, q11, q29, Sp.arrs, q16), ()) = Sp.md1 x.1.1 /\ True) /\ True) /\ True /\ True;
 let q57 : Prop := q55 /\ (True /\ True /\ q56) /\ q0;
 let q58 : Prop := q8 /\ q51 /\ True;
 let q59 : Int × Sp.Code × Unit := (Sp.md2 x.1.1).2;
 let q60 : Int := q59.1;
 let q61 : Int × Sp.Code × Unit := (Sp.md3 x.1.1).2;
 let q62 : Int := q61.1;
 let q63 : Sp.Mk := ((Sp.md3 x.1.1).1, q62 + q20, q61.2);
 let q64 : Int := (Sp.nxV (Sp.md3 x.1.1)).tmod q29;
 let q65 : Sp.Mk := Sp.q1 (Sp.md3 x.1.1);
 let q66 : Int × Sp.Code × Unit := q65.2;
 let q67 : Int := q66.1;
 let q68 : Bool := (Sp.nxV q65).tmod q29 == q11;
 let q69 : Sp.Mk := (q65.1, q67 + q20, q66.2);
 let q70 : Sp.Mk := Sp.lpM q69;
 let q71 : Sp.Mk := Sp.fH q70;
 let q72 : Int × Sp.Code × Unit := (Sp.md4 x.1.1).2;
 let q73 : Sp.Code × Unit := q72.2;
 let q74 : Sp.Code := q73.1;
 let q75 : Int × Int × Int × Int × List Sp.Arr × List Sp.Opd × List Sp.Block × Unit := q74.2;
 let q76 : Int × Int × Int × List Sp.Arr × List Sp.Opd × List Sp.Block × Unit := q75.2;
 let q77 : Int × Int × List Sp.Arr × List Sp.Opd × List Sp.Block × Unit := q76.2;
 let q78 : Int × List Sp.Arr × List Sp.Opd × List Sp.Block × Unit := q77.2;
 let q79 : List Sp.Arr × List Sp.Opd × List Sp.Block × Unit := q78.2;
 let q80 : List Sp.Opd × List Sp.Block × Unit := q79.2;
 let q81 : List Sp.Block × Unit := q80.2;
 let q82 : List Sp.Block := q81.1;
 let q83 : Nat := q82.length;
 let q84 : Int := (↑q83 : Int) - q20;
 let q85 : Nat := q84.toNat;
 let q86 : Sp.Block := q82.getD q85 q43;
 True ->
 aB (tU8.slice.prod Ty.unit) x.1 /\ True ->
 q1 /\
 (q4 /\ True) /\
 (q0 /\ q9 /\ (True /\ True /\ q9 /\ (q13 /\ (q15 /\ q50) /\ q57) /\ q2) /\ (q13 /\ (q15 /\ True) /\ q58 /\ (True /\ q50 /\ q57) /\ (True /\ True /\ q58 /\ (True /\ q50 /\ q56) /\ q0) /\ q0) /\ q2) /\
 ∀ (x_1 : Unit),
 True ->
 q31 /\ True /\ aB (tU8.slice.prod (tI.prod ((tI.prod (tI.prod (tI.prod (tI.prod (tI.prod (cG.slice.prod (bF.slice.prod ((aL.slice.prod ((tI.prod (tI.prod (aQ.prod (aQ.prod (aQ.prod ((Ty.arr q30 tI).prod Ty.unit)))))).prod Ty.unit)).slice.prod Ty.unit)))))))).prod Ty.unit))) (Sp.md1 x.1.1) /\ True ->
 (((True /\ True) /\ (q10 <= q20 /\ q20 <= q12) /\ q33) /\
 (∃ (x_2 : Nat × Sp.Mk), (x_2.1 <= q30 /\ Sp.aG q30 x_2.2 /\ q20 <= Sp.gS x_2.2 /\ Sp.gS x_2.2 <= q19 /\ (q34 <= x_2.1 -> Sp.gS x_2.2 <= q21) /\ (q30 <= x_2.1 -> Sp.gS x_2.2 <= q20) /\ Sp.sbN x_2.1 x_2.2 = Sp.md2 x.1.1) /\ q35 /\ q7 /\ (x.1.1, q20 + q20, ((q19 :: q20 :: q21 :: q22 :: q23 :: ([] : List Int)).getD ((Sp.nxV (Sp.md0 x.1.1)).tmod (5 : Int)).toNat q11, q20, q23, q11, q29, Sp.arrs, ([] : List Sp.Loop), ([] : List Sp.Block), ()), ()) = x_2.2 /\ (Sp.nxV (Sp.md1 x.1.1)).tmod q29 = (↑x_2.1 : Int) /\ True) /\
 ∀ (x_2 : Nat × Sp.Mk),
 let q87 : Int := (↑x_2.1 : Int);
 let q88 : Bool := decide (q87 > q11);
 let q89 : Prop := (true && bif q88 then true else false) = true;
 let q90 : Prop := q89 -> True;
 let q91 : Int × Int × Int × Int × List Sp.Arr × List Sp.Opd × List Sp.Block × Unit := x_2.2.2.2.1.2;
 let q92 : Int := q21 * q91.1;
 let q93 : Prop := inK IntKind.i64 q92;
 let q94 : Int := x_2.2.2.2.1.1;
 let q95 : Bool := bif q88 then q94.tmod q92 == q11 else false;
 let q96 : Int := q87 - q20;
 x_2.1 <= q30 /\ Sp.aG q30 x_2.2 /\ q20 <= Sp.gS x_2.2 /\ Sp.gS x_2.2 <= q19 /\ (q34 <= x_2.1 -> Sp.gS x_2.2 <= q21) /\ (q30 <= x_2.1 -> Sp.gS x_2.2 <= q20) /\ Sp.sbN x_2.1 x_2.2 = Sp.md2 x.1.1 -> q31 /\ True /\ aB (tU8.slice.prod (tI.prod ((tI.prod (tI.prod (tI.prod (tI.prod (tI.prod (cG.slice.prod (bF.slice.prod ((aL.slice.prod ((tI.prod (tI.prod (aQ.prod (aQ.prod (aQ.prod ((Ty.arr q30 tI).prod Ty.unit)))))).prod Ty.unit)).slice.prod Ty.unit)))))))).prod Ty.unit))) x_2.2 /\ aB tI q87 /\ True -> ((True /\ True /\ True /\ q90 /\ q90 /\ q90 /\ q90 /\ q90 /\ q90 /\ q90 /\ q90 /\ q90 /\ q90 /\ (q89 -> q93) /\ (q89 -> q92 ≠ q11) /\ q90 /\ True /\ True) /\ True) /\ (q95 = true -> ((True /\ True /\ True /\ True /\ True /\ True /\ q93 /\ q2) /\ True /\ True) /\ ((True /\ inK IntKind.i64 q96 /\ True /\ True) /\ True) /\ ∃ (y : Nat × Sp.Mk), (y.1 <= q30 /\ Sp.aG q30 y.2 /\ q20 <= Sp.gS y.2 /\ Sp.gS y.2 <= q19 /\ (q34 <= y.1 -> Sp.gS y.2 <= q21) /\ (q30 <= y.1 -> Sp.gS y.2 <= q20) /\ Sp.sbN y.1 y.2 = Sp.md2 x.1.1) /\ y.1 < x_2.1 /\ q35 /\ q7 /\ (x_2.2.1, x_2.2.2.1, (q94, q92, q91.2), x_2.2.2.2.2) = y.2 /\ q96 = (↑y.1 : Int) /\ True) /\ (q95 = false -> ∃ (x_3 : Unit), True /\ q35 /\ q7 /\ x_2.2 = Sp.md2 x.1.1 /\ True)) /\
 ∀ (x_2 : Unit),
 True ->
 q31 /\ True /\ aB (tU8.slice.prod (tI.prod ((tI.prod (tI.prod (tI.prod (tI.prod (tI.prod (cG.slice.prod (bF.slice.prod ((aL.slice.prod ((tI.prod (tI.prod (aQ.prod (aQ.prod (aQ.prod ((Ty.arr q30 tI).prod Ty.unit)))))).prod Ty.unit)).slice.prod Ty.unit)))))))).prod Ty.unit))) (Sp.md2 x.1.1) /\ True ->
 (((True /\ True) /\ (q10 <= q60 /\ q60 <= q12) /\ q33) /\
 (∃ (x_3 : Nat × Sp.Mk), (x_3.1 <= q30 /\ Sp.aG ((700 : Nat) - (310 : Nat) * x_3.1) x_3.2 /\ Sp.mdN x_3.1 x_3.2 = Sp.md3 x.1.1) /\ q35 /\ q7 /\ ((Sp.md2 x.1.1).1, q60 + q20, q59.2) = x_3.2 /\ (Sp.nxV (Sp.md2 x.1.1)).tmod q29 = (↑x_3.1 : Int) /\ True) /\
 ∀ (x_3 : Nat × Sp.Mk),
 let q97 : Int := (↑x_3.1 : Int);
 let q98 : Prop := aB tI q97;
 let q99 : Prop := q98 /\ True;
 let q100 : Bool := decide (q97 > q11);
 let q101 : Sp.Mk := (x_3.2.1, x_3.2.2.1 + q20, x_3.2.2.2);
 let q102 : Int := (Sp.nxV x_3.2).tmod q29;
 let q103 : Prop := q97 = q97;
 let q104 : Prop := q103 /\ True;
 let q105 : Int := (Sp.q1 x_3.2).2.1;
 let q106 : Bool := (Sp.nxV (Sp.q1 x_3.2)).tmod q29 == q11;
 let q107 : Sp.Mk := ((Sp.q1 x_3.2).1, q105 + q20, (Sp.q1 x_3.2).2.2);
 let q108 : Sp.Mk := Sp.lpM q107;
 let q109 : Sp.Mk := Sp.q2 (Sp.q1 x_3.2);
 let q110 : Prop := aB (tU8.slice.prod (tI.prod ((tI.prod (tI.prod (tI.prod (tI.prod (tI.prod (cG.slice.prod (bF.slice.prod ((aL.slice.prod ((tI.prod (tI.prod (aQ.prod (aQ.prod (aQ.prod ((Ty.arr q30 tI).prod Ty.unit)))))).prod Ty.unit)).slice.prod Ty.unit)))))))).prod Ty.unit))) q109;
 let q111 : Int × Sp.Code × Unit := q109.2;
 let q112 : Sp.Code × Unit := q111.2;
 let q113 : Sp.Code := q112.1;
 let q114 : Int × Int × Int × Int × List Sp.Arr × List Sp.Opd × List Sp.Block × Unit := q113.2;
 let q115 : Int × Int × Int × List Sp.Arr × List Sp.Opd × List Sp.Block × Unit := q114.2;
 let q116 : Int × Int × List Sp.Arr × List Sp.Opd × List Sp.Block × Unit := q115.2;
 let q117 : Int × List Sp.Arr × List Sp.Opd × List Sp.Block × Unit := q116.2;
 let q118 : List Sp.Arr × List Sp.Opd × List Sp.Block × Unit := q117.2;
 let q119 : List Sp.Opd × List Sp.Block × Unit := q118.2;
 let q120 : List Sp.Block × Unit := q119.2;
 let q121 : List Sp.Block := q120.1;
 let q122 : Nat := q121.length;
 let q123 : Int := (↑q122 : Int) - q20;
 let q124 : Int := Sp.nB q109 - q20;
 let q125 : Prop := q98 /\ aB tI q124 /\ True;
 let q126 : Int := q124 + q20;
 let q127 : Prop := inK IntKind.i64 q126;
 let q128 : List Int := q109.1;
 let q129 : Int := q111.1;
 let q130 : Int := q113.1;
 let q131 : Int := q114.1;
 let q132 : Int := q115.1;
 let q133 : Int := q116.1;
 let q134 : Int := q117.1;
 let q135 : List Sp.Arr := q118.1;
 let q136 : List Sp.Opd := q119.1;
 let q137 : Nat := q124.toNat;
 let q138 : Sp.Block := q121.getD q137 q43;
 let q139 : List Int × Unit := ((q41.set q44 q126).set q34 q11, ());
 let q140 : Sp.Mk := Sp.q3 q109;
 let q141 : Prop := q124 = q124;
 let q142 : Bool := (Sp.nxV q140).tmod q29 == q11;
 let q143 : Prop := True /\ q141;
 let q144 : Prop := q127 /\ q126 = q126;
 let q145 : Int := q129 + q20;
 let q146 : Prop := q10 <= q145 /\ q145 <= q12;
 let q147 : List Sp.Block := Sp.setT (Sp.cB q113) q124 (Sp.tJ q29 q126 q11);
 let q148 : Sp.Code × Unit := (Sp.fK q113 q147, ());
 let q149 : Sp.Mk := (q128, q145, q148);
 let q150 : Int := (Sp.nxV q149).tmod q23;
 let q151 : Int := q20 + q150;
 let q152 : Prop := inK IntKind.i64 q151;
 let q153 : Prop := q47 /\ q152 /\ True;
 let q154 : Prop := (q47 /\ q150 = q150) /\ (q152 /\ q151 = q151) /\ True;
 let q155 : Prop := q143 /\ q144 /\ q154;
 let q156 : Prop := q8 /\ q155;
 let q157 : Prop := q8 /\ q156;
 let q158 : Int := q145 + q20;
 let q159 : Sp.Mk := (q128, q158, q148);
 let q160 : Prop := Sp.aG q39 q159;
 let q161 : Int := q158 + q20;
 let q162 : Sp.Mk := (q128, q161, q148);
 let q163 : Prop := Sp.aG q39 q162;
 let q164 : Int := q161 + q20;
 let q165 : Sp.Mk := (q128, q164, q148);
 let q166 : Prop := Sp.aG q39 q165;
 let q167 : Prop := inN q124 q147.length;
 let q168 : List Step := Step.snd :: Step.snd :: Step.fst :: Step.snd :: Step.snd :: Step.snd :: Step.snd :: Step.snd :: Step.snd :: Step.snd :: Step.fst :: Step.idx q137 :: ([] : List Step);
 let q169 : List Step := Step.snd :: Step.snd :: Step.fst :: Step.snd :: Step.snd :: Step.snd :: Step.snd :: Step.snd :: Step.snd :: Step.snd :: Step.fst :: Step.idx q137 :: q26;
 let q170 : Sp.Block := q147.getD q137 q43;
 let q171 : Prop := True /\ (q8 /\ q8 /\ q28 /\ q46 /\ q46 /\ q143 /\ q154) /\ (True /\ (q167 /\ True /\ True) /\ (q8 /\ q8 /\ q28 /\ q46 /\ q46 /\ q143 /\ (q167 /\ q6 /\ q168 = q168) /\ (True /\ q6 /\ q169 = q169) /\ True) /\ (True /\ True /\ True /\ ∃ (x : Unit), True /\ q35 /\ q7 /\ (q128, q164 + q20, (q130, q131, q132, q133, q134, q135, q136, q147.set q137 (q170.1, (q19, q151, Sp.eN q159, Sp.eY q162, Sp.eY q165, q139), q170.2.2), ()), ()) = Sp.mdS x_3.2 /\ q104) /\ True) /\ True /\ True;
 let q172 : Prop := q8 /\ q154;
 let q173 : Prop := True /\ (q8 /\ q8 /\ q28 /\ q46 /\ q46 /\ q143 /\ q172) /\ (q166 /\ q171) /\ q0;
 let q174 : Prop := q8 /\ q172;
 let q175 : Prop := True /\ (q8 /\ q8 /\ q28 /\ q46 /\ q46 /\ q143 /\ q174) /\ (q163 /\ q173) /\ q2;
 let q176 : Prop := (q8 /\ q8 /\ q28 /\ q46 /\ q46 /\ q143 /\ q8 /\ q174) /\ (q160 /\ q175) /\ q3;
 let q177 : Int := q97 - q20;
 x_3.1 <= q30 /\ Sp.aG ((700 : Nat) - (310 : Nat) * x_3.1) x_3.2 /\ Sp.mdN x_3.1 x_3.2 = Sp.md3 x.1.1 -> q31 /\ True /\ aB (tU8.slice.prod (tI.prod ((tI.prod (tI.prod (tI.prod (tI.prod (tI.prod (cG.slice.prod (bF.slice.prod ((aL.slice.prod ((tI.prod (tI.prod (aQ.prod (aQ.prod (aQ.prod ((Ty.arr q30 tI).prod Ty.unit)))))).prod Ty.unit)).slice.prod Ty.unit)))))))).prod Ty.unit))) x_3.2 /\ q99 -> q1 /\ (q100 = true -> (((q0 /\ (q10 <= x_3.2.2.1 /\ x_3.2.2.1 <= q12) /\ q32 /\ (Sp.aG q36 q101 /\ q37 <= q102 /\ q102 <= q38) /\ True) /\ ∃ (x : Unit), True /\ q35 /\ q7 /\ Sp.rgM q101 q102 = Sp.q1 x_3.2 /\ q104) /\ ∀ (x : Unit), True -> q31 /\ True /\ aB (tU8.slice.prod (tI.prod ((tI.prod (tI.prod (tI.prod (tI.prod (tI.prod (cG.slice.prod (bF.slice.prod ((aL.slice.prod ((tI.prod (tI.prod (aQ.prod (aQ.prod (aQ.prod ((Ty.arr q30 tI).prod Ty.unit)))))).prod Ty.unit)).slice.prod Ty.unit)))))))).prod Ty.unit))) (Sp.q1 x_3.2) /\ q99 -> (((True /\ True) /\ (q10 <= q105 /\ q105 <= q12) /\ q33) /\ (q106 = true -> ((True /\ True) /\ (Sp.aG q36 q107 /\ Sp.has q107) /\ True) /\ ((True /\ True) /\ Sp.aG q39 q108 /\ True) /\ ∃ (x : Unit), True /\ q35 /\ q7 /\ Sp.fH q108 = q109 /\ q104) /\ (q106 = false -> ∃ (x : Unit), True /\ q35 /\ q7 /\ q107 = q109 /\ q104)) /\ ∀ (x : Unit), True -> q31 /\ True /\ q110 /\ q99 -> (((True /\ True /\ True /\ True /\ True /\ True /\ inK IntKind.i64 q123 /\ True /\ True) /\ True) /\ ∃ (x : Unit), True /\ q35 /\ q7 /\ q109 = q109 /\ q103 /\ q123 = q124 /\ True) /\ ∀ (x : Unit), True -> q31 /\ True /\ q110 /\ q125 -> (((True /\ True /\ True /\ True /\ True /\ True /\ True /\ q127 /\ True /\ True /\ inN q124 q122 /\ True /\ True) /\ True /\ True) /\ ∃ (x : Unit), True /\ q35 /\ q7 /\ (q128, q129, (q130, q131, q132, q133, q134, q135, q136, q121.set q137 (q138.1, (q29, q11, q40, q40, q40, q139), q138.2.2), q120.2), q112.2) = q140 /\ q103 /\ q141 /\ True) /\ ∀ (x : Unit), True -> q31 /\ True /\ aB (tU8.slice.prod (tI.prod ((tI.prod (tI.prod (tI.prod (tI.prod (tI.prod (cG.slice.prod (bF.slice.prod ((aL.slice.prod ((tI.prod (tI.prod (aQ.prod (aQ.prod (aQ.prod ((Ty.arr q30 tI).prod Ty.unit)))))).prod Ty.unit)).slice.prod Ty.unit)))))))).prod Ty.unit))) q140 /\ q125 -> ((True /\ True) /\ (q10 <= q129 /\ q129 <= q12) /\ q33) /\ (q142 = true -> (True /\ True /\ True /\ True /\ True /\ True /\ True /\ True /\ True /\ True /\ True /\ q127 /\ True) /\ (q8 /\ q8 /\ q28 /\ q46 /\ q46 /\ q143 /\ q8 /\ q8 /\ q8 /\ q8 /\ q143 /\ q144 /\ True) /\ (q146 /\ q153 /\ (q8 /\ q8 /\ q28 /\ q46 /\ q46 /\ q143 /\ q8 /\ q157) /\ (q160 /\ True /\ (q8 /\ q8 /\ q28 /\ q46 /\ q46 /\ q143 /\ q157) /\ (q163 /\ True /\ (q8 /\ q8 /\ q28 /\ q46 /\ q46 /\ q143 /\ q156) /\ (q166 /\ True /\ (q8 /\ q8 /\ q28 /\ q46 /\ q46 /\ q143 /\ q155) /\ (True /\ q171) /\ q0) /\ (True /\ q173) /\ q0) /\ True /\ (True /\ q175) /\ q0) /\ True /\ True /\ (True /\ True /\ q176) /\ q0) /\ True /\ True /\ True /\ (True /\ True /\ (q8 /\ q8 /\ q28 /\ q46 /\ q46 /\ q143 /\ q8 /\ q8 /\ q9) /\ (q146 /\ q153 /\ q176) /\ q4) /\ q0) /\ (q142 = false -> ∃ (x : Unit), True /\ q35 /\ q7 /\ q149 = Sp.mdS x_3.2 /\ q104)) /\ ∀ (x_4 : Unit), True -> q31 /\ True /\ aB (tU8.slice.prod (tI.prod ((tI.prod (tI.prod (tI.prod (tI.prod (tI.prod (cG.slice.prod (bF.slice.prod ((aL.slice.prod ((tI.prod (tI.prod (aQ.prod (aQ.prod (aQ.prod ((Ty.arr q30 tI).prod Ty.unit)))))).prod Ty.unit)).slice.prod Ty.unit)))))))).prod Ty.unit))) (Sp.mdS x_3.2) /\ q99 -> ((True /\ inK IntKind.i64 q177 /\ True /\ True) /\ True) /\ ∃ (y : Nat × Sp.Mk), (y.1 <= q30 /\ Sp.aG ((700 : Nat) - (310 : Nat) * y.1) y.2 /\ Sp.mdN y.1 y.2 = Sp.md3 x.1.1) /\ y.1 < x_3.1 /\ q35 /\ q7 /\ Sp.mdS x_3.2 = y.2 /\ q177 = (↑y.1 : Int) /\ True) /\ (q100 = false -> ∃ (x_4 : Unit), True /\ q35 /\ q7 /\ x_3.2 = Sp.md3 x.1.1 /\ True)) /\
 ∀ (x_3 : Unit), True -> q31 /\ True /\ aB (tU8.slice.prod (tI.prod ((tI.prod (tI.prod (tI.prod (tI.prod (tI.prod (cG.slice.prod (bF.slice.prod ((aL.slice.prod ((tI.prod (tI.prod (aQ.prod (aQ.prod (aQ.prod ((Ty.arr q30 tI).prod Ty.unit)))))).prod Ty.unit)).slice.prod Ty.unit)))))))).prod Ty.unit))) (Sp.md3 x.1.1) /\ True -> ((q0 /\ (q10 <= q62 /\ q62 <= q12) /\ q32 /\ (Sp.aG q36 q63 /\ q37 <= q64 /\ q64 <= q38) /\ True) /\ ∃ (x : Unit), True /\ q35 /\ q7 /\ Sp.rgM q63 q64 = q65 /\ True) /\ ∀ (x_4 : Unit), True -> q31 /\ True /\ aB (tU8.slice.prod (tI.prod ((tI.prod (tI.prod (tI.prod (tI.prod (tI.prod (cG.slice.prod (bF.slice.prod ((aL.slice.prod ((tI.prod (tI.prod (aQ.prod (aQ.prod (aQ.prod ((Ty.arr q30 tI).prod Ty.unit)))))).prod Ty.unit)).slice.prod Ty.unit)))))))).prod Ty.unit))) q65 /\ True -> (((True /\ True) /\ (q10 <= q67 /\ q67 <= q12) /\ q33) /\ (q68 = true -> ((True /\ True) /\ (Sp.aG q36 q69 /\ Sp.has q69) /\ True) /\ ((True /\ True) /\ Sp.aG q39 q70 /\ True) /\ ((True /\ True) /\ (Sp.aG (4500 : Nat) q71 /\ Sp.has q71) /\ True) /\ ∃ (x_5 : Unit), True /\ q35 /\ q7 /\ Sp.insM q71 = Sp.md4 x.1.1 /\ True) /\ (q68 = false -> ∃ (x_5 : Unit), True /\ q35 /\ q7 /\ q69 = Sp.md4 x.1.1 /\ True)) /\ ∀ (x_5 : Unit), True -> q31 /\ True /\ aB (tU8.slice.prod (tI.prod ((tI.prod (tI.prod (tI.prod (tI.prod (tI.prod (cG.slice.prod (bF.slice.prod ((aL.slice.prod ((tI.prod (tI.prod (aQ.prod (aQ.prod (aQ.prod ((Ty.arr q30 tI).prod Ty.unit)))))).prod Ty.unit)).slice.prod Ty.unit)))))))).prod Ty.unit))) (Sp.md4 x.1.1) /\ True -> (((True /\ True /\ True /\ True /\ True /\ True /\ True /\ True /\ True /\ True /\ True /\ inK IntKind.i64 q84 /\ True /\ inN q84 q83 /\ True /\ True) /\ True /\ True) /\ ∃ (x_6 : Unit), True /\ q35 /\ q7 /\ ((Sp.md4 x.1.1).1, q72.1, (q74.1, q75.1, q76.1, q77.1, q78.1, q79.1, q80.1, q82.set q85 (q86.1, (q14, q42), q86.2.2), q81.2), q73.2) = Sp.md5 x.1.1 /\ True) /\ ∀ (x_6 : Unit), True -> q31 /\ True /\ aB (tU8.slice.prod (tI.prod ((tI.prod (tI.prod (tI.prod (tI.prod (tI.prod (cG.slice.prod (bF.slice.prod ((aL.slice.prod ((tI.prod (tI.prod (aQ.prod (aQ.prod (aQ.prod ((Ty.arr q30 tI).prod Ty.unit)))))).prod Ty.unit)).slice.prod Ty.unit)))))))).prod Ty.unit))) (Sp.md5 x.1.1) /\ True -> (q3 /\ True /\ True) /\ Sp.fK q74 (Sp.setT (Sp.cB q74) (Sp.nB (Sp.md4 x.1.1) - q20) (Sp.tJ q14 q11 q11)) = Sp.bQ x.1.1) := by kernel_rfl
end Go.User
