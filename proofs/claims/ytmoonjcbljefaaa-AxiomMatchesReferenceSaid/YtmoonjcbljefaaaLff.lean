/- A function, by value: from its body's proposition to its contract. Stores and assignments: by value. One step, by value. Arguments of numbers in structs and arrays, as they come in. Methods that write through their pointer: by value. Small facts under short names. The types of the seat, and that the program has them. The small functions: what they compute. -/
import Derived.Test.YtmoonjcbljefaaaLfe
import Derived.Laws.Sem
import Derived.Test.YtmoonjcbljefaaaRows
import Derived.Test.YtmoonjcbljefaaaProg
import Derived.ProofKit
import Derived.SizedLaws
import Derived.KernelRfl
set_option linter.unusedVariables false
set_option linter.unusedSimpArgs false
namespace Go.Lf

/-- What the parameters' slots hold at the beginning. -/
def argEnt : (k : AK) → k.den → Ent
  | .val τ, x => .shr τ x
  | .fn A R, g => .fn A R g
  | .sptr τ, x => .saddr τ x
def argsEnt : (ks : List AK) → kdens ks → Nat → List (Nat × Ent)
  | [], _, _ => []
  | k :: ks, x, n => (n, argEnt k x.1) :: argsEnt ks x.2 (n + 1)
def ofL (l : List (Nat × Ent)) : St := fun t => match look l t with
  | some e => e
  | none => .dead

/-- A result that is handed over: the value, the owner that it is taken from. -/
def ownR (τ : Ty) (m : Md) (v : View) : Option (τ.den × List Nat) :=
  match v.shrAs τ with
  | some x => bif shrM m || τ.flat then some (x, []) else v.ownAs τ m
  | none => match v.e with
    | .sub r [] => match v.r with
      | .own σ m' x => bif decide (m' = m) then (castD (τ := σ) (σ := τ) x).map fun y => (y, [r]) else none
      | .box σ m' x => bif decide (m' = m) then (castD (τ := σ) (σ := τ) x).map fun y => (y, [r]) else none
      | _ => none
    | _ => v.ownAs τ m

/-- A result by value. -/
def readR (τ : Ty) (v : View) : Option τ.den :=
  match v.shrAs τ with
  | some x => some x
  | none => match v.val with
    | some ⟨σ, x⟩ => castD (τ := σ) (σ := τ) x
    | none => none

/-- What a result's variable holds. -/
def resV (C : Ctx) (st : St) : ResultVar → Option View
  | .tmp t => some (viewO st (.tmp t))
  | .cell _ _ => none

def ownRs : (τ : Ty) → Md → List View → Option (τ.den × List Nat)
  | .unit, _, [] => some ((), [])
  | .prod a b, m, v :: vs => match ownR a m.fst v, ownRs b m.snd vs with
    | some (x, l), some (y, l') => some ((x, y), l ++ l')
    | _, _ => none
  | _, _, _ => none
def readRs : (τ : Ty) → List View → Option τ.den
  | .unit, [] => some ()
  | .prod a b, v :: vs => match readR a v, readRs b vs with
    | some x, some y => some (x, y)
    | _, _ => none
  | _, _ => none

def cellOf (st : St) (T : TypeId) (C : Ctx) (t : Nat) (τ : Ty) : Option τ.den :=
  match st t with
  | .box σ _ x => bif decide (look C.tys T = some τ) then castD (τ := σ) (σ := τ) x else none
  | _ => none

/-- A box's content, handed over. -/
def cellOwn (st : St) (T : TypeId) (C : Ctx) (t : Nat) (τ : Ty) (md : Md) : Option τ.den :=
  match st t with
  | .box σ m x => bif decide (look C.tys T = some τ) && decide (m = md) then castD (τ := σ) (σ := τ) x else none
  | _ => none

def viewsR (st : St) : List ResultVar → Option (List View)
  | [] => some []
  | .tmp t :: l => match viewsR st l with
    | some vs => some (viewO st (.tmp t) :: vs)
    | none => none
  | .cell _ _ :: _ => none

/-- What is returned. -/
def retE (C : Ctx) (rs : List ResultVar) (s : FSpec) (st : St) : Option s.res.den :=
  match rs, s.multi with
  | [.tmp t], false => match ownR s.res s.mode (viewO st (.tmp t)) with
    | some (x, _) => some x
    | none => bif shrM s.mode then readR s.res (viewO st (.tmp t)) else none
  | [.cell t T], false => bif s.res.flat || shrM s.mode then cellOf st T C t s.res else cellOwn st T C t s.res s.mode
  | _, true => bif Nat.beq rs.length 1 then none else match viewsR st rs with
    | some vs => match ownRs s.res s.mode vs with
      | some (x, l) => bif nodupN l then some x else none
      | none => bif shrM s.mode then readRs s.res vs else none
    | none => none
  | _, _ => none

def retP (C : Ctx) (rs : List ResultVar) (s : FSpec) (y : s.res.den) (st : St) : Prop := match retE C rs s st with
  | some x => x = y
  | none => False

/-- The proposition for a function's body. -/
def funI (C : Ctx) (stp : St → Oper → Option (Prop × St)) (s : FSpec) (L : kdens s.args → List LoopI) (fn : Func) : Prop :=
  match fn.body with
  | some c => ∀ x, s.pre x → factsK s.args x → wpI C stp (L x) c 0 (ofL (argsEnt s.args x 0)) (retP C fn.results.toList s (s.fn x)) (fun _ _ => False) (retP C fn.results.toList s (s.fn x))
  | none => False

section
variable {P : Program} {C : Ctx} {N : NP} {w0 : World} {F0 H : NSet} {env : St} {a : Act} {w : World} {F : NSet} {S : Nat → NSet}

theorem argEnt_ok {k : AK} {v : Value} {x : k.den} (h : ArgOK P F w k v x) {V : Nat → Value} {t : Nat} (hV : V t = v) : EntOK P F w env V S t (argEnt k x) := by
  cases k with
  | val τ => show OwnV F w τ .shr none' (V t) x; rw [hV]; exact h
  | fn A R => show FnVal P F w (V t) A R x; rw [hV]; exact h
  | sptr τ => show SAddr F w (V t) τ x; rw [hV]; exact h

theorem argsEnt_ok {V : Nat → Value} : ∀ {ks : List AK} {vs : List Value} {x : kdens ks} {n : Nat}, ArgsOK P F w ks vs x → (∀ i v, vs[i]? = some v → V (n + i) = v) →
    vs.length = ks.length ∧ ∀ t e, look (argsEnt ks x n) t = some e → e.isOwner = false ∧ e.root = none ∧ EntOK P F w env V S t e
  | [], vs, x, n, h, hV => by
    have h : vs = [] := h
    subst h; exact ⟨rfl, fun t e h => by cases h⟩
  | k :: ks, vs, x, n, h, hV => by
    obtain ⟨v, r, rfl, h1, h2⟩ := h
    obtain ⟨g1, g2⟩ := argsEnt_ok (V := V) (n := n + 1) h2 (fun i u hu => by have := hV (i + 1) u (by simpa using hu); rw [← this]; congr 1; omega)
    refine ⟨by simp [g1], fun t e he => ?_⟩
    simp only [argsEnt, look] at he
    cases hb : Nat.beq n t
    · rw [hb] at he; exact g2 t e he
    · rw [hb] at he
      simp only [cond_true, Option.some.injEq] at he
      subst he
      have ht := nbeq_iff.1 hb
      subst ht
      refine ⟨by cases k <;> rfl, by cases k <;> rfl, argEnt_ok h1 (by have := hV 0 v rfl; simpa using this)⟩

/-- The beginning of a call. -/
theorem Inv0.start {ks : List AK} {vs : List Value} {x : kdens ks} (hF : ∀ b, F b → b < w.heap.size) (h : ArgsOK P F w ks vs x) (hn : vs.length ≤ N.n) :
    Inv0 P N w F none' (ofL (argsEnt ks x 0)) { tmps := vs.toArray ++ Array.replicate (N.n - vs.length) undef, defers := [] } w F (fun _ => none') := by
  have hV : ∀ i v, vs[i]? = some v → (vs.toArray ++ Array.replicate (N.n - vs.length) undef).getD (0 + i) undef = v := by
    intro i v hv
    have hi : i < vs.length := by
      rcases Nat.lt_or_ge i vs.length with h | h
      · exact h
      · rw [List.getElem?_eq_none h] at hv; cases hv
    rw [Nat.zero_add, Array.getD_eq_getD_getElem?, Array.getElem?_append_left (by simpa using hi)]
    simp [hv]
  have he := argsEnt_ok (env := ofL (argsEnt ks x 0)) (S := fun _ => none') (V := fun t => (vs.toArray ++ Array.replicate (N.n - vs.length) undef).getD t undef) (n := 0) h hV
  refine ⟨rfl, rfl, rfl, Nat.le_refl _, fun _ _ _ => rfl, hF, fun _ h => h, fun b h1 h2 => absurd h1 h2, fun _ _ h => h.elim, fun _ _ _ _ h => h.elim, ?_, rfl, ⟨by simp; omega, fun _ h => h.elim⟩⟩
  intro t
  show EntOK P F w (ofL (argsEnt ks x 0)) (fun t => (vs.toArray ++ Array.replicate (N.n - vs.length) undef).getD t undef) (fun _ => none') t (match look (argsEnt ks x 0) t with | some e => e | none => .dead)
  cases hl : look (argsEnt ks x 0) t with
  | none => trivial
  | some e => exact (he.2 t e hl).2.2

theorem ownR_ok (hi : Inv0 P N w0 F0 H env a w F S) {v : Value} {vw : View} (hv : ViewOK P F w env (fun t => a.tmps.getD t undef) S v vw) {τ : Ty} {m : Md} {x : τ.den} {l : List Nat} (h : ownR τ m vw = some (x, l)) :
    (l = [] ∧ OwnV F w τ m none' v x) ∨ ∃ t, l = [t] ∧ OwnV F w τ m (S t) v x := by
  unfold ownR at h
  split at h
  · rename_i y hy
    cases hb : (shrM m || τ.flat)
    · rw [hb] at h; exact ownAs_ok hi hv h
    · rw [hb] at h
      simp only [cond_true, Option.some.injEq, Prod.mk.injEq] at h
      obtain ⟨rfl, rfl⟩ := h
      have := shrAs_ok hi hv hy
      simp only [Bool.or_eq_true] at hb
      rcases hb with hb | hb
      · have hm : m = .shr := by cases m <;> first | rfl | cases hb
        subst hm
        exact .inl ⟨rfl, this⟩
      · exact .inl ⟨rfl, OwnV.flat hb this⟩
  · split at h
    · rename_i r he
      split at h
      · rename_i σ m' y hr
        cases hm : decide (m' = m)
        · rw [hm] at h; cases h
        · rw [hm] at h
          have hm := of_decide_eq_true hm
          subst hm
          simp only [cond_true, Option.map_eq_some_iff, Prod.mk.injEq] at h
          obtain ⟨z, h1, rfl, rfl⟩ := h
          have := castD_some h1
          injection this with e1 e2; subst e1; cases e2
          right
          refine ⟨r, rfl, ?_⟩
          have h2 := hv.ent (by rw [he]; rfl) (r + 1) (by rw [he]; simp [Ent.root])
          rw [he] at h2
          simp only [EntOK, if_true] at h2
          obtain ⟨τ0, m0, x0, pl, S0, cs, σ', μ, pl', cs', g1, g2, g3, g4, g5, g6, g7⟩ := h2
          simp only [show ¬ (r = r + 1) from by omega, if_false] at g1
          have hroot := hv.root
          rw [he] at hroot
          simp only [rootE, Ent.root] at hroot
          rw [← hroot, hr] at g1
          obtain ⟨e1, e2, e3, e4, e5⟩ := g1.own_inj
          injection e1 with e6 e7
          subst e6; cases e7; subst e2; subst e3; subst e4
          simp only [loc, Option.some.injEq, Prod.mk.injEq] at g2
          obtain ⟨rfl, rfl⟩ := g2
          simp only [Place.read, Option.some.injEq] at g3
          subst g3
          exact ⟨cs, g4, g1.2.2⟩
      · rename_i σ m' y hr
        cases hm : decide (m' = m)
        · rw [hm] at h; cases h
        · rw [hm] at h
          have hm := of_decide_eq_true hm
          subst hm
          simp only [cond_true, Option.map_eq_some_iff, Prod.mk.injEq] at h
          obtain ⟨z, h1, rfl, rfl⟩ := h
          have := castD_some h1
          injection this with e1 e2; subst e1; cases e2
          right
          refine ⟨r, rfl, ?_⟩
          have h2 := hv.ent (by rw [he]; rfl) (r + 1) (by rw [he]; simp [Ent.root])
          rw [he] at h2
          simp only [EntOK, if_true] at h2
          obtain ⟨τ0, m0, x0, pl, S0, cs, σ', μ, pl', cs', g1, g2, g3, g4, g5, g6, g7⟩ := h2
          simp only [show ¬ (r = r + 1) from by omega, if_false] at g1
          have hroot := hv.root
          rw [he] at hroot
          simp only [rootE, Ent.root] at hroot
          rw [← hroot, hr] at g1
          obtain ⟨e1, e2, b, e3, e4, e5, e6⟩ := g1.box_inj
          injection e1 with e7 e8
          subst e7; cases e8; subst e2
          simp only [loc, Option.some.injEq, Prod.mk.injEq] at g2
          obtain ⟨rfl, rfl⟩ := g2
          have g3' := g1.2.1.read.symm.trans g3
          simp only [Option.some.injEq] at g3'
          subst g3'
          exact ⟨cs, g4, g1.2.2.mono (fun _ h => h) g1.sub⟩
      · cases h
    · exact ownAs_ok hi hv h

theorem readR_ok (hi : Inv0 P N w0 F0 H env a w F S) {v : Value} {vw : View} (hv : ViewOK P F w env (fun t => a.tmps.getD t undef) S v vw) {τ : Ty} {x : τ.den} (h : readR τ vw = some x) :
    OwnV (FA F S) w τ .shr none' v x := by
  unfold readR at h
  split at h
  · rename_i y hy
    simp only [Option.some.injEq] at h
    subst h
    exact (shrAs_ok hi hv hy).mono (fun b hb => .inl hb) (fun _ h => h)
  · split at h
    · rename_i σ y hy
      have := castD_some h
      injection this with e1 e2; subst e1; cases e2
      exact View.val_ok hi hv hy
    · cases h

def resG (a : Act) : ResultVar → Sem Value
  | ResultVar.tmp t => (pure (a.tmps.getD t undef) : Sem Value)
  | .cell b t => do loadVar t (← asAddr (a.tmps.getD b undef))

theorem viewsR_ok (hi : Inv0 P N w0 F0 H env a w F S) : ∀ {rs : List ResultVar} {vws : List View}, viewsR env rs = some vws →
    ∃ vs, VsOK P F w env (fun t => a.tmps.getD t undef) S vs vws ∧ (rs.mapM (resG a)).run P w = .ok vs w ∧ vs.length = rs.length
  | [], vws, h => by
    simp only [viewsR, Option.some.injEq] at h
    subst h
    exact ⟨[], trivial, by simp [Sem.run_pure], rfl⟩
  | .tmp t :: rs, vws, h => by
    simp only [viewsR] at h
    split at h
    · rename_i vws' h'
      simp only [Option.some.injEq] at h
      subst h
      obtain ⟨vs, h1, h2, h3⟩ := viewsR_ok hi h'
      refine ⟨a.tmps.getD t undef :: vs, ⟨viewO_ok hi (.tmp t), h1⟩, ?_, by simp [h3]⟩
      rw [List.mapM_cons]
      simp only [resG, Sem.run_bind, Sem.run_pure, Result.andThen]
      rw [h2]
    · cases h
  | .cell _ _ :: _, _, h => by cases h

theorem ownRs_ok (hi : Inv0 P N w0 F0 H env a w F S) : ∀ {τ : Ty} {m : Md} {vs : List Value} {vws : List View} {x : τ.den} {l : List Nat},
    VsOK P F w env (fun t => a.tmps.getD t undef) S vs vws → ownRs τ m vws = some (x, l) → nodupN l = true → TupOK F w τ m (SL S l) vs x
  | .unit, m, [], [], x, l, _, h, _ => rfl
  | .prod A B, m, v :: vs, vw :: vws, x, l, ⟨hv, hvs⟩, h, hn => by
    simp only [ownRs] at h
    split at h
    · rename_i y l1 z l2 h1 h2
      simp only [Option.some.injEq, Prod.mk.injEq] at h
      obtain ⟨rfl, rfl⟩ := h
      have hfst : ∃ S1, Sub S1 (SL S l1) ∧ OwnV F w A m.fst S1 v y := by
        rcases ownR_ok hi hv h1 with ⟨rfl, h3⟩ | ⟨t, rfl, h3⟩
        · exact ⟨none', fun _ h => h.elim, h3⟩
        · exact ⟨S t, fun b hb => ⟨t, by simp, hb⟩, h3⟩
      have hn2 : nodupN l2 = true ∧ ∀ t, t ∈ l1 → t ∉ l2 := by
        rcases ownR_ok hi hv h1 with ⟨rfl, h3⟩ | ⟨t, rfl, h3⟩
        · exact ⟨hn, fun _ h => by cases h⟩
        · have := nodup_cons hn
          exact ⟨this.2, fun u hu => by simp at hu; subst hu; exact this.1⟩
      obtain ⟨S1, k1, k2⟩ := hfst
      refine ⟨v, vs, S1, SL S l2, rfl, ?_, ?_, ?_, k2, ownRs_ok hi hvs h2 hn2.1⟩
      · intro b hb; obtain ⟨t, ht, hb⟩ := k1 b hb; exact ⟨t, by simp [ht], hb⟩
      · intro b hb; obtain ⟨t, ht, hb⟩ := hb; exact ⟨t, by simp [ht], hb⟩
      · intro b hb1 hb2
        obtain ⟨t1, ht1, hb1⟩ := k1 b hb1
        obtain ⟨t2, ht2, hb2⟩ := hb2
        exact hi.sd t1 t2 (fun h => hn2.2 t1 ht1 (h ▸ ht2)) b hb1 hb2
    · cases h
  | .prod _ _, _, [], [], _, _, _, h, _ => by simp [ownRs] at h
  | .prod _ _, _, [], _ :: _, _, _, h, _, _ => h.elim
  | .prod _ _, _, _ :: _, [], _, _, h, _, _ => h.elim
  | .unit, _, [], _ :: _, _, _, h, _, _ => h.elim
  | .unit, _, _ :: _, [], _, _, h, _, _ => h.elim
  | .unit, _, _ :: _, _ :: _, _, _, _, h, _ => by simp [ownRs] at h
  | .int _, _, _, _, _, _, _, h, _ => by simp [ownRs] at h
  | .bool, _, _, _, _, _, _, h, _ => by simp [ownRs] at h
  | .str, _, _, _, _, _, _, h, _ => by simp [ownRs] at h
  | .slice _, _, _, _, _, _, _, h, _ => by simp [ownRs] at h
  | .arr _ _, _, _, _, _, _, _, h, _ => by simp [ownRs] at h

theorem readRs_ok (hi : Inv0 P N w0 F0 H env a w F S) : ∀ {τ : Ty} {vs : List Value} {vws : List View} {x : τ.den},
    VsOK P F w env (fun t => a.tmps.getD t undef) S vs vws → readRs τ vws = some x → TupOK (FA F S) w τ .shr none' vs x
  | .unit, [], [], x, _, h => rfl
  | .prod A B, v :: vs, vw :: vws, x, ⟨hv, hvs⟩, h => by
    simp only [readRs] at h
    split at h
    · rename_i y z h1 h2
      simp only [Option.some.injEq] at h
      subst h
      exact ⟨v, vs, none', none', rfl, fun _ h => h, fun _ h => h, fun _ h => h.elim, readR_ok hi hv h1, readRs_ok hi hvs h2⟩
    · cases h
  | .prod _ _, [], [], _, _, h => by simp [readRs] at h
  | .prod _ _, [], _ :: _, _, h, _ => h.elim
  | .prod _ _, _ :: _, [], _, h, _ => h.elim
  | .unit, [], _ :: _, _, h, _ => h.elim
  | .unit, _ :: _, [], _, h, _ => h.elim
  | .unit, _ :: _, _ :: _, _, _, h => by simp [readRs] at h
  | .int _, _, _, _, _, h => by simp [readRs] at h
  | .bool, _, _, _, _, h => by simp [readRs] at h
  | .str, _, _, _, _, h => by simp [readRs] at h
  | .slice _, _, _, _, _, h => by simp [readRs] at h
  | .arr _ _, _, _, _, _, h => by simp [readRs] at h

/-- What a call leaves, out of the frame's invariant at its end. -/
theorem Inv0.post {F : NSet} (hi : Inv0 P N w0 F0 none' env a w F S) {multi : Bool} {τ : Ty} {m : Md} {v : Value} {x : τ.den} {F' Sd : NSet}
    (hF : Sub F F') (hF' : ∀ b, F' b → F b ∨ ∃ t, S t b) (hS : ∀ b, Sd b → (∃ t, S t b) ∧ ¬ F' b) (h : RetV F' w multi τ m Sd v x) :
    Post F0 w0 multi τ m x (.returned v) w := by
  have hnew : ∀ b, (∃ t, S t b) → w0.heap.size ≤ b ∧ b < w.heap.size := by
    rintro b ⟨t, hb⟩
    obtain ⟨h1, h2, _⟩ := hi.sb t b hb
    exact ⟨h1.elim id (fun h => h.elim), h2⟩
  refine ⟨v, F', Sd, rfl, ?_, fun b hb => hF b (hi.f0 b hb), ?_, ?_, ?_, h⟩
  · exact ⟨hi.os, hi.tape, hi.output, hi.size, fun k hk => hi.block k hk (fun h => h)⟩
  · intro b h1 h2
    rcases hF' b h1 with h | h
    · exact (hi.fn b h h2).elim id (fun h => h.elim)
    · exact (hnew b h).1
  · intro b h
    rcases h with h | h
    · rcases hF' b h with h | h
      · exact hi.fb b h
      · exact (hnew b h).2
    · exact (hnew b (hS b h).1).2
  · intro b h
    exact ⟨(hnew b (hS b h).1).1, (hS b h).2⟩


theorem results_run {fn : Func} {vs : List Value} (h : (fn.results.toList.mapM (resG a)).run P w = .ok vs w) :
    (results fn a.tmps).run P w = .ok (if h : vs.toArray.size = 1 then vs.toArray[0] else .tuple vs.toArray) w := by
  have e : results fn a.tmps = (fn.results.mapM (resG a)) >>= fun vs => pure (if h : vs.size = 1 then vs[0] else .tuple vs) := by
    unfold results
    congr 1
  rw [e, Array.mapM_eq_mapM_toList]
  simp only [map_eq_pure_bind, Sem.run_bind, h, Result.andThen, Sem.run_pure]

theorem retP_ok (hC : CtxOK P C) {s : FSpec} {fn : Func} {y : s.res.den} (h : retP C fn.results.toList s y env) {a : Act} {w : World} (hi : Inv P N w0 F0 none' env a w) :
    ∃ v, (results fn a.tmps).run P w = .ok v w ∧ Post F0 w0 s.multi s.res s.mode y (.returned v) w := by
  unfold retP at h
  generalize hret : retE C fn.results.toList s env = g at h
  cases g with
  | none => cases h
  | some x =>
    simp only [] at h
    subst h
    obtain ⟨F, S, hi⟩ := hi
    have hFA : ∀ {m : Md} {v : Value}, shrM m = true → OwnV (FA F S) w s.res .shr none' v x → s.multi = false → m = s.mode → Post F0 w0 s.multi s.res s.mode x (.returned v) w := by
      intro m v hm hv hmu hms
      subst hms
      have hm' : s.mode = .shr := by cases hmm : s.mode <;> first | rfl | (rw [hmm] at hm; cases hm)
      refine hi.post (F' := FA F S) (Sd := none') (fun b hb => .inl hb) (fun b hb => hb) (fun b hb => hb.elim) ?_
      rw [hmu, hm']
      exact hv
    unfold retE at hret
    split at hret
    · rename_i t hrs hmu
      have hrun := results_run (P := P) (w := w) (a := a) (fn := fn) (vs := [a.tmps.getD t undef]) (by rw [hrs]; simp [resG, Sem.run_bind, Sem.run_pure, Result.andThen])
      refine ⟨_, hrun, ?_⟩
      simp only [List.size_toArray, List.length_cons, List.length_nil, Nat.zero_add, dite_true]
      show Post F0 w0 s.multi s.res s.mode x (.returned (a.tmps.getD t undef)) w
      have hv := viewO_ok hi (.tmp t)
      split at hret
      · rename_i z l hz
        simp only [Option.some.injEq] at hret
        subst hret
        rcases ownR_ok hi hv hz with ⟨rfl, h⟩ | ⟨u, rfl, h⟩
        · refine hi.post (F' := F) (Sd := none') (fun b hb => hb) (fun b hb => .inl hb) (fun b hb => hb.elim) ?_
          rw [hmu]; exact h
        · refine hi.post (F' := F) (Sd := S u) (fun b hb => hb) (fun b hb => .inl hb) (fun b hb => ⟨⟨u, hb⟩, (hi.sb u b hb).2.2⟩) ?_
          rw [hmu]; exact h
      · cases hm : shrM s.mode
        · rw [hm] at hret; cases hret
        · rw [hm] at hret
          simp only [cond_true] at hret
          exact hFA hm (readR_ok hi hv hret) hmu rfl
    · rename_i t T hrs hmu
      cases hm : (s.res.flat || shrM s.mode)
      · rw [hm] at hret
        simp only [cond_false] at hret
        unfold cellOwn at hret
        split at hret
        · rename_i σ m z he
          cases hT : (decide (look C.tys T = some s.res) && decide (m = s.mode))
          · rw [hT] at hret; cases hret
          rw [hT] at hret
          simp only [cond_true] at hret
          simp only [Bool.and_eq_true, decide_eq_true_eq] at hT
          obtain ⟨hT', hmd⟩ := hT
          have := castD_some hret
          injection this with e1 e2
          subst e1; cases e2
          have h1 := hi.ent t
          rw [he] at h1
          obtain ⟨pl, S0, cs, h1⟩ := h1
          obtain ⟨_, _, b, rfl, rfl, hv, hb⟩ := h1.box_inj
          obtain ⟨q1, q2, row, T0, q3, q4, q5⟩ := h1.2.1
          have hl := (hC.types T _ hT').loadVar q3 q4
          rw [q5] at hl
          have hrun := results_run (P := P) (w := w) (a := a) (fn := fn) (vs := [slotv s.res cs]) (by
            rw [hrs]
            simp only [List.mapM_cons, List.mapM_nil, resG, hv, asAddr, Sem.run_bind, Sem.run_pure, Result.andThen, hl])
          refine ⟨_, hrun, ?_⟩
          simp only [List.size_toArray, List.length_cons, List.length_nil, Nat.zero_add, dite_true]
          show Post F0 w0 s.multi s.res s.mode _ (.returned (slotv s.res cs)) w
          refine hi.post (F' := F) (Sd := fun k => S t k ∧ k ≠ b) (fun b hb => hb) (fun b hb => .inl hb) (fun k hk => ⟨⟨t, hk.1⟩, (hi.sb t k hk.1).2.2⟩) ?_
          rw [hmu]
          show OwnV F w s.res s.mode _ _ _
          rw [← hmd]
          exact ⟨cs, rfl, h1.2.2⟩
        · cases hret
      rw [hm] at hret
      simp only [cond_true] at hret
      unfold cellOf at hret
      split at hret
      · rename_i σ m z he
        cases hT : decide (look C.tys T = some s.res)
        · rw [hT] at hret; cases hret
        rw [hT] at hret
        simp only [cond_true] at hret
        have hT' := of_decide_eq_true hT
        have := castD_some hret
        injection this with e1 e2
        subst e1; cases e2
        have h1 := hi.ent t
        rw [he] at h1
        obtain ⟨pl, S0, cs, h1⟩ := h1
        obtain ⟨_, _, b, rfl, rfl, hv, hb⟩ := h1.box_inj
        obtain ⟨q1, q2, row, T0, q3, q4, q5⟩ := h1.2.1
        have hl := (hC.types T _ hT').loadVar q3 q4
        rw [q5] at hl
        have hrun := results_run (P := P) (w := w) (a := a) (fn := fn) (vs := [slotv s.res cs]) (by
          rw [hrs]
          simp only [List.mapM_cons, List.mapM_nil, resG, hv, asAddr, Sem.run_bind, Sem.run_pure, Result.andThen, hl])
        refine ⟨_, hrun, ?_⟩
        simp only [List.size_toArray, List.length_cons, List.length_nil, Nat.zero_add, dite_true]
        show Post F0 w0 s.multi s.res s.mode _ (.returned (slotv s.res cs)) w
        have hO : OwnV F w s.res m (fun k => S t k ∧ k ≠ b) (slotv s.res cs) _ := ⟨cs, rfl, h1.2.2⟩
        simp only [Bool.or_eq_true] at hm
        rcases hm with hm | hm
        · refine hi.post (F' := F) (Sd := none') (fun b hb => hb) (fun b hb => .inl hb) (fun b hb => hb.elim) ?_
          rw [hmu]; exact OwnV.flat hm hO
        · exact hFA hm (hO.freeze (fun k hk => hk.imp id fun hk => ⟨t, hk.1⟩)) hmu rfl
      · cases hret
    · rename_i hmu
      cases hl : Nat.beq fn.results.toList.length 1
      · rw [hl] at hret
        simp only [cond_false] at hret
        split at hret
        · rename_i vws hvs
          obtain ⟨vs, k1, k2, k3⟩ := viewsR_ok hi hvs
          have hrun := results_run (P := P) (w := w) (a := a) (fn := fn) (vs := vs) k2
          have hne : ¬ vs.toArray.size = 1 := by
            intro h
            simp only [List.size_toArray] at h
            rw [k3] at h
            rw [nbeq_iff.2 h] at hl; cases hl
          rw [dif_neg hne] at hrun
          refine ⟨_, hrun, ?_⟩
          split at hret
          · rename_i z l hz
            cases hn : nodupN l
            · rw [hn] at hret; cases hret
            rw [hn] at hret
            simp only [cond_true, Option.some.injEq] at hret
            subst hret
            refine hi.post (F' := F) (Sd := SL S l) (fun b hb => hb) (fun b hb => .inl hb) (fun b ⟨u, _, hb⟩ => ⟨⟨u, hb⟩, (hi.sb u b hb).2.2⟩) ?_
            rw [hmu]
            exact ⟨vs, rfl, ownRs_ok hi k1 hz hn⟩
          · cases hm : shrM s.mode
            · rw [hm] at hret; cases hret
            · rw [hm] at hret
              simp only [cond_true] at hret
              have hm' : s.mode = .shr := by cases hmm : s.mode <;> first | rfl | (rw [hmm] at hm; cases hm)
              refine hi.post (F' := FA F S) (Sd := none') (fun b hb => .inl hb) (fun b hb => hb) (fun b hb => hb.elim) ?_
              rw [hmu, hm']
              exact ⟨vs, rfl, readRs_ok hi k1 hret⟩
        · cases hret
      · rw [hl] at hret; cases hret
    · cases hret

theorem ArgsOK.len : ∀ {ks : List AK} {vs : List Value} {x : kdens ks}, ArgsOK P F w ks vs x → vs.length = ks.length
  | [], vs, _, h => by
    have h : vs = [] := h
    subst h; rfl
  | k :: ks, vs, x, h => by
    obtain ⟨v, r, rfl, _, h2⟩ := h
    simp [ArgsOK.len h2]

/-- A function computes what its specification says, if its body's proposition holds. -/
theorem FOk.intro (hC : CtxOK P C) {stp : St → Oper → Option (Prop × St)} (hstp : StpOK P C stp) {f : FuncId} {s : FSpec} {fn : Func} (hdef : FnDef P f) (hf : P.funcs[f]? = some fn) (hN : C.N = fn.ntmps)
    (hlen : Nat.ble s.args.length fn.ntmps = true) (L : kdens s.args → List LoopI) (h : funI C stp s L fn) : FOk P f s := by
  refine ⟨hdef, ?_⟩
  intro w F vs xs hF ha hp
  unfold funI at h
  split at h
  · rename_i c hb
    have hl := ArgsOK.len ha
    have hlen' : s.args.length ≤ fn.ntmps := Nat.le_of_ble_eq_true hlen
    have hst := Inv0.start (P := P) (N := C.np) hF ha (by show vs.length ≤ C.N; omega)
    refine calls_of_wp hf hb ?_
    rw [show C.np.n = fn.ntmps from hN] at hst
    refine wpI_ok hC hstp c (h xs hp (factsK_ok ha)) ⟨F, _, by simpa using hst⟩ ?_ (fun _ _ _ _ h => h.elim) ?_
    · intro st a w' hq hi
      obtain ⟨v, h1, h2⟩ := retP_ok hC hq hi
      obtain ⟨_, _, hi⟩ := hi
      exact ⟨hi.defers, v, h1, h2⟩
    · intro st a w' hq hi
      obtain ⟨v, h1, h2⟩ := retP_ok hC hq hi
      obtain ⟨_, _, hi⟩ := hi
      exact ⟨hi.defers, v, h1, h2⟩
  · cases h
end
end Go.Lf
namespace Go.Lf

/-- What is stored: the value, its mode, the owners that it is taken from, whether it is what has been appended to the place. -/
def valS (σ : Ty) (μ : Md) (l : Al) (v : View) : Option (σ.den × Md × List Nat × Bool) :=
  match v.e with
  | .nilS => match nilOwn σ μ with
    | some y => some (y, μ, [], false)
    | none => match nilD σ with
      | some y => some (y, .shr, [], false)
      | none => none
  | .own _ m' _ => match v.ownAs σ m' with
    | some (y, u) => some (y, m', u, false)
    | none => none
  | .sub r [] => match v.r with
    | .own _ m' _ => match v.shrAs σ with
      | some y => some (y, μ, [], false)
      | none => match ownR σ m' v with
        | some (y, u) => some (y, m', u, false)
        | none => none
    | .box _ m' _ => match v.shrAs σ with
      | some y => some (y, μ, [], false)
      | none => match ownR σ m' v with
        | some (y, u) => some (y, m', u, false)
        | none => none
    | _ => match v.shrAs σ with
      | some y => some (y, bif σ.flat then μ else .shr, [], false)
      | none => none
  | .pend r p e me x => bif Nat.beq r l.r && decide (μ = .own me) then (match castD (τ := .slice e) (σ := σ) x with
    | some y => some (y, μ, [], true)
    | none => none) else none
  | _ => match v.shrAs σ with
    | some y => some (y, bif σ.flat then μ else .shr, [], false)
    | none => none

def modeS (l : Al) (μ μ' : Md) : Option Md := bif decide (μ' = μ) then some l.m else setM l.p l.τ l.m μ'

/-- What has been appended goes where it came from. -/
def pendC (v : View) (l : Al) : Prop := match v.e with
  | .pend _ p _ _ _ => p = l.p
  | _ => True

/-- Whether a slice lies at a path. -/
def slAt : Path → Ty → Bool
  | [], .slice _ => true
  | .fst :: p, .prod a _ => slAt p a
  | .snd :: p, .prod _ b => slAt p b
  | .idx _ :: p, .slice e => slAt p e
  | .idx _ :: p, .arr _ e => slAt p e
  | _, _ => false
def Ty.scal : Ty → Bool
  | .int _ => true
  | .bool => true
  | _ => false
/-- What stays of what hangs on an owner when a number is stored in it. -/
def keepE (r : Nat) (τ : Ty) (e : Ent) : Ent := match e with
  | .addr r' q => .addr r' q
  | .sub r' q => bif Nat.beq r' r then (bif slAt q τ then .sub r' q else .dead) else .sub r' q
  | e => killE r e
def keepS (env : St) (r : Nat) (τ : Ty) : St := fun t => keepE r τ (env t)
/-- A number is stored, and not what has been taken from an owner. -/
def flatS (σ : Ty) (μ μ' : Md) (used : List Nat) : Bool := σ.scal && decide (μ' = μ) && used.isEmpty

def storeE (C : Ctx) (st : St) (T : TypeId) (va vv : View) : Option (Prop × St) :=
  match va.addr? with
  | some l => match getP l.p l.τ l.x, getM l.p l.τ l.m with
    | some ⟨σ, _⟩, some μ => bif decide (look C.tys T = some σ) then
        (match valS σ μ l vv with
        | some (y, μ', used, _) => match setP l.p l.τ l.x σ y, modeS l μ μ' with
          | some x', some m' => bif nodupN (l.r :: used) then some (pendC vv l, upd (bif flatS σ μ μ' used then keepS st l.r l.τ else kill (dropAll st used) l.r) l.r (reown (st l.r) l.τ m' x')) else none
          | _, _ => none
        | none => none) else none
    | _, _ => none
  | none => none

section
variable {P : Program} {C : Ctx} {N : NP} {w0 : World} {F0 H : NSet} {env : St} {a : Act} {w : World} {F : NSet} {S : Nat → NSet} {d : Nat}

theorem store_core (hC : CtxOK P C) (hi : Inv0 P N w0 F0 H env a w F S) {r : Nat} {p : Path} {τ : Ty} {m m' : Md} {x x' : τ.den} {pl : Place} {S0 S' : NSet} {cs : List Value} {σ : Ty} {μ μ' : Md} {b off : Nat} {y : σ.den} {T : TypeId} {S1 : NSet} {v : Value} {used : List Nat}
    (hT : look C.tys T = some σ) (hR : Root F w (S r) (a.tmps.getD r undef) (env r) τ m x pl S0 cs) (hP : Plug F w τ m S0 pl x p σ μ (.mem b off) S')
    (hrow : ∃ row T0, w.heap[b]? = some (.cells row T0 (0, 0)) ∧ off + σ.size ≤ row.size) (hv : OwnV F w σ μ' S1 v y) (hn : nodupN (r :: used) = true)
    (hS1 : ∀ k, S1 k → ¬ (S0 k ∧ ¬ S' k) ∧ ¬ pl.isB k ∧ (S r k ∨ SL S used k) ∧ k ≠ b) (hset : setP p τ x σ y = some x') (hm : μ' = μ ∧ m' = m ∨ setM p τ m μ' = some m') :
    ∃ w', (storeVar T ⟨b, off, none⟩ v).run P w = .ok () w' ∧ Inv P N w0 F0 H (upd (kill (dropAll env used) r) r (reown (env r) τ m' x')) a w' := by
  obtain ⟨hnr, _⟩ := nodup_cons hn
  have hi2 := hi.dropAll' used
  have ho : (env r).isOwner = true := hR.isOwner
  have hdr := kill_dropAll_owner used ho hnr
  obtain ⟨c', rfl, hvo⟩ := hv
  obtain ⟨row, T0, hr1, hr2⟩ := hrow
  obtain ⟨w', k1, k2, k3, k4, k5, k6, k7⟩ := (hC.types T _ hT).storeVar hr1 hr2 hvo.len hvo.one
  have hbS : S r b := (hP.blk b rfl).elim (hR.sub b) hR.isB
  have hF : ∀ k, F k → w'.heap[k]? = w.heap[k]? := fun k hk => k3 k (fun e => (hi.sb r b hbS).2.2 (e ▸ hk))
  have hvo' : Own F w' σ μ' S1 c' y := hvo.congr hF (fun k hk => k3 k (hS1 k hk).2.2.2)
  have hnF : ∀ k, S1 k → ¬ F k := by
    intro k hk
    rcases (hS1 k hk).2.2.1 with h | ⟨t, _, h⟩
    · exact (hi.sb r k h).2.2
    · exact (hi.sb t k h).2.2
  obtain ⟨cs2, g1, g2⟩ := hP.plug F w' b off S1 c' μ' m' y x' rfl (fun _ h => h) (fun k hk => ⟨fun h => (hi.sb r k (hR.sub k h)).2.2 hk, fun h => (hi.sb r k (hR.isB h)).2.2 hk⟩)
    (fun k _ hne => k3 k hne) (fun k _ hne => k3 k hne) k2 hvo' (fun k hk => ⟨(hS1 k hk).1, hnF k hk, (hS1 k hk).2.2.2, (hS1 k hk).2.1⟩) hm hset
  refine ⟨w', k1, F, fun t => if t = r then (fun k => ((S0 k ∧ ¬ S' k) ∨ S1 k) ∨ pl.isB k) else if t ∈ used then none' else S t, ?_⟩
  have hset2 := hi2.setRoot (r := r) (by rw [hdr]; exact ho) (w' := w') (Sr := fun k => ((S0 k ∧ ¬ S' k) ∨ S1 k) ∨ pl.isB k) (E := reown (env r) τ m' x') (by unfold reown; split <;> rfl)
    k5 k6 k7 (by omega) (fun k hk hH => k3 k (fun e => by subst e; exact (hi.sb r k hbS).1.elim (fun h => by omega) hH))
    (by
      rintro k (hk | ⟨t, ht, hk⟩)
      · exact hF k hk
      · refine k3 k (fun e => ?_)
        subst e
        split at hk
        · exact hk
        · exact hi.sd t r ht k hk hbS)
    (by
      intro k hk
      have hk2 : S r k ∨ SL S used k := by
        rcases hk with (hk | hk) | hk
        · exact .inl (hR.sub k hk.1)
        · exact (hS1 k hk).2.2.1
        · exact .inl (hR.isB hk)
      rcases hk2 with h | ⟨u, hu, h⟩
      · obtain ⟨q1, q2, q3⟩ := hi.sb r k h
        refine ⟨q1, by omega, q3, fun t ht hk => ?_⟩
        split at hk
        · exact hk
        · exact hi.sd t r ht k hk h
      · obtain ⟨q1, q2, q3⟩ := hi.sb u k h
        refine ⟨q1, by omega, q3, fun t ht hk => ?_⟩
        split at hk
        · exact hk
        · rename_i htu
          exact hi.sd t u (fun e => htu (e ▸ hu)) k hk h)
    (by
      rcases hR.1 with ⟨hE, hpl, hs, hvv⟩ | ⟨hE, b0, hpl, hs, hvv, hb0⟩
      · rw [hE]
        subst hpl
        have hcs : cs = cs2 := g1
        subst hcs
        simp only [reown, EntOK, if_true]
        refine ⟨.val cs, _, cs, .inl ⟨rfl, rfl, rfl, hvv⟩, rfl, g2.mono (fun _ h => h) (fun k hk => .inl hk)⟩
      · rw [hE]
        subst hpl
        simp only [reown, EntOK, if_true]
        refine ⟨.mem b0 0, _, cs2, .inr ⟨rfl, b0, rfl, ?_, hvv, .inr rfl⟩, g1, g2⟩
        funext k
        apply propext
        constructor
        · intro h
          exact ⟨.inl h, fun e => by subst e; exact g1.1 h⟩
        · rintro ⟨h | h, hne⟩
          · exact h
          · exact absurd h hne)
  exact hset2

theorem keepE_cases (r : Nat) (τ : Ty) (e : Ent) : keepE r τ e = .dead ∨ (keepE r τ e = e ∧ (e.root ≠ some r ∨ (∃ q, e = .addr r q) ∨ ∃ q, e = .sub r q ∧ slAt q τ = true)) := by
  unfold keepE
  split
  · rename_i r' q
    right
    refine ⟨rfl, ?_⟩
    by_cases h : r' = r
    · subst h; exact .inr (.inl ⟨q, rfl⟩)
    · left; simp [Ent.root, h]
  · rename_i r' q
    by_cases h : r' = r
    · subst h
      rw [Nat.beq_refl]
      cases hs : slAt q τ
      · left; rfl
      · right; exact ⟨rfl, .inr (.inr ⟨q, rfl, hs⟩)⟩
    · right
      rw [nbeq_ne h]
      exact ⟨rfl, .inl (by simp [Ent.root, h])⟩
  · unfold killE
    cases h : e.root with
    | none => right; simp
    | some r' =>
      by_cases e' : r' = r
      · left; simp [e']
      · right
        simp [nbeq_ne e', e']
theorem keepE_owner {r : Nat} {τ : Ty} {e : Ent} (h : e.isOwner = true) : keepE r τ e = e := by
  cases e <;> first | rfl | cases h
theorem killE_same {r : Nat} {e : Ent} (h : e.root ≠ some r) : killE r e = e := by
  unfold killE
  cases h' : e.root with
  | none => rfl
  | some r' =>
    have : r' ≠ r := fun e => h (by rw [h', e])
    simp [nbeq_ne this]

theorem getP_ty : ∀ (p : Path) (τ : Ty) (x x' : τ.den), (getP p τ x).isSome = true → (getP p τ x').isSome = true
  | [], _, _, _, _ => rfl
  | .fst :: p, .prod a _, x, x', h => getP_ty p a x.1 x'.1 h
  | .snd :: p, .prod _ b, x, x', h => getP_ty p b x.2 x'.2 h
  | .idx i :: p, .slice e, x, x', h => getP_ty p e _ _ h
  | .idx i :: p, .arr _ e, x, x', h => getP_ty p e _ _ h
  | .fst :: _, .int _, _, _, h => h
  | .fst :: _, .bool, _, _, h => h
  | .fst :: _, .str, _, _, h => h
  | .fst :: _, .unit, _, _, h => h
  | .fst :: _, .slice _, _, _, h => h
  | .fst :: _, .arr _ _, _, _, h => h
  | .snd :: _, .int _, _, _, h => h
  | .snd :: _, .bool, _, _, h => h
  | .snd :: _, .str, _, _, h => h
  | .snd :: _, .unit, _, _, h => h
  | .snd :: _, .slice _, _, _, h => h
  | .snd :: _, .arr _ _, _, _, h => h
  | .idx _ :: _, .int _, _, _, h => h
  | .idx _ :: _, .bool, _, _, h => h
  | .idx _ :: _, .str, _, _, h => h
  | .idx _ :: _, .unit, _, _, h => h
  | .idx _ :: _, .prod _ _, _, _, h => h

theorem slAt_slice : ∀ (p : Path) (τ : Ty) (x : τ.den) {σ : Ty} {y : σ.den}, slAt p τ = true → getP p τ x = some ⟨σ, y⟩ → ∃ e, σ = .slice e
  | [], .slice e, x, σ, y, h, hg => by
    simp only [getP, Option.some.injEq, Sigma.mk.injEq] at hg
    exact ⟨e, hg.1.symm⟩
  | .fst :: p, .prod a _, x, _, _, h, hg => slAt_slice p a x.1 h hg
  | .snd :: p, .prod _ b, x, _, _, h, hg => slAt_slice p b x.2 h hg
  | .idx i :: p, .slice e, x, _, _, h, hg => slAt_slice p e _ h hg
  | .idx i :: p, .arr _ e, x, _, _, h, hg => slAt_slice p e _ h hg
  | [], .int _, _, _, _, h, _ => by cases h
  | [], .bool, _, _, _, h, _ => by cases h
  | [], .str, _, _, _, h, _ => by cases h
  | [], .unit, _, _, _, h, _ => by cases h
  | [], .prod _ _, _, _, _, h, _ => by cases h
  | [], .arr _ _, _, _, _, h, _ => by cases h
  | .fst :: _, .int _, _, _, _, h, _ => by cases h
  | .fst :: _, .bool, _, _, _, h, _ => by cases h
  | .fst :: _, .str, _, _, _, h, _ => by cases h
  | .fst :: _, .unit, _, _, _, h, _ => by cases h
  | .fst :: _, .slice _, _, _, _, h, _ => by cases h
  | .fst :: _, .arr _ _, _, _, _, h, _ => by cases h
  | .snd :: _, .int _, _, _, _, h, _ => by cases h
  | .snd :: _, .bool, _, _, _, h, _ => by cases h
  | .snd :: _, .str, _, _, _, h, _ => by cases h
  | .snd :: _, .unit, _, _, _, h, _ => by cases h
  | .snd :: _, .slice _, _, _, _, h, _ => by cases h
  | .snd :: _, .arr _ _, _, _, _, h, _ => by cases h
  | .idx _ :: _, .int _, _, _, _, h, _ => by cases h
  | .idx _ :: _, .bool, _, _, _, h, _ => by cases h
  | .idx _ :: _, .str, _, _, _, h, _ => by cases h
  | .idx _ :: _, .unit, _, _, _, h, _ => by cases h
  | .idx _ :: _, .prod _ _, _, _, _, h, _ => by cases h

theorem inR_scal {q : Path} {τ : Ty} {x x' : τ.den} (hs : τ.scal = true) (h : inR q τ x) : inR q τ x' := by
  cases q with
  | nil => trivial
  | cons a q =>
    exfalso
    cases τ with
    | int _ => cases a <;> exact h
    | bool => cases a <;> exact h
    | _ => cases hs

theorem inR_list {i j : Nat} {e : Ty} {xs : List e.den} {z : e.den} {q : Path} (hz : inR q e (xs.getD i e.dflt) → inR q e z) (h : j < xs.length ∧ inR q e (xs.getD j e.dflt)) :
    j < (xs.set i z).length ∧ inR q e ((xs.set i z).getD j e.dflt) := by
  refine ⟨by simpa using h.1, ?_⟩
  rw [List.getD_eq_getElem?_getD, List.getElem?_set]
  by_cases hij : i = j
  · subst hij
    rw [if_pos rfl, if_pos h.1]
    exact hz h.2
  · rw [if_neg hij, ← List.getD_eq_getElem?_getD]
    exact h.2
theorem inR_setP : ∀ (p q : Path) (τ : Ty) (x x' : τ.den) {σ : Ty} {y : σ.den}, σ.scal = true → setP p τ x σ y = some x' → inR q τ x → inR q τ x'
  | [], q, τ, x, x', σ, y, hs, h, hr => by
    simp only [setP] at h
    split at h
    · rename_i he
      subst he
      exact inR_scal hs hr
    · cases h
  | .fst :: p, q, .prod a b, x, x', σ, y, hs, h, hr => by
    simp only [setP, Option.map_eq_some_iff] at h
    obtain ⟨z, h1, rfl⟩ := h
    cases q with
    | nil => trivial
    | cons c q => cases c with
      | fst => exact inR_setP p q a x.1 z hs h1 hr
      | snd => exact hr
      | idx _ => exact hr
  | .snd :: p, q, .prod a b, x, x', σ, y, hs, h, hr => by
    simp only [setP, Option.map_eq_some_iff] at h
    obtain ⟨z, h1, rfl⟩ := h
    cases q with
    | nil => trivial
    | cons c q => cases c with
      | fst => exact hr
      | snd => exact inR_setP p q b x.2 z hs h1 hr
      | idx _ => exact hr
  | .idx i :: p, q, .slice e, xs, x', σ, y, hs, h, hr => by
    simp only [setP, Option.map_eq_some_iff] at h
    obtain ⟨z, h1, rfl⟩ := h
    cases q with
    | nil => trivial
    | cons c q => cases c with
      | fst => exact hr
      | snd => exact hr
      | idx j => exact inR_list (fun h => inR_setP p q e _ z hs h1 h) hr
  | .idx i :: p, q, .arr n e, xs, x', σ, y, hs, h, hr => by
    simp only [setP, Option.map_eq_some_iff] at h
    obtain ⟨z, h1, rfl⟩ := h
    cases q with
    | nil => trivial
    | cons c q => cases c with
      | fst => exact hr
      | snd => exact hr
      | idx j => exact inR_list (fun h => inR_setP p q e _ z hs h1 h) hr
  | .fst :: _, _, .int _, _, _, _, _, _, h, _ => by cases h
  | .fst :: _, _, .bool, _, _, _, _, _, h, _ => by cases h
  | .fst :: _, _, .str, _, _, _, _, _, h, _ => by cases h
  | .fst :: _, _, .unit, _, _, _, _, _, h, _ => by cases h
  | .fst :: _, _, .slice _, _, _, _, _, _, h, _ => by cases h
  | .fst :: _, _, .arr _ _, _, _, _, _, _, h, _ => by cases h
  | .snd :: _, _, .int _, _, _, _, _, _, h, _ => by cases h
  | .snd :: _, _, .bool, _, _, _, _, _, h, _ => by cases h
  | .snd :: _, _, .str, _, _, _, _, _, h, _ => by cases h
  | .snd :: _, _, .unit, _, _, _, _, _, h, _ => by cases h
  | .snd :: _, _, .slice _, _, _, _, _, _, h, _ => by cases h
  | .snd :: _, _, .arr _ _, _, _, _, _, _, h, _ => by cases h
  | .idx _ :: _, _, .int _, _, _, _, _, _, h, _ => by cases h
  | .idx _ :: _, _, .bool, _, _, _, _, _, h, _ => by cases h
  | .idx _ :: _, _, .str, _, _, _, _, _, h, _ => by cases h
  | .idx _ :: _, _, .unit, _, _, _, _, _, h, _ => by cases h
  | .idx _ :: _, _, .prod _ _, _, _, _, _, _, h, _ => by cases h

/-- The slices stay where they are. -/
def SK (w w' : World) : Prop := ∀ (pl : Place) ao n c, pl.read w 1 = some [.slice ao n c] → pl.read w' 1 = some [.slice ao n c]
theorem SK.of_upd {w w' : World} {b off : Nat} {c' : List Value} {row : Array Value} {T0 : TypeId} {v : Value} (hu : Upd w w' b off 1 c') (ho : ∀ k, k ≠ b → w'.heap[k]? = w.heap[k]?)
    (hr : w.heap[b]? = some (.cells row T0 (0, 0))) (hs : seg row.toList off 1 = [v]) (hv : ∀ ao n c, v ≠ .slice ao n c) : SK w w' := by
  intro pl ao n c h
  cases pl with
  | val cs => exact h
  | mem k o =>
    by_cases hk : k = b
    · subst hk
      obtain ⟨hl, row1, row', T, h1, h2, h3, h4⟩ := hu
      rw [hr] at h1
      injection h1 with h1; injection h1 with h1; subst h1
      simp only [Place.read, hr] at h
      split at h
      · rename_i hle
        injection h with h
        have hlen : row'.size = row.size := by
          have := congrArg List.length h4
          simp at this; omega
        simp only [Place.read, h2]
        rw [if_pos (by omega)]
        have hne : o ≠ off := by
          rintro rfl
          rw [hs] at h
          injection h with h _
          exact hv _ _ _ h
        have : seg row'.toList o 1 = seg row.toList o 1 := by
          rw [h4]
          exact seg_upd_out _ _ _ _ hl (by simpa using h3) _ _ (by simpa using hle) (by omega)
        rw [this, h]
      · cases h
    · simp only [Place.read] at h ⊢
      rw [ho k hk]; exact h
theorem loc_keep {w w' : World} (h : SK w w') : ∀ (p : Path) (τ : Ty) (pl : Place) {y : Ty × Place}, loc w p τ pl = some y → loc w' p τ pl = some y
  | [], _, _, _, he => he
  | .fst :: p, .prod a _, pl, _, he => loc_keep h p a _ he
  | .snd :: p, .prod a b, pl, _, he => loc_keep h p b _ he
  | .idx i :: p, .slice e, pl, _, he => by
    simp only [loc] at he ⊢
    split at he
    · rename_i b off len c hr
      rw [h pl _ _ _ hr]
      simp only []
      split at he
      · rename_i hi
        rw [if_pos hi]
        exact loc_keep h p e _ he
      · cases he
    · cases he
  | .idx i :: p, .arr n e, pl, _, he => by
    simp only [loc] at he ⊢
    split at he
    · rename_i hi
      rw [if_pos hi]
      exact loc_keep h p e _ he
    · cases he
  | .fst :: _, .int _, _, _, he => by simp [loc] at he
  | .fst :: _, .bool, _, _, he => by simp [loc] at he
  | .fst :: _, .str, _, _, he => by simp [loc] at he
  | .fst :: _, .unit, _, _, he => by simp [loc] at he
  | .fst :: _, .slice _, _, _, he => by simp [loc] at he
  | .fst :: _, .arr _ _, _, _, he => by simp [loc] at he
  | .snd :: _, .int _, _, _, he => by simp [loc] at he
  | .snd :: _, .bool, _, _, he => by simp [loc] at he
  | .snd :: _, .str, _, _, he => by simp [loc] at he
  | .snd :: _, .unit, _, _, he => by simp [loc] at he
  | .snd :: _, .slice _, _, _, he => by simp [loc] at he
  | .snd :: _, .arr _ _, _, _, he => by simp [loc] at he
  | .idx _ :: _, .int _, _, _, he => by simp [loc] at he
  | .idx _ :: _, .bool, _, _, he => by simp [loc] at he
  | .idx _ :: _, .str, _, _, he => by simp [loc] at he
  | .idx _ :: _, .unit, _, _, he => by simp [loc] at he
  | .idx _ :: _, .prod _ _, _, _, he => by simp [loc] at he
theorem Own.scal {F : NSet} {w : World} {σ : Ty} {μ : Md} {S : NSet} {cs : List Value} {y : σ.den} (hs : σ.scal = true) (h : Own F w σ μ S cs y) : σ.size = 1 ∧ ∃ v, cs = [v] ∧ ∀ ao n c, v ≠ .slice ao n c := by
  cases σ with
  | int k => exact ⟨rfl, _, h.1, fun _ _ _ h => by cases h⟩
  | bool => exact ⟨rfl, _, h, fun _ _ _ h => by cases h⟩
  | _ => cases hs

/-- A number is stored: the aliases of slices and the addresses stay. -/
theorem store_scal (hC : CtxOK P C) (hi : Inv0 P N w0 F0 H env a w F S) {r : Nat} {p : Path} {τ : Ty} {m : Md} {x x' : τ.den} {pl : Place} {S0 S' : NSet} {cs cs1 : List Value} {σ : Ty} {μ : Md} {b off : Nat} {y y1 : σ.den} {T : TypeId} {S1 : NSet} {v : Value}
    (hT : look C.tys T = some σ) (hR : Root F w (S r) (a.tmps.getD r undef) (env r) τ m x pl S0 cs) (hf : Focus F w τ m S0 pl x p σ y1 μ (.mem b off) cs1 S') (hs : σ.scal = true)
    (hv : OwnV F w σ μ S1 v y) (hset : setP p τ x σ y = some x') :
    ∃ w', (storeVar T ⟨b, off, none⟩ v).run P w = .ok () w' ∧ Inv P N w0 F0 H (upd (keepS env r τ) r (reown (env r) τ m x')) a w' := by
  have hP := hf.toPlug
  have ho : (env r).isOwner = true := hR.isOwner
  obtain ⟨c', rfl, hvo0⟩ := hv
  have hvo1 : Own F w σ μ none' c' y := Own.flat (by cases σ <;> first | rfl | cases hs) hvo0
  obtain ⟨q1, q2, row, T0, hr1, hr2, hr3⟩ := hf.ok
  obtain ⟨w', k1, k2, k3, k4, k5, k6, k7⟩ := (hC.types T _ hT).storeVar hr1 hr2 hvo1.len hvo1.one
  have hbS : S r b := (hP.blk b rfl).elim (hR.sub b) hR.isB
  have hF : ∀ k, F k → w'.heap[k]? = w.heap[k]? := fun k hk => k3 k (fun e => (hi.sb r b hbS).2.2 (e ▸ hk))
  have hvo' : Own F w' σ μ none' c' y := hvo1.congr hF (fun k hk => hk.elim)
  have hm : μ = μ ∧ m = m ∨ setM p τ m μ = some m := .inl ⟨rfl, rfl⟩
  obtain ⟨hz, v1, hv1, hv2⟩ := hf.own.scal hs
  have hsk : SK w w' := SK.of_upd (hz ▸ k2) k3 hr1 (by rw [hz] at hr3; rw [hr3, hv1]) hv2
  obtain ⟨cs2, g1, g2⟩ := hP.plug F w' b off none' c' μ m y x' rfl (fun _ h => h) (fun k hk => ⟨fun h => (hi.sb r k (hR.sub k h)).2.2 hk, fun h => (hi.sb r k (hR.isB h)).2.2 hk⟩)
    (fun k _ hne => k3 k hne) (fun k _ hne => k3 k hne) k2 hvo' (fun k hk => hk.elim) hm hset
  have hroot : ∃ S0', Root F w' (fun k => ((S0 k ∧ ¬ S' k) ∨ none' k) ∨ pl.isB k) (a.tmps.getD r undef) (reown (env r) τ m x') τ m x' pl S0' cs2 := by
    rcases hR.1 with ⟨hE, hpl, hs, hvv⟩ | ⟨hE, b0, hpl, hs, hvv, hb0⟩
    · rw [hE]
      subst hpl
      have hcs : cs = cs2 := g1
      subst hcs
      simp only [reown]
      exact ⟨_, .inl ⟨rfl, rfl, rfl, hvv⟩, rfl, g2.mono (fun _ h => h) (fun k hk => .inl hk)⟩
    · rw [hE]
      subst hpl
      simp only [reown]
      refine ⟨_, .inr ⟨rfl, b0, rfl, ?_, hvv, .inr rfl⟩, g1, g2⟩
      funext k
      apply propext
      constructor
      · intro h
        exact ⟨.inl h, fun e => by subst e; exact g1.1 h⟩
      · rintro ⟨h | h, hne⟩
        · exact h
        · exact absurd h hne
  obtain ⟨S0', hroot⟩ := hroot
  have hE : (reown (env r) τ m x').isOwner = true := by unfold reown; split <;> rfl
  have hset2 := hi.setRoot (r := r) ho (w' := w') (Sr := fun k => ((S0 k ∧ ¬ S' k) ∨ none' k) ∨ pl.isB k) (E := reown (env r) τ m x') hE
    k5 k6 k7 (by omega) (fun k hk hH => k3 k (fun e => by subst e; exact (hi.sb r k hbS).1.elim (fun h => by omega) hH))
    (by
      rintro k (hk | ⟨t, ht, hk⟩)
      · exact hF k hk
      · refine k3 k (fun e => ?_)
        subst e
        exact hi.sd t r ht k hk hbS)
    (by
      intro k hk
      have hk2 : S r k := by
        rcases hk with (hk | hk) | hk
        · exact hR.sub k hk.1
        · exact hk.elim
        · exact hR.isB hk
      obtain ⟨q1, q2, q3⟩ := hi.sb r k hk2
      exact ⟨q1, by omega, q3, fun t ht hk => hi.sd t r ht k hk hk2⟩)
    (by
      have : EntOK P F w' (upd (kill env r) r (reown (env r) τ m x')) (fun t => a.tmps.getD t undef) (fun t => if t = r then (fun k => ((S0 k ∧ ¬ S' k) ∨ none' k) ∨ pl.isB k) else S t) r (reown (env r) τ m x') := by
        rcases hR.1 with ⟨hE, _⟩ | ⟨hE, _⟩
        · rw [hE] at hroot ⊢
          simp only [reown, EntOK, if_true] at hroot ⊢
          exact ⟨pl, _, cs2, hroot⟩
        · rw [hE] at hroot ⊢
          simp only [reown, EntOK, if_true] at hroot ⊢
          exact ⟨pl, _, cs2, hroot⟩
      exact this)
  refine ⟨w', k1, F, fun t => if t = r then (fun k => ((S0 k ∧ ¬ S' k) ∨ none' k) ∨ pl.isB k) else S t, ?_⟩
  refine { hset2 with ent := ?_ }
  intro t
  by_cases htr : t = r
  · subst htr
    have := hset2.ent t
    rw [upd_same] at this ⊢
    rcases hR.1 with ⟨hE', _⟩ | ⟨hE', _⟩
    · rw [hE'] at this hroot ⊢
      simp only [reown, EntOK, if_true] at this hroot ⊢
      exact this
    · rw [hE'] at this hroot ⊢
      simp only [reown, EntOK, if_true] at this hroot ⊢
      exact this
  · rw [upd_ne _ _ htr]
    show EntOK _ _ _ _ _ _ t (keepE r τ (env t))
    rcases keepE_cases r τ (env t) with h | ⟨h, h2⟩
    · rw [h]; trivial
    · rw [h]
      rcases h2 with h2 | ⟨q, h2⟩ | ⟨q, h2, hq⟩
      · have h3 := hset2.ent t
        rw [upd_ne _ _ htr] at h3
        have h4 : kill env r t = env t := killE_same h2
        rw [h4] at h3
        refine EntOK.keep (fun _ h => h) (fun b _ => rfl) rfl ?_ ?_ h3
        · intro u hu
          have hur : u ≠ r := fun e => h2 (e ▸ hu)
          refine ⟨fun ho => ?_, fun _ => rfl, rfl, fun b hb => rfl, fun b h1 h2 => absurd h1 h2, fun b hb => (hset2.sb u b hb).2.2⟩
          rw [upd_ne _ _ hur] at ho ⊢
          rw [upd_ne _ _ hur]
          rcases kill_cases env r u with h5 | ⟨h5, _⟩
          · rw [h5] at ho; cases ho
          · rw [h5] at ho ⊢
            exact keepE_owner ho
        · intro _
          exact ⟨rfl, fun b hb => rfl, fun b h1 h2 => absurd h1 h2⟩
      · have h3 := hi.ent t
        rw [h2] at h3 ⊢
        simp only [EntOK] at h3 ⊢
        obtain ⟨τ1, m1, x1, pl1, S01, cs1', σ1, μ1, b1, off1, e1, e2, e3, e4, e5, e6⟩ := h3
        obtain ⟨f1, f2, f3, f4⟩ := e1.uniq hR
        injection f1 with f5 f6
        subst f5; cases f6; subst f2; subst f3; subst f4
        refine ⟨τ1, m1, x', pl1, S0', cs2, σ1, μ1, b1, off1, ?_, loc_keep hsk _ _ _ e2, e3, getP_ty _ _ _ _ e4, e5, inR_setP _ _ _ _ _ hs hset e6⟩
        simp only [if_true, upd_same]
        exact hroot
      · have h3 := hi.ent t
        rw [h2] at h3 ⊢
        simp only [EntOK] at h3 ⊢
        obtain ⟨τ1, m1, x1, pl1, S01, cs1', σ1, μ1, pl', cs', e1, e2, e3, e4, e5, e6, e7⟩ := h3
        obtain ⟨f1, f2, f3, f4⟩ := e1.uniq hR
        injection f1 with f5 f6
        subst f5; cases f6; subst f2; subst f3; subst f4
        cases hg : getP q τ1 x1 with
        | none => rw [hg] at e5; cases e5
        | some g =>
          obtain ⟨σ2, y2⟩ := g
          obtain ⟨e, rfl⟩ := slAt_slice q τ1 x1 hq hg
          obtain ⟨pl3, cs3, S3, f⟩ := focus q (fun k hk => (hi.sb _ k (hR.sub k hk)).2.2) hR.2.2 hR.2.1 hg e6 e7
          have e8 := f.loc.symm.trans e2
          simp only [Option.some.injEq, Prod.mk.injEq] at e8
          obtain ⟨e8, e9⟩ := e8
          subst e8; subst e9
          have e10 := f.ok.read.symm.trans e3
          simp only [Option.some.injEq] at e10; subst e10
          obtain ⟨ao, cap, hcs, _⟩ := f.own
          have hrd : pl3.read w' (Ty.slice e).size = some cs3 := by
            rw [hcs] at e3 ⊢
            exact hsk pl3 _ _ _ e3
          refine ⟨τ1, m1, x', pl1, S0', cs2, .slice e, μ1, pl3, cs3, ?_, loc_keep hsk _ _ _ e2, hrd, e4, getP_ty _ _ _ _ e5, e6, inR_setP _ _ _ _ _ hs hset e7⟩
          simp only [if_true, upd_same]
          exact hroot
end
end Go.Lf
namespace Go.Lf

structure Taken where
  τ : Ty
  m : Md
  x : τ.den
  t : Nat

/-- A value that may be taken over whole, and the owner that it is taken from. -/
def takeE (v : View) : Option Taken :=
  match v.e with
  | .own τ m x => match v.s with
    | some t => some ⟨τ, m, x, t⟩
    | none => none
  | .pend r _ e me x => some ⟨.slice e, .own me, x, r⟩
  | .sub r [] => match v.r with
    | .own τ m x => some ⟨τ, m, x, r⟩
    | _ => none
  | _ => none

def isSub : Ent → Bool
  | .sub _ _ => true
  | _ => false

def ownA (C : Ctx) (d : Nat) (st : St) (v : View) : Option (Prop × St) :=
  bif isSub v.e && isNone (look C.mds d) then none else match takeE v with
  | some k => some (True, put (drop st k.t) d (mkE C d k.τ k.m k.x))
  | none => none

def pureStp (C : Ctx) (st : St) (o : Oper) : Option (Prop × St) :=
  match o.dst, opE C o (viewO st) with
  | some d, some (c, e, l) => some (c, put (dropAll st l) d e)
  | _, _ => none

def appC (C : Ctx) (st : St) (o : Oper) (q : Call) : Option (Prop × St) :=
  match q.callee, q.args.toList, q.argTypes.toList, o.dst with
  | .builtin .append, [x, y], [T, T2], some d => bif wrB C d then appE C d st T T2 (viewO st x) (viewO st y) else none
  | _, _, _, _ => none

def stp (C : Ctx) (st : St) (o : Oper) : Option (Prop × St) :=
  match o.op with
  | .store T x v => bif isNone o.dst then storeE C st T (viewO st x) (viewO st v) else none
  | .assign x => match o.dst with
    | some d => match (bif wrB C d then ownA C d st (viewO st x) else none) with
      | some r => some r
      | none => pureStp C st o
    | none => none
  | .panic _ => some (False, st)
  | .call q => match appC C st o q with
    | some r => some r
    | none => pureStp C st o
  | _ => pureStp C st o

section
variable {P : Program} {C : Ctx} {N : NP} {w0 : World} {F0 H : NSet} {env : St} {a : Act} {w : World} {F : NSet} {S : Nat → NSet} {d : Nat}

theorem pend_ok (hi : Inv0 P N w0 F0 H env a w F S) {v : Value} {vw : View} (hv : ViewOK P F w env (fun t => a.tmps.getD t undef) S v vw) {r : Nat} {p : Path} {e : Ty} {me : Md} {x : List e.den} (he : vw.e = .pend r p e me x) :
    ∃ τ m z pl S0 cs y pl' S' Sp, Root F w (S r) (a.tmps.getD r undef) (env r) τ m z pl S0 cs ∧ Plug F w τ m S0 pl z p (.slice e) (.own me) pl' S' ∧
      getM p τ m = some (.own me) ∧ inR p τ z ∧ getP p τ z = some ⟨.slice e, y⟩ ∧ OwnV F w (.slice e) (.own me) Sp v x ∧ Sub Sp (S r) ∧ (∀ k, Sp k → ¬ (S0 k ∧ ¬ S' k) ∧ ¬ pl.isB k) := by
  have h1 := hv.ent (by rw [he]; rfl) (r + 1) (by rw [he]; simp [Ent.root])
  rw [he] at h1
  simp only [EntOK, if_true] at h1
  obtain ⟨τ0, m0, x0, pl, S0, cs, y, pl', S', Sp, cp, g1, g2, g3, g4, g5, g6, g7, g8, g9⟩ := h1
  simp only [show ¬ (r = r + 1) from by omega, if_false] at g1
  exact ⟨τ0, m0, x0, pl, S0, cs, y, pl', S', Sp, g1, g2, g3, g4, g5, ⟨cp, g6, g7⟩, g8, g9⟩

theorem takeE_ok (hi : Inv0 P N w0 F0 H env a w F S) {v : Value} {vw : View} (hv : ViewOK P F w env (fun t => a.tmps.getD t undef) S v vw) {k : Taken} (h : takeE vw = some k) :
    ∃ Sd, Sub Sd (S k.t) ∧ OwnV F w k.τ k.m Sd v k.x := by
  unfold takeE at h
  split at h
  · rename_i τ m x he
    split at h
    · rename_i t hs
      simp only [Option.some.injEq] at h
      subst h
      obtain ⟨t', g1, g2, rfl⟩ := hv.own (by rw [he]; rfl)
      rw [hs] at g1; injection g1 with g1; subst g1
      have h3 := hi.ent t
      rw [g2, he] at h3
      obtain ⟨pl, S0, cs, h3⟩ := h3
      obtain ⟨_, _, e3, e4, e5⟩ := h3.own_inj
      subst e4
      exact ⟨_, fun _ h => h, cs, e5, h3.2.2⟩
    · cases h
  · rename_i r p e me x he
    simp only [Option.some.injEq] at h
    subst h
    obtain ⟨τ, m, z, pl, S0, cs, y, pl', S', Sp, g1, g2, g3, g4, g5, g6, g7, g8⟩ := pend_ok hi hv he
    exact ⟨Sp, g7, g6⟩
  · rename_i r he
    split at h
    · rename_i τ m x hr
      simp only [Option.some.injEq] at h
      subst h
      have h2 := hv.ent (by rw [he]; rfl) (r + 1) (by rw [he]; simp [Ent.root])
      rw [he] at h2
      simp only [EntOK, if_true] at h2
      obtain ⟨τ0, m0, x0, pl, S0, cs, σ', μ, pl', cs', g1, g2, g3, g4, g5, g6, g7⟩ := h2
      simp only [show ¬ (r = r + 1) from by omega, if_false] at g1
      have hroot := hv.root
      rw [he] at hroot
      simp only [rootE, Ent.root] at hroot
      rw [← hroot, hr] at g1
      obtain ⟨e1, e2, e3, e4, e5⟩ := g1.own_inj
      injection e1 with e6 e7
      subst e6; cases e7; subst e2; subst e3; subst e4
      simp only [loc, Option.some.injEq, Prod.mk.injEq] at g2
      obtain ⟨rfl, rfl⟩ := g2
      simp only [Place.read, Option.some.injEq] at g3
      subst g3
      exact ⟨_, fun _ h => h, cs, g4, g1.2.2⟩
    · cases h
  · cases h

theorem Inv0.takeOver (hi : Inv0 P N w0 F0 H env a w F S) {t : Nat} {τ : Ty} {m : Md} {x : τ.den} {v : Value} {Sd : NSet} (hd : Wr N d) (hs : Sub Sd (S t)) (hv : OwnV F w τ m Sd v x) :
    ∃ F2 S2, Inv0 P N w0 F0 H (Go.Lf.put (Go.Lf.drop env t) d (mkE C d τ m x)) (a.put (some d) v) w F2 S2 := by
  refine (hi.drop t).putNew hd (RowKit.Below.refl _ _) (fun _ h => h) hi.fb (fun b h1 h2 => absurd h1 h2) ?_ hv
  intro b hb
  obtain ⟨h1, h2, h3⟩ := hi.sb t b (hs b hb)
  refine ⟨h1, h2, h3, fun u hu => ?_⟩
  by_cases h : u = t
  · simp [h] at hu; exact hu
  · simp only [h, if_false] at hu
    exact hi.sd u t h b hu (hs b hb)

theorem ownA_ok (hi : Inv0 P C.np w0 F0 H env a w F S) (hd : Wr C.np d) {v : Value} {vw : View} (hv : ViewOK P F w env (fun t => a.tmps.getD t undef) S v vw) {c : Prop} {st' : St} (h : ownA C d env vw = some (c, st')) :
    Inv P C.np w0 F0 H st' (a.put (some d) v) w := by
  unfold ownA at h
  cases hb : (isSub vw.e && isNone (look C.mds d))
  · rw [hb] at h
    simp only [cond_false] at h
    split at h
    · rename_i k hk
      simp only [Option.some.injEq, Prod.mk.injEq] at h
      obtain ⟨_, rfl⟩ := h
      obtain ⟨Sd, g1, g2⟩ := takeE_ok hi hv hk
      exact hi.takeOver hd g1 g2
    · cases h
  · rw [hb] at h; cases h

theorem valS_ok (hi : Inv0 P N w0 F0 H env a w F S) {v : Value} {vw : View} (hv : ViewOK P F w env (fun t => a.tmps.getD t undef) S v vw) {σ : Ty} {μ μ' : Md} {l : Al} {y : σ.den} {u : List Nat}
    (h : valS σ μ l vw = some (y, μ', u, false)) : (u = [] ∧ OwnV F w σ μ' none' v y) ∨ ∃ t, u = [t] ∧ OwnV F w σ μ' (S t) v y := by
  have hsh : ∀ {y : σ.den}, vw.shrAs σ = some y → OwnV F w σ (bif σ.flat then μ else .shr) none' v y := by
    intro y hy
    have := shrAs_ok hi hv hy
    cases hf : σ.flat
    · exact this
    · exact OwnV.flat hf this
  unfold valS at h
  split at h
  · rename_i he
    split at h
    · rename_i z hz
      simp only [Option.some.injEq, Prod.mk.injEq] at h
      obtain ⟨rfl, rfl, rfl, _⟩ := h
      have := ownAs_ok (e := σ) (m := μ) (x := z) (l := []) hi hv (by unfold View.ownAs; rw [he]; simp [hz])
      rcases this with ⟨_, h⟩ | ⟨t, h, _⟩
      · exact .inl ⟨rfl, h⟩
      · cases h
    · split at h
      · rename_i z hz
        simp only [Option.some.injEq, Prod.mk.injEq] at h
        obtain ⟨rfl, rfl, rfl, _⟩ := h
        exact .inl ⟨rfl, shrAs_ok hi hv (by unfold View.shrAs; rw [he]; exact hz)⟩
      · cases h
  · split at h
    · rename_i z u' hz
      simp only [Option.some.injEq, Prod.mk.injEq] at h
      obtain ⟨rfl, rfl, rfl, _⟩ := h
      exact ownAs_ok hi hv hz
    · cases h
  · rename_i r he
    split at h
    · split at h
      · rename_i z hz
        simp only [Option.some.injEq, Prod.mk.injEq] at h
        obtain ⟨rfl, rfl, rfl, _⟩ := h
        have hfl : σ.flat = true := by
          unfold View.shrAs at hz
          rw [he] at hz
          simp only [] at hz
          cases hf : σ.flat
          · rw [hf] at hz; cases hz
          · rfl
        exact .inl ⟨rfl, OwnV.flat hfl (shrAs_ok hi hv hz)⟩
      · split at h
        · rename_i z u' hz
          simp only [Option.some.injEq, Prod.mk.injEq] at h
          obtain ⟨rfl, rfl, rfl, _⟩ := h
          exact ownR_ok hi hv hz
        · cases h
    · split at h
      · rename_i z hz
        simp only [Option.some.injEq, Prod.mk.injEq] at h
        obtain ⟨rfl, rfl, rfl, _⟩ := h
        have hfl : σ.flat = true := by
          unfold View.shrAs at hz
          rw [he] at hz
          simp only [] at hz
          cases hf : σ.flat
          · rw [hf] at hz; cases hz
          · rfl
        exact .inl ⟨rfl, OwnV.flat hfl (shrAs_ok hi hv hz)⟩
      · split at h
        · rename_i z u' hz
          simp only [Option.some.injEq, Prod.mk.injEq] at h
          obtain ⟨rfl, rfl, rfl, _⟩ := h
          exact ownR_ok hi hv hz
        · cases h
    · split at h
      · rename_i z hz
        simp only [Option.some.injEq, Prod.mk.injEq] at h
        obtain ⟨rfl, rfl, rfl, _⟩ := h
        exact .inl ⟨rfl, hsh hz⟩
      · cases h
  · rename_i r p e me x he
    cases hb : (Nat.beq r l.r && decide (μ = .own me))
    · rw [hb] at h; cases h
    · rw [hb] at h
      simp only [cond_true] at h
      split at h
      · simp only [Option.some.injEq, Prod.mk.injEq] at h
        obtain ⟨_, _, _, h⟩ := h
        cases h
      · cases h
  · split at h
    · rename_i z hz
      simp only [Option.some.injEq, Prod.mk.injEq] at h
      obtain ⟨rfl, rfl, rfl, _⟩ := h
      exact .inl ⟨rfl, hsh hz⟩
    · cases h

theorem valS_pend {vw : View} {σ : Ty} {μ μ' : Md} {l : Al} {y : σ.den} {u : List Nat} (h : valS σ μ l vw = some (y, μ', u, true)) :
    ∃ p e me x, vw.e = .pend l.r p e me x ∧ μ = .own me ∧ μ' = μ ∧ u = [] ∧ (⟨.slice e, x⟩ : Σ τ : Ty, τ.den) = ⟨σ, y⟩ := by
  unfold valS at h
  split at h
  · split at h
    · simp only [Option.some.injEq, Prod.mk.injEq] at h; obtain ⟨_, _, _, h⟩ := h; cases h
    · split at h
      · simp only [Option.some.injEq, Prod.mk.injEq] at h; obtain ⟨_, _, _, h⟩ := h; cases h
      · cases h
  · split at h
    · simp only [Option.some.injEq, Prod.mk.injEq] at h; obtain ⟨_, _, _, h⟩ := h; cases h
    · cases h
  · split at h
    · split at h
      · simp only [Option.some.injEq, Prod.mk.injEq] at h; obtain ⟨_, _, _, h⟩ := h; cases h
      · split at h
        · simp only [Option.some.injEq, Prod.mk.injEq] at h; obtain ⟨_, _, _, h⟩ := h; cases h
        · cases h
    · split at h
      · simp only [Option.some.injEq, Prod.mk.injEq] at h; obtain ⟨_, _, _, h⟩ := h; cases h
      · split at h
        · simp only [Option.some.injEq, Prod.mk.injEq] at h; obtain ⟨_, _, _, h⟩ := h; cases h
        · cases h
    · split at h
      · simp only [Option.some.injEq, Prod.mk.injEq] at h; obtain ⟨_, _, _, h⟩ := h; cases h
      · cases h
  · rename_i r p e me x he
    cases hb : (Nat.beq r l.r && decide (μ = .own me))
    · rw [hb] at h; cases h
    · rw [hb] at h
      simp only [cond_true] at h
      simp only [Bool.and_eq_true, nbeq_iff, decide_eq_true_eq] at hb
      obtain ⟨h1, h3⟩ := hb
      split at h
      · rename_i z hz
        simp only [Option.some.injEq, Prod.mk.injEq] at h
        obtain ⟨rfl, rfl, rfl, _⟩ := h
        exact ⟨p, e, me, x, by rw [he, h1], h3, rfl, rfl, castD_some hz⟩
      · cases h
  · split at h
    · simp only [Option.some.injEq, Prod.mk.injEq] at h; obtain ⟨_, _, _, h⟩ := h; cases h
    · cases h

theorem storeE_ok (hC : CtxOK P C) (hi : Inv0 P N w0 F0 H env a w F S) {T : TypeId} {x z : Operand} {o : Oper} (ho : o.op = .store T x z) (hod : o.dst = none) {vx vz : View}
    (hx : ViewOK P F w env (fun t => a.tmps.getD t undef) S (a.eval x) vx) (hz : ViewOK P F w env (fun t => a.tmps.getD t undef) S (a.eval z) vz)
    {c : Prop} {st' : St} (h : storeE C env T vx vz = some (c, st')) (hc : c) {K : Act → World → Prop} {Q : Exit → Act → World → Prop} (hK : ∀ a' w', Inv P N w0 F0 H st' a' w' → K a' w') : o.wp P a w K Q := by
  unfold storeE at h
  split at h
  · rename_i l hl
    obtain ⟨σ, y0, μ, pl, S0, cs, b, off, hA, hv⟩ := addr?_ok hi hx hl
    rw [hA.get, hA.mode] at h
    simp only [] at h
    cases hT : decide (look C.tys T = some σ)
    · rw [hT] at h; cases h
    have hT' := of_decide_eq_true hT
    rw [hT] at h
    simp only [cond_true] at h
    split at h
    · rename_i y μ' used isP hvs
      split at h
      · rename_i x' m' hset hmode
        cases hn : nodupN (l.r :: used)
        · rw [hn] at h; cases h
        rw [hn] at h
        simp only [cond_true, Option.some.injEq, Prod.mk.injEq] at h
        obtain ⟨rfl, rfl⟩ := h
        have hm : μ' = μ ∧ m' = l.m ∨ setM l.p l.τ l.m μ' = some m' := by
          unfold modeS at hmode
          cases hd : decide (μ' = μ)
          · rw [hd] at hmode; exact .inr hmode
          · rw [hd] at hmode
            simp only [cond_true, Option.some.injEq] at hmode
            exact .inl ⟨of_decide_eq_true hd, hmode.symm⟩
        obtain ⟨cs2, S', f⟩ := hA.focus (fun b hb => (hi.sb _ b hb).2.2)
        obtain ⟨q1, q2, row, T0, q3, q4, q5⟩ := f.ok
        have fin : ∀ w', (storeVar T ⟨b, off, none⟩ (a.eval z)).run P w = .ok () w' → (execOp a.eval o).run P w = .ok .skip w' := by
          intro w' hw'
          simp [execOp, ho, Instr.storeAt, hv, Instr.sureAddr, hw']
        cases hfl : flatS σ μ μ' used with
        | true =>
          rw [hfl] at hK
          simp only [cond_true] at hK
          unfold flatS at hfl
          simp only [Bool.and_eq_true, decide_eq_true_eq, List.isEmpty_iff] at hfl
          obtain ⟨⟨hs, rfl⟩, rfl⟩ := hfl
          have hm' : m' = l.m := by
            unfold modeS at hmode
            rw [decide_eq_true rfl] at hmode
            simp only [cond_true, Option.some.injEq] at hmode; exact hmode.symm
          subst hm'
          cases isP with
          | true =>
            obtain ⟨pp, e, me, xs, he, h1, h2, h3, h4⟩ := valS_pend hvs
            injection h4 with h5 _
            subst h5; cases hs
          | false =>
            have hval := valS_ok hi hz hvs
            have hown : ∃ S1, OwnV F w σ μ' S1 (a.eval z) y := by
              rcases hval with ⟨_, h⟩ | ⟨t, h0, h⟩
              · exact ⟨none', h⟩
              · cases h0
            obtain ⟨S1, k2⟩ := hown
            obtain ⟨w', g1, g2⟩ := store_scal hC hi hT' hA.root f hs k2 hset
            unfold Oper.wp
            rw [fin w' g1, Oper.upon_skip, hod]
            exact hK a w' g2
        | false =>
        rw [hfl] at hK
        simp only [cond_false] at hK
        have goal : ∀ w', (storeVar T ⟨b, off, none⟩ (a.eval z)).run P w = .ok () w' → Inv P N w0 F0 H (upd (kill (dropAll env used) l.r) l.r (reown (env l.r) l.τ m' x')) a w' → o.wp P a w K Q := by
          intro w' hw' hinv
          unfold Oper.wp
          rw [fin w' hw', Oper.upon_skip, hod]
          exact hK a w' hinv
        have hbS : S l.r b := (f.blk b rfl).elim (hA.root.sub b) hA.root.isB
        cases isP with
        | false =>
          have hval := valS_ok hi hz hvs
          have hown : ∃ S1, Sub S1 (SL S used) ∧ OwnV F w σ μ' S1 (a.eval z) y := by
            rcases hval with ⟨rfl, h⟩ | ⟨t, rfl, h⟩
            · exact ⟨none', fun _ h => h.elim, h⟩
            · exact ⟨S t, fun b hb => ⟨t, by simp, hb⟩, h⟩
          obtain ⟨S1, k1, k2⟩ := hown
          obtain ⟨hnr, _⟩ := nodup_cons hn
          have hdis : ∀ k, S1 k → ¬ S l.r k := by
            intro k hk hr
            obtain ⟨t, ht, hk⟩ := k1 k hk
            exact hi.sd t l.r (fun e => hnr (e ▸ ht)) k hk hr
          obtain ⟨w', g1, g2⟩ := store_core hC hi hT' hA.root f.toPlug ⟨row, T0, q3, q4⟩ k2 hn (fun k hk => ⟨fun h => hdis k hk (hA.root.sub k h.1), fun h => hdis k hk (hA.root.isB h), .inr (k1 k hk), fun e => hdis k hk (e ▸ hbS)⟩) hset hm
          exact goal w' g1 g2
        | true =>
          obtain ⟨pp, e, me, xs, he, h1, h2, h3, h4⟩ := valS_pend hvs
          have hpp : pp = l.p := by
            have := hc
            unfold pendC at this
            rw [he] at this; exact this
          subst hpp
          subst h2; subst h3
          obtain ⟨τ, m, z0, pl2, S02, cs3, y2, pl3, S3, Sp, g1, g2, g3, g4, g5, g6, g7, g8⟩ := pend_ok hi hz he
          obtain ⟨e1, e2, e3, e4⟩ := g1.uniq hA.root
          injection e1 with e5 e6
          subst e5; cases e6; subst e2; subst e3; subst e4
          injection h4 with h5 h6
          subst h5; cases h6; subst h1
          have hpl : pl3 = .mem b off := by
            have := g2.loc.symm.trans hA.loc
            simp only [Option.some.injEq, Prod.mk.injEq, true_and] at this
            exact this
          subst hpl
          obtain ⟨w', k1, k2⟩ := store_core hC hi hT' g1 g2 ⟨row, T0, q3, q4⟩ g6 hn (fun k hk => ⟨(g8 k hk).1, (g8 k hk).2, .inl (g7 k hk), fun e => by
            subst e
            have h1 := g2.out k rfl
            rcases g2.blk k rfl with h | h
            · exact (g8 k hk).1 ⟨h, h1⟩
            · exact (g8 k hk).2 h⟩) hset hm
          exact goal w' k1 k2
      · cases h
    · cases h
  · cases h

theorem pureStp_ok (hC : CtxOK P C) (hi : Inv0 P C.np w0 F0 H env a w F S) {o : Oper} {c : Prop} {st' : St} (h : pureStp C env o = some (c, st')) (hc : c) {K : Act → World → Prop} {Q : Exit → Act → World → Prop}
    (hK : ∀ a' w', Inv P C.np w0 F0 H st' a' w' → K a' w') : o.wp P a w K Q := by
  unfold pureStp at h
  split at h
  · rename_i d c' e l hd ho
    simp only [Option.some.injEq, Prod.mk.injEq] at h
    obtain ⟨rfl, rfl⟩ := h
    have hv : VOK P F w env a S o.op (viewO env) := by
      unfold VOK
      split
      · exact ⟨viewO_ok hi _, fun _ _ _ => viewO_ok hi _, fun _ _ _ => viewO_ok hi _⟩
      · exact fun z _ => viewO_ok hi z
    obtain ⟨d', h1, _, h2⟩ := opE_ok hC hi hv ho hc
    rw [hd] at h1; injection h1 with h1; subst h1
    exact h2 K Q (fun v w' F2 S2 h => hK _ _ ⟨F2, S2, h⟩)
  · cases h

theorem appC_ok (hC : CtxOK P C) (hi : Inv0 P C.np w0 F0 H env a w F S) {o : Oper} {q : Call} (ho : o.op = .call q) {c : Prop} {st' : St} (h : appC C env o q = some (c, st')) (hc : c) {K : Act → World → Prop} {Q : Exit → Act → World → Prop}
    (hK : ∀ a' w', Inv P C.np w0 F0 H st' a' w' → K a' w') : o.wp P a w K Q := by
  obtain ⟨callee, args, ts⟩ := q
  unfold appC at h
  split at h
  · rename_i x y T T2 d hcal hargs hts hd
    simp only [] at hcal hargs hts
    cases hb : wrB C d
    · rw [hb] at h; cases h
    rw [hb] at h
    simp only [cond_true] at h
    have e1 : args = #[x, y] := by apply Array.ext'; simpa using hargs
    have e2 : ts = #[T, T2] := by apply Array.ext'; simpa using hts
    subst e1; subst e2; subst hcal
    have hx := viewO_ok hi x
    have hy := viewO_ok hi y
    unfold appE at h
    split at h
    · rename_i e e2 r p al hT hT2 he hs
      obtain ⟨σ, z, μ, pl, S0, cs, pl', cs', hA, hrd, hv⟩ := sub?_ok hi hx hs
      split at h
      · rename_i e' xs' me hg hm
        split at h
        · rename_i xs ys l hcast hsrc
          cases hn : (nodupN (al.r :: l) && !Nat.beq d al.r)
          · rw [hn] at h; cases h
          rw [hn] at h
          simp only [cond_true, Option.some.injEq, Prod.mk.injEq] at h
          obtain ⟨rfl, rfl⟩ := h
          simp only [Bool.and_eq_true, Bool.not_eq_true'] at hn
          have hdr : d ≠ al.r := fun h => by rw [nbeq_iff.2 h] at hn; exact absurd hn.2 (by simp)
          obtain ⟨rfl, rfl⟩ := castD_slice hcast
          have e3 := hA.get.symm.trans hg
          simp only [Option.some.injEq, Sigma.mk.injEq] at e3
          obtain ⟨rfl, e3⟩ := e3; cases e3
          have e4 := hA.mode.symm.trans hm
          simp only [Option.some.injEq] at e4; subst e4
          obtain ⟨ao2, n2, cap2, cs2, Si2, me', q2, hm2⟩ := srcE_ok hi hy hsrc
          obtain ⟨v, w', F2, S2, k1, k2⟩ := appE_core (ty := o.type) hC hi (wrB_iff hb) hT hT2 hA hrd (q2.fix hm2) hn.1 hdr (by simpa using hc)
          unfold Oper.wp
          have hrun : (execOp a.eval o).run P w = .ok (.value v) w' := by
            simp only [execOp, ho, resolve, invoke, builtin, Sem.run_bind, Sem.run_pure, Result.andThen, List.map_toArray, List.map_cons, List.map_nil]
            rw [hv, k1]
          rw [hrun, Oper.upon_value, hd]
          exact hK _ _ ⟨F2, S2, k2⟩
        · cases h
      · cases h
    · cases h
  · cases h

theorem stp_ok (hC : CtxOK P C) : StpOK P C (stp C) := by
  intro w0 F0 H env env' a w o c hi h hc K Q hK
  obtain ⟨F, S, hi⟩ := hi
  unfold stp at h
  split at h
  · rename_i T x v hop
    cases hd : isNone o.dst
    · rw [hd] at h; cases h
    · rw [hd] at h
      exact storeE_ok hC hi hop (isNone_iff.1 hd) (viewO_ok hi x) (viewO_ok hi v) h hc hK
  · rename_i x hop
    split at h
    · rename_i d hd
      split at h
      · rename_i r hr
        cases hb : wrB C d
        · rw [hb] at hr; cases hr
        · rw [hb] at hr
          simp only [cond_true] at hr
          simp only [Option.some.injEq] at h
          subst h
          have := ownA_ok hi (wrB_iff hb) (viewO_ok hi x) hr
          unfold Oper.wp
          have hrun : (execOp a.eval o).run P w = .ok (.value (a.eval x)) w := by simp [execOp, hop]
          rw [hrun, Oper.upon_value, hd]
          exact hK _ _ this
      · exact pureStp_ok hC hi h hc hK
    · cases h
  · simp only [Option.some.injEq, Prod.mk.injEq] at h
    obtain ⟨rfl, _⟩ := h
    exact hc.elim
  · rename_i q hop
    split at h
    · rename_i r hr
      simp only [Option.some.injEq] at h
      subst h
      exact appC_ok hC hi hop hr hc hK
    · exact pureStp_ok hC hi h hc hK
  · exact pureStp_ok hC hi h hc hK
end
end Go.Lf
namespace Go.Lf
open Go.ChangeShapes Go.WideShapes Go.ChangeAt Go.RowKit Go.Proofs

section
variable {P : Program} {H : Type} {enc : TypeId × Value → H}

/-- A slice of integers that came in. -/
theorem argOK_ints {W : World} {base : Nat} {t e : TypeId} {k : IntKind} {v : Value} {d : DataW H} {p : List MemPlace} (ht : P.underlying t = some (.slice e)) (he : P.underlying e = some (.int k)) (hc : P.cellsOf e = 1)
    (hval : Value.okWide P W .any base t v) (h : DataW.Trod enc P W 0 (fun _ => true) true t v d p) (hlt : ∀ x ∈ p, x.block < W.heap.size) (hsz : ∀ xs ys, d = .slice xs ys → xs.length ≤ lim) :
    ∃ xs : List Int, OwnV (fun b => b < W.heap.size) W (.slice (.int k)) .shr none' v xs := by
  obtain ⟨a1, len, cap, rfl⟩ := okWide_slice ht hval
  obtain ⟨fuel, hf⟩ := h
  rcases open_ints ht he hc hf with ⟨hcs, hx⟩ | ⟨a, len', cap', zs, hcs, _, hl, hm, hz, hx, hcell, hwz⟩
  · simp [Value.cells] at hcs
    obtain ⟨rfl, rfl, rfl⟩ := hcs
    exact ⟨[], [.slice none 0 0], rfl, none, 0, rfl, Nat.le_refl _, Nat.zero_le _, .inl rfl⟩
  · simp [Value.cells] at hcs
    obtain ⟨rfl, rfl, rfl⟩ := hcs
    simp only [Prod.mk.injEq] at hx
    obtain ⟨rfl, rfl⟩ := hx
    simp only [if_true] at hz
    have hlim : len ≤ lim := by
      have := hsz _ _ rfl
      simp only [lits, List.length_map, List.length_take] at this
      omega
    by_cases hl0 : len = 0
    · subst hl0
      exact ⟨[], [.slice (some a) 0 cap], rfl, some a, cap, rfl, by simp, by simp, .inl rfl⟩
    · obtain ⟨b, off, spot⟩ := a
      have hspot : spot = none := by simpa [Addr.add] using World.cell?_spot (hcell 0 (by omega))
      subst hspot
      have h0 := hcell 0 (by omega)
      rw [add_mk] at h0
      simp only [World.cell?] at h0
      have hb : b < W.heap.size := hlt (.cell b off) (MemPlace.mem_row.2 ⟨0, by omega, by simp⟩)
      have hlen : (zs.take len).length = len := by simp; omega
      split at h0
      · rename_i row T fr hr
        have hc : ∀ i, i < zs.length → row[off + i]? = some (.int k (zs.getD i 0)) := by
          intro i hi
          have := hcell i hi
          rw [add_mk] at this
          simpa [World.cell?, hr] using this
        refine ⟨zs.take len, [.slice (some ⟨b, off, none⟩) len cap], rfl, some ⟨b, off, none⟩, cap, by rw [hlen], by rw [hlen]; exact hl, by rw [hlen]; exact hlim, .inr ⟨b, off, row, T, fr, rfl, hb, hr, ?_, ?_⟩⟩
        · have := hc (len - 1) (by omega)
          have h1 : off + (len - 1) < row.size := by
            rcases Nat.lt_or_ge (off + (len - 1)) row.size with h | h
            · exact h
            · rw [Array.getElem?_eq_none h] at this; cases this
          rw [hlen]
          simp only [Ty.size, Nat.mul_one]
          omega
        · intro i x hx
          have hi : i < len := by
            rcases Nat.lt_or_ge i len with h | h
            · exact h
            · rw [List.getElem?_eq_none (by omega)] at hx; cases hx
          have hci := hc i (by omega)
          have hxz : zs.getD i 0 = x := by
            rw [List.getElem?_take, if_pos hi] at hx
            simp [hx]
          have hmem : x ∈ zs := by
            rw [List.getElem?_take, if_pos hi] at hx
            exact List.mem_of_getElem? hx
          have hw := hwz x hmem
          simp only [Lit.wf, Bool.and_eq_true, decide_eq_true_eq] at hw
          refine ⟨?_, hw.1, hw.2⟩
          rw [hxz] at hci
          simp only [Ty.size, Nat.mul_one]
          have : row.toList[off + i]? = some (.int k x) := by simpa using hci
          unfold seg
          rw [List.drop_eq_getElem_cons (by
            rcases Nat.lt_or_ge (off + i) row.toList.length with h | h
            · exact h
            · rw [List.getElem?_eq_none h] at this; cases this)]
          rw [List.take_one]
          simp only [List.head?_cons, Option.toList_some]
          congr 1
          have h2 := List.getElem?_eq_some_iff.1 this
          exact h2.2
      · cases h0
end
end Go.Lf
namespace Go.Proofs.Ytmoonjcbljefaaa
open Go.ChangeShapes Go.WideShapes Go.ChangeAt Go.RowKit Go.Proofs Go.Lf

theorem Try.own : ownKnob Try.prog.godebug = none := by kernel_rfl
theorem Try.laidOut : laidOutB Try.prog = true := by kernel_rfl
theorem Try.cells5 : Try.prog.cellsOf 5 = 1 := by kernel_rfl
theorem Try.bytes5 : Try.prog.bytesOf 5 = 1 := by kernel_rfl

def S2 : FSpec := { args := [.val (.slice (.int .u8)), .val (.slice (.int .u8))], multi := false, res := .bool, mode := .shr, pre := fun _ => True, fn := fun _ => true }

set_option maxRecDepth 100000 in
theorem coherence_lifted (hF : FOk Try.prog 5 S2) (os : Os) (started : os.Started) (H : Type) (enc : TypeId × Value → H) :
    ReturnsInHanded {} Try.checked os 5 .any (Rows.axiomCoherenceSpec.pre6 enc Try.prog Try.f5 Rows.axiomCoherenceRow.domain false) (Rows.axiomCoherenceSpec.post enc Try.prog Try.f5 false true false false) := by
  refine returnsInHanded_of_change_sized (C := Try.checked) Try.own started (by kernel_rfl) Try.func5
    (ChangeSpec.witness6 (enc := enc) (C := Try.checked) false ⟨#[], #[.slice none 0 0, .slice none 0 0], []⟩ 8 (by kernel_rfl) (by kernel_rfl) (by kernel_rfl) (by kernel_rfl)) ?_
  intro W base args ds gs before hval0 hW _ hsz0 _
  have hsz : (DataW.weightsEach Try.prog (Try.f5.params.toList ++ Rows.axiomCoherenceSpec.plain.varTypes Try.prog) (ds ++ gs)).all (· ≤ reachBytes) = true := hsz0
  clear hsz0
  have hval : ∀ (j : Nat) t v, Try.f5.params[j]? = some t → args[j]? = some v → Value.okWide Try.prog W .any base t v := hval0
  have hW' := hW
  obtain ⟨p, q, hA0, hV, rfl, _, _⟩ := hW
  have hA : DataW.TrodAll enc Try.prog W 0 (fun _ => true) true Try.f5.params.toList args.toList ds p := hA0
  rw [Try.params5] at hA hval hsz
  obtain ⟨v0, v1, d0, d1, p0, p1, rfl, rfl, rfl, h0, h1⟩ := trodAll_two hA
  obtain ⟨rfl, rfl⟩ := trodVars_none hV
  clear hA0 hval0
  simp only [List.append_nil] at hW'
  have hlt0 : ∀ x ∈ p0, x.block < W.heap.size := fun x hx => hW'.lt x (by simp [hx])
  have hlt1 : ∀ x ∈ p1, x.block < W.heap.size := fun x hx => hW'.lt x (by simp [hx])
  have sz : ∀ (j : Nat) (xs ys : List (DataW H)), ([22, 22] : List TypeId)[j]? = some 22 → ([d0, d1] ++ ([] : List (DataW H)))[j]? = some (.slice xs ys) → xs.length ≤ lim := by
    intro j xs ys h1 h2
    have := sized_slice hsz (j := j) (t := 22) (e := 5) (show (([22, 22] : List TypeId) ++ [])[j]? = some 22 by simpa using h1) h2 Try.underlying22
    rw [Try.bytes5] at this
    simp only [reachBytes] at this
    unfold lim
    omega
  obtain ⟨xs, hx⟩ := argOK_ints (k := .u8) Try.underlying22 Try.underlying5 Try.cells5 (hval 0 22 v0 rfl rfl) h0 hlt0 (fun xs ys h => sz 0 xs ys rfl (by rw [h]; rfl))
  obtain ⟨ys, hy⟩ := argOK_ints (k := .u8) Try.underlying22 Try.underlying5 Try.cells5 (hval 1 22 v1 rfl rfl) h1 hlt1 (fun xs ys h => sz 1 xs ys rfl (by rw [h]; rfl))
  have hcall := hF.2 W (fun b => b < W.heap.size) [v0, v1] (xs, ys, ()) (fun b h => h) ⟨v0, [v1], rfl, hx, v1, [], rfl, hy, rfl⟩ trivial
  refine hcall.mono ?_
  rintro e W' ⟨v, F', S', rfl, hb, _, _, _, _, hv⟩
  have hv : OwnV F' W' .bool .shr S' v true := hv
  have := hv.bool_eq
  subst this
  have hargs0 := Below.trod Try.laidOut (by kernel_rfl) (of_decide_eq_true (by kernel_rfl)) h0 hb hlt0
  have hargs1 := Below.trod Try.laidOut (by kernel_rfl) (of_decide_eq_true (by kernel_rfl)) h1 hb hlt1
  refine ⟨_, rfl, _, _, _, [], p0 ++ p1, [], hW', ?_, trodAll_mk2 hargs0 hargs1, rfl, hb.frame _, fun h => by cases h⟩
  exact trodAll_mk1 (shut_bool Try.underlying4 true)
end Go.Proofs.Ytmoonjcbljefaaa
namespace Go.Lf
open Go.ChangeShapes Go.WideShapes Go.ChangeAt Go.RowKit Go.Proofs
def leaves : Ty → List Ty
  | .int k => [.int k]
  | .bool => [.bool]
  | .str => [.str]
  | .unit => []
  | .prod a b => leaves a ++ leaves b
  | .slice e => [.slice e]
  | .arr n e => (List.replicate n (leaves e)).flatten
def LeafOK : Ty → Value → Prop
  | .int k, v => ∃ n, v = .int k n ∧ k.min ≤ n ∧ n ≤ k.max
  | .bool, v => ∃ b, v = .bool b
  | _, _ => False
def Lv : List Ty → List Value → Prop
  | [], [] => True
  | l :: ls, v :: vs => LeafOK l v ∧ Lv ls vs
  | _, _ => False
theorem Lv.split : ∀ {a b : List Ty} {cs : List Value}, Lv (a ++ b) cs → ∃ c1 c2, cs = c1 ++ c2 ∧ Lv a c1 ∧ Lv b c2
  | [], b, cs, h => ⟨[], cs, rfl, trivial, h⟩
  | l :: a, b, [], h => by simp [Lv] at h
  | l :: a, b, v :: cs, h => by
    obtain ⟨c1, c2, rfl, h1, h2⟩ := Lv.split (a := a) h.2
    exact ⟨v :: c1, c2, rfl, ⟨h.1, h1⟩, h2⟩
section
variable {F : NSet} {w : World}
theorem own_leaves : ∀ (τ : Ty) (cs : List Value), Lv (leaves τ) cs → ∃ x : τ.den, Own F w τ .shr none' cs x
  | .int k, cs, h => by
    match cs, h with
    | [v], h =>
      obtain ⟨n, rfl, h1, h2⟩ := h.1
      exact ⟨n, rfl, h1, h2⟩
  | .bool, cs, h => by
    match cs, h with
    | [v], h =>
      obtain ⟨b, rfl⟩ := h.1
      exact ⟨b, rfl⟩
  | .str, cs, h => by
    match cs, h with
    | [v], h => exact h.1.elim
  | .unit, cs, h => by
    match cs, h with
    | [], _ => exact ⟨(), rfl⟩
  | .slice e, cs, h => by
    match cs, h with
    | [v], h => exact h.1.elim
  | .prod a b, cs, h => by
    obtain ⟨c1, c2, rfl, h1, h2⟩ := Lv.split h
    obtain ⟨x, hx⟩ := own_leaves a c1 h1
    obtain ⟨y, hy⟩ := own_leaves b c2 h2
    exact ⟨(x, y), c1, c2, none', none', rfl, fun _ h => h, fun _ h => h, fun _ h _ => h, hx, hy⟩
  | .arr n e, cs, h => by
    have key : ∀ (n : Nat) (cs : List Value), Lv (List.replicate n (leaves e)).flatten cs → ∃ xs : List e.den, xs.length = n ∧ cs.length = n * e.size ∧ ∀ (i : Nat) (x : e.den), xs[i]? = some x → Own F w e .shr none' (seg cs (i * e.size) e.size) x := by
      intro n
      induction n with
      | zero =>
        intro cs h
        match cs, h with
        | [], _ => exact ⟨[], rfl, by simp, fun i x h => by simp at h⟩
      | succ n ih =>
        intro cs h
        rw [List.replicate_succ, List.flatten_cons] at h
        obtain ⟨c1, c2, rfl, h1, h2⟩ := Lv.split h
        obtain ⟨x, hx⟩ := own_leaves e c1 h1
        obtain ⟨xs, g1, g2, g3⟩ := ih c2 h2
        have hl := hx.len
        refine ⟨x :: xs, by simp [g1], by rw [List.length_append, hl, g2, Nat.succ_mul]; omega, fun i y hy => ?_⟩
        match i, hy with
        | 0, hy =>
          simp only [List.getElem?_cons_zero, Option.some.injEq] at hy
          subst hy
          unfold seg
          rw [Nat.zero_mul, List.drop_zero, ← hl, List.take_left]
          exact hx
        | i + 1, hy =>
          simp only [List.getElem?_cons_succ] at hy
          have := g3 i y hy
          have e1 : seg (c1 ++ c2) ((i + 1) * e.size) e.size = seg c2 (i * e.size) e.size := by
            unfold seg
            rw [Nat.succ_mul, ← hl, Nat.add_comm, List.drop_length_add_append]
          rw [e1]; exact this
    obtain ⟨xs, h1, h2, h3⟩ := key n cs h
    exact ⟨xs, h1, h2, fun _ => none', fun _ _ h => h, fun _ _ _ _ h _ => h, h3⟩
end
/-- What the program says of a cell. -/
def LeafTy (P : Program) : Ty → TypeId → Prop
  | .int k, u => P.underlying u = some (.int k)
  | .bool, u => P.underlying u = some .bool
  | _, _ => False
theorem arg_agg {P : Program} {W : World} {base : Nat} {t : TypeId} {v : Value} {τ : Ty} {ts : List TypeId} (hu : (∃ fs, P.underlying t = some (.struct fs)) ∨ ∃ n e, P.underlying t = some (.array n e)) (hτ : τ.isAgg = true)
    (hts : P.cellTypes P.depth t = some ts) (hc : P.cellsOf t = ts.length) (hl : (leaves τ).length = ts.length) (hL : ∀ (i : Nat) l u, (leaves τ)[i]? = some l → ts[i]? = some u → LeafTy P l u)
    (h : Value.okWide P W .any base t v) (F : NSet) : ∃ x : τ.den, OwnV F W τ .shr none' v x := by
  have h' : ∃ cs, v = .agg cs ∧ cs.size = P.cellsOf t ∧ Row.okWide P W .any base t cs := by
    rcases hu with ⟨fs, hu⟩ | ⟨n, e, hu⟩
    · simpa only [Value.okWide, hu] using h
    · simpa only [Value.okWide, hu] using h
  obtain ⟨cs, rfl, hs, ts', hts', _, hcell⟩ := h'
  rw [hts] at hts'
  cases hts'
  have hlv : ∀ (ls : List Ty) (us : List TypeId) (vs : List Value), ls.length = us.length → vs.length = us.length → (∀ (i : Nat) l u, ls[i]? = some l → us[i]? = some u → LeafTy P l u) → (∀ (i : Nat) v u, vs[i]? = some v → us[i]? = some u → Cell.okWide P W .any base u v) → Lv ls vs := by
    intro ls
    induction ls with
    | nil =>
      intro us vs h1 h2 _ _
      simp only [List.length_nil] at h1
      have : vs = [] := List.length_eq_zero_iff.1 (by omega)
      subst this
      exact trivial
    | cons l ls ih =>
      intro us vs h1 h2 h3 h4
      match us, vs, h1, h2 with
      | u :: us, v :: vs, h1, h2 =>
        simp only [List.length_cons] at h1 h2
        refine ⟨?_, ih us vs (by omega) (by omega) (fun i l u a b => h3 (i + 1) l u (by simpa using a) (by simpa using b)) (fun i v u a b => h4 (i + 1) v u (by simpa using a) (by simpa using b))⟩
        have a := h3 0 l u rfl rfl
        have b := h4 0 v u rfl rfl
        match l, a with
        | .int k, a =>
          have a : P.underlying u = some (.int k) := a
          obtain ⟨n, rfl⟩ := okWide_int (w := W) (r := .any) (base := base) (v := v) a (by simpa only [Value.okWide, a] using b)
          simp only [Cell.okWide, a] at b
          simp [Cell.ok, a] at b
          exact ⟨n, rfl, b.1, b.2⟩
        | .bool, a =>
          have a : P.underlying u = some .bool := a
          obtain ⟨n, rfl⟩ := okWide_bool (w := W) (r := .any) (base := base) (v := v) a (by simpa only [Value.okWide, a] using b)
          exact ⟨n, rfl⟩
  have hlen : cs.toList.length = ts.length := by rw [Array.length_toList, hs, hc]
  obtain ⟨x, hx⟩ := own_leaves (F := F) (w := W) τ cs.toList (hlv (leaves τ) ts cs.toList hl hlen hL (fun i v u hv hu' => by
    have hi : i < ts.length := by
      rcases Nat.lt_or_ge i ts.length with h | h
      · exact h
      · rw [List.getElem?_eq_none (by omega)] at hu'; cases hu'
    obtain ⟨u', h1, h2⟩ := hcell i v (by simpa using hv)
    rw [Nat.mod_eq_of_lt hi, hu'] at h1
    cases h1
    exact h2))
  exact ⟨x, cs.toList, by unfold slotv; rw [if_pos hτ], hx⟩
end Go.Lf
namespace Go.Lf

/-- A call of such a method on a variable. -/
def ptrE (C : Ctx) (d : Nat) (st : St) (s : PSpec) (v : View) : Option (Prop × St) :=
  match v.addr? with
  | some l => match l.p with
    | [] => bif s.τ.flat then (match castD (τ := l.τ) (σ := s.τ) l.x with
      | some x => match castD (τ := s.τ) (σ := l.τ) (s.fn x) with
        | some y => some (s.pre x, put (upd (kill st l.r) l.r (reown (st l.r) l.τ l.m y)) d .dead)
        | none => none
      | none => none) else none
    | _ => none
  | none => none

def ptrC (C : Ctx) (st : St) (o : Oper) (q : Call) : Option (Prop × St) :=
  match q.callee, q.args.toList, o.dst with
  | .value (.func f), [z], some d => match look C.ptrs f with
    | some s => bif wrB C d then ptrE C d st s (viewO st z) else none
    | none => none
  | _, _, _ => none

/-- Variables that a function value captures are not written any more. -/
def frz1 (st : St) : Operand → St
  | .tmp t => match st t with
    | .box τ _ x => upd (kill st t) t (.saddr τ x)
    | _ => st
  | _ => st
def frzL (st : St) : List Operand → St
  | [] => st
  | z :: l => frzL (frz1 st z) l

/-- All of a region's tail. -/
def stpP (C : Ctx) (st : St) (o : Oper) : Option (Prop × St) :=
  match o.op with
  | .call q => match ptrC C st o q with
    | some r => some r
    | none => stp C st o
  | .makeFunc _ _ caps => pureStp C (frzL st caps.toList) o
  | _ => stp C st o

section
variable {P : Program} {C : Ctx} {N : NP} {w0 : World} {F0 H : NSet} {env : St} {a : Act} {w : World} {F : NSet} {S : Nat → NSet} {d : Nat}

theorem PlOk.any {G S' G' S'' : NSet} {w : World} {b n : Nat} {cs : List Value} (h : PlOk G S' w (.mem b 0) n cs) (h1 : ¬ S'' b) (h2 : ¬ G' b) : PlOk G' S'' w (.mem b 0) n cs :=
  ⟨h1, h2, h.2.2⟩

theorem ptrE_ok (hC : CtxOK P C) (hi : Inv0 P N w0 F0 H env a w F S) (hd : Wr N d) {f : FuncId} {s : PSpec} (hs : POk P f s) {z : Operand} {ts : Array TypeId} {o : Oper}
    (ho : o.op = .call { callee := .value (.func f), args := #[z], argTypes := ts }) (hod : o.dst = some d) {v : View} (hv : ViewOK P F w env (fun t => a.tmps.getD t undef) S (a.eval z) v)
    {c : Prop} {env' : St} (h : ptrE C d env s v = some (c, env')) (hc : c) {K : Act → World → Prop} {Q : Exit → Act → World → Prop} (hK : ∀ a' w', Inv P N w0 F0 H env' a' w' → K a' w') : o.wp P a w K Q := by
  unfold ptrE at h
  split at h
  · rename_i l hl
    split at h
    · rename_i hp
      cases hf : s.τ.flat
      · rw [hf] at h; cases h
      rw [hf] at h
      simp only [cond_true] at h
      split at h
      · rename_i x hx
        have := castD_some hx
        obtain ⟨σ, y, μ, pl, S0, cs, b, off, hA, hval⟩ := addr?_ok hi hv hl
        obtain ⟨lr, lp, lτ, lm, lx⟩ := l
        simp only at hp hx this h
        subst hp
        injection this with e1 e2
        subst e1; cases e2
        split at h
        · rename_i y' hy
          have hy' := castD_some hy
          injection hy' with _ e3
          cases e3
          simp only [Option.some.injEq, Prod.mk.injEq] at h
          obtain ⟨rfl, rfl⟩ := h
          have hroot := hA.root
          have hloc := hA.loc
          simp only [Go.Lf.loc, Option.some.injEq, Prod.mk.injEq] at hloc
          obtain ⟨rfl, hpl⟩ := hloc
          subst hpl
          simp only at hroot
          have hsb : S lr b := hroot.isB rfl
          have hoff : off = 0 := by
            rcases hroot.1 with ⟨_, h, _⟩ | ⟨_, b', h, _⟩
            · cases h
            · injection h
          subst hoff
          have hbox : env lr = .box s.τ lm x := by
            rcases hroot.1 with ⟨_, h, _⟩ | ⟨h, _⟩
            · cases h
            · exact h
          have hb := hi.sb lr b hsb
          obtain ⟨k1, k2⟩ := hs
          have hcall := k2 w b cs x hb.2.1 (hroot.2.1.any (fun h => h) (fun h => h)) (hroot.2.2.flat hf) hc
          have hrun : (execOp a.eval o).run P w = .ok (.enter f #[.pointer (some ⟨b, 0, none⟩)]) w := by
            simp only [execOp, ho, resolve, Sem.run_bind, Act.eval, Deferred.ofValue, Sem.run_pure, Result.andThen, invoke]
            have := k1 #[.pointer (some ⟨b, 0, none⟩)] w
            rw [← this]
            congr 1
            congr 1
            apply Array.ext'
            simp [← hval, Act.eval]
          unfold Oper.wp
          rw [hrun, Oper.upon_enter]
          refine hcall.mono ?_
          rintro e w' ⟨⟨v, rfl⟩, q1, q2, q3, q4, q5, cs', q6, q7⟩
          rw [hod]
          refine hK _ _ ?_
          have hS0 : ¬ S0 b := hroot.2.1.1
          have hset : Inv0 P N w0 F0 H (upd (kill env lr) lr (reown (env lr) s.τ lm (s.fn x))) a w' F (fun t => if t = lr then S lr else S t) := by
            refine hi.setRoot (by rw [hbox]; rfl) (by rw [hbox]; rfl) q1 q2 q3 q4 ?_ ?_ ?_ ?_
            · intro k hk hH
              refine q5 k (Nat.lt_of_lt_of_le hk hi.size) ?_
              rintro rfl
              rcases hb.1 with h | h
              · omega
              · exact hH h
            · intro k hk
              have hne : k ≠ b := by
                rintro rfl
                rcases hk with hk | ⟨t, h1, h2⟩
                · exact hb.2.2 hk
                · exact hi.sd t lr h1 k h2 hsb
              have hlt : k < w.heap.size := by
                rcases hk with hk | ⟨t, h1, h2⟩
                · exact hi.fb k hk
                · exact (hi.sb t k h2).2.1
              exact q5 k hlt hne
            · intro k hk
              obtain ⟨g1, g2, g3⟩ := hi.sb lr k hk
              exact ⟨g1, Nat.lt_of_lt_of_le g2 q4, g3, fun t ht hk' => hi.sd t lr ht k hk' hk⟩
            · rw [hbox]
              refine ⟨.mem b 0, S0, cs', .inr ⟨?_, b, rfl, ?_, ?_, ?_⟩, q6.any hS0 hb.2.2, q7.flat hf⟩
              · rfl
              · rcases hroot.1 with ⟨_, h, _⟩ | ⟨_, b', h, h2, _⟩
                · cases h
                · injection h with h; subst h; simpa using h2
              · rcases hroot.1 with ⟨_, h, _⟩ | ⟨_, b', h, _, h2, _⟩
                · cases h
                · injection h with h; subst h; exact h2
              · simpa using hsb
          exact ⟨_, _, hset.putSimple hd rfl (by simp [Ent.root]) trivial⟩
        · cases h
      · cases h
    · cases h
  · cases h

theorem Inv0.freeze (hi : Inv0 P N w0 F0 H env a w F S) {r : Nat} {τ : Ty} {m : Md} {x : τ.den} (hr : env r = .box τ m x) :
    Inv0 P N w0 F0 H (upd (kill env r) r (.saddr τ x)) a w (fun b => F b ∨ S r b) (fun t => if t = r then none' else S t) := by
  have hap : ∀ t b, t ≠ r → S t b → ¬ S r b := fun t b h h1 h2 => hi.sd t r h b h1 h2
  refine ⟨hi.os, hi.tape, hi.output, hi.size, hi.block, ?_, fun b hb => .inl (hi.f0 b hb), ?_, ?_, ?_, ?_, hi.defers, hi.slots⟩
  · rintro b (hb | hb)
    · exact hi.fb b hb
    · exact (hi.sb r b hb).2.1
  · rintro b (hb | hb) hn
    · exact hi.fn b hb hn
    · exact (hi.sb r b hb).1
  · intro t b ht
    by_cases h : t = r
    · simp only [h, if_true] at ht; exact ht.elim
    · simp only [h, if_false] at ht
      obtain ⟨g1, g2, g3⟩ := hi.sb t b ht
      exact ⟨g1, g2, fun hF => hF.elim g3 (hap t b h ht)⟩
  · intro t u htu b h1 h2
    by_cases h : t = r
    · simp only [h, if_true] at h1; exact h1
    · simp only [h, if_false] at h1
      by_cases h' : u = r
      · simp only [h', if_true] at h2; exact h2
      · simp only [h', if_false] at h2
        exact hi.sd t u htu b h1 h2
  · intro t
    by_cases h : t = r
    · subst h
      rw [upd_same]
      have h1 := hi.ent t
      rw [hr] at h1
      obtain ⟨pl, S0, cs, h1⟩ := h1
      obtain ⟨_, _, b, rfl, hS0, hval, hsb⟩ := h1.box_inj
      obtain ⟨q1, q2, row, T0, q3, q4, q5⟩ := h1.2.1
      refine ⟨b, 0, row, T0, (0, 0), hval, .inr hsb, q3, q4, ?_⟩
      rw [q5]
      exact (Own.freeze (S' := none') h1.2.2).mono (fun k hk => hk.imp id (fun hk => h1.sub k hk)) (fun _ h => h)
    · rw [upd_ne _ _ h]
      rcases kill_cases env r t with h' | ⟨h', hne⟩
      · rw [h']; trivial
      · rw [h']
        refine EntOK.keep (fun b hb => .inl hb) (fun _ _ => rfl) rfl ?_ ?_ (hi.ent t)
        · intro q hq
          have hqr : q ≠ r := fun e => hne (e ▸ hq)
          refine ⟨fun ho => ?_, fun _ => rfl, by simp [hqr], fun _ _ => rfl, ?_, fun b hb => (hi.sb q b hb).2.2⟩
          · rw [upd_ne _ _ hqr]; unfold kill killE; rw [Ent.owner_root ho]
          · rintro b (h1 | h1) h2
            · exact absurd h1 h2
            · exact fun h3 => hap q b hqr h3 h1
        · intro _
          refine ⟨by simp [h], fun _ _ => rfl, ?_⟩
          rintro b (h1 | h1) h2
          · exact absurd h1 h2
          · exact fun h3 => hap t b h h3 h1

theorem frzL_ok : ∀ {l : List Operand} {env : St}, Inv P N w0 F0 H env a w → Inv P N w0 F0 H (frzL env l) a w
  | [], _, h => h
  | z :: l, env, h => by
    refine frzL_ok (l := l) ?_
    unfold frz1
    split
    · rename_i t
      split
      · rename_i τ m x hr
        obtain ⟨F, S, hi⟩ := h
        exact ⟨_, _, hi.freeze hr⟩
      · exact h
    · exact h

theorem stpP_ok (hC : CtxOK P C) : StpOK P C (stpP C) := by
  intro w0 F0 H env env' a w o c hi h hc K Q hK
  unfold stpP at h
  split at h
  · rename_i q hop
    split at h
    · rename_i r hr
      simp only [Option.some.injEq] at h
      subst h
      obtain ⟨F, S, hi⟩ := hi
      unfold ptrC at hr
      split at hr
      · rename_i f z d h1 h2 h3
        split at hr
        · rename_i s hs
          cases hb : wrB C d
          · rw [hb] at hr; cases hr
          rw [hb] at hr
          obtain ⟨callee, args, ts⟩ := q
          simp only at h1 h2
          have e1 : args = #[z] := by apply Array.ext'; simpa using h2
          subst e1; subst h1
          exact ptrE_ok hC hi (wrB_iff hb) (hC.ptrs f s hs) hop h3 (viewO_ok hi z) hr hc hK
        · cases hr
      · cases hr
    · exact stp_ok hC hi h hc K Q hK
  · rename_i fn first caps hop
    obtain ⟨F, S, hi'⟩ := frzL_ok (l := caps.toList) hi
    exact pureStp_ok hC hi' h hc hK
  · exact stp_ok hC hi h hc K Q hK

/-- What is returned: the pointer's memory. -/
def retPP (s : PSpec) (y : s.τ.den) (st : St) : Prop := match st 0 with
  | .box σ _ x => match castD (τ := σ) (σ := s.τ) x with
    | some z => z = y
    | none => False
  | _ => False

/-- The proposition for a method's body. -/
def funP (C : Ctx) (stp : St → Oper → Option (Prop × St)) (s : PSpec) (L : s.τ.den → List LoopI) (fn : Func) : Prop :=
  match fn.body with
  | some c => ∀ x, s.pre x → dFact s.τ x → wpI C stp (L x) c 0 (ofL [(0, .box s.τ .shr x)]) (retPP s (s.fn x)) (fun _ _ => False) (retPP s (s.fn x))
  | none => False

theorem Inv0.startP {s : PSpec} {cs : List Value} {x : s.τ.den} {b n : Nat} (hb : b < w.heap.size) (h1 : PlOk none' none' w (.mem b 0) s.τ.size cs) (h2 : Own none' w s.τ .shr none' cs x) (hn : 1 ≤ n) :
    Inv0 P ⟨n, true⟩ w none' (fun k => k = b) (ofL [(0, .box s.τ .shr x)]) { tmps := #[.pointer (some ⟨b, 0, none⟩)] ++ Array.replicate (n - 1) undef, defers := [] } w none' (fun t k => t = 0 ∧ k = b) := by
  have hV : (#[Value.pointer (some ⟨b, 0, none⟩)] ++ Array.replicate (n - 1) undef).getD 0 undef = .pointer (some ⟨b, 0, none⟩) := by
    rw [Array.getD_eq_getD_getElem?, Array.getElem?_append_left (by simp)]; rfl
  refine ⟨rfl, rfl, rfl, Nat.le_refl _, fun _ _ _ => rfl, fun _ h => h.elim, fun _ h => h, fun b h1 h2 => absurd h1 h2, ?_, ?_, ?_, rfl, ⟨by simp; omega, ?_⟩⟩
  · rintro t k ⟨rfl, rfl⟩
    exact ⟨.inr rfl, hb, fun h => h⟩
  · rintro t u htu k ⟨rfl, rfl⟩ ⟨rfl, _⟩
    exact htu rfl
  · intro t
    cases t with
    | zero =>
      refine ⟨.mem b 0, none', cs, .inr ⟨rfl, b, rfl, ?_, hV, ⟨rfl, rfl⟩⟩, h1, h2⟩
      funext k
      simp only [none', true_and, eq_iff_iff, false_iff]
      rintro ⟨h1, h2⟩; exact h2 h1
    | succ t => exact trivial
  · rintro k rfl
    exact ⟨rfl, hV⟩

theorem POk.intro (hC : CtxOK P C) {stp : St → Oper → Option (Prop × St)} (hstp : StpOK P C stp) {f : FuncId} {s : PSpec} {fn : Func} (hdef : FnDef P f) (hf : P.funcs[f]? = some fn) (hN : C.N = fn.ntmps)
    (hp : C.p0 = true) (hlen : Nat.ble 1 fn.ntmps = true) (hres : fn.results = #[]) (hfl : s.τ.flat = true) (L : s.τ.den → List LoopI) (h : funP C stp s L fn) : POk P f s := by
  refine ⟨hdef, ?_⟩
  intro w b cs x hb h1 h2 hpre
  unfold funP at h
  split at h
  · rename_i c hbd
    have hlen' : 1 ≤ fn.ntmps := Nat.le_of_ble_eq_true hlen
    have hst := Inv0.startP (P := P) (s := s) hb h1 h2 hlen'
    have hnp : C.np = ⟨fn.ntmps, true⟩ := by simp [Ctx.np, hN, hp]
    refine calls_of_wp hf hbd ?_
    have hend : ∀ st a w', retPP s (s.fn x) st → Inv P C.np w none' (fun k => k = b) st a w' → bodyPost P fn (fun e w' => (∃ v, e = .returned v) ∧ w'.os = w.os ∧ w'.tape = w.tape ∧ w'.output = w.output ∧ w.heap.size ≤ w'.heap.size ∧
      (∀ k, k < w.heap.size → k ≠ b → w'.heap[k]? = w.heap[k]?) ∧ ∃ cs', PlOk none' none' w' (.mem b 0) s.τ.size cs' ∧ Own none' w' s.τ .shr none' cs' (s.fn x)) .normal a w' := by
      intro st a w' hq ⟨F, S, hi⟩
      refine ⟨hi.defers, .tuple #[], by simp [results, hres], ⟨_, rfl⟩, hi.os, hi.tape, hi.output, hi.size, fun k hk hne => hi.block k hk hne, ?_⟩
      unfold retPP at hq
      split at hq
      · rename_i σ m y hy
        split at hq
        · rename_i z hz
          have := castD_some hz
          injection this with e1 e2
          subst e1; cases e2
          subst hq
          have h0 := hi.ent 0
          rw [hy] at h0
          obtain ⟨pl, S0, cs', hr⟩ := h0
          rcases hr.1 with ⟨h, _⟩ | ⟨_, b', hpl, hS, hv, hsb⟩
          · cases h
          · have hpin := (hi.slots.pin b rfl).2
            have hv : a.tmps.getD 0 undef = .pointer (some ⟨b', 0, none⟩) := hv
            rw [hpin] at hv
            have hbb : b = b' := by injection hv with hv; injection hv with hv; injection hv
            subst hbb
            subst hpl
            exact ⟨cs', hr.2.1.any (fun h => h) (fun h => h), hr.2.2.flat hfl⟩
        · cases hq
      · cases hq
    refine wpI_ok hC hstp c (h x hpre h2.fact) (by rw [hnp]; exact ⟨none', _, hst⟩) ?_ (fun _ _ _ _ h => h.elim) ?_
    · intro st a w' hq hi
      exact hend st a w' hq hi
    · intro st a w' hq hi
      exact hend st a w' hq hi
  · cases h
end
end Go.Lf
namespace Go.Lf
theorem z1 : ∀ (p : Prop), (True ∧ p) = p := @true_and
theorem z2 : ∀ (p : Prop), (p ∧ True) = p := @and_true
theorem z3.{u_1} : ∀ {α : Sort u_1} (a : α), (a = a) = True := @eq_self
theorem z4.{u_1} : ∀ {b : Prop} (α : Sort u_1) [i : Nonempty α], (∀ (a : α), b) ↔ b := @forall_const
theorem z5 : ∀ {p : Prop} [inst : Decidable p], (decide p = Bool.true) = p := @decide_eq_true_eq
theorem z6 : ∀ {p : Prop} {x : Decidable p}, decide p = Bool.false ↔ ¬p := @decide_eq_false_iff_not
theorem z7 : ∀ {a b : Int}, ¬a < b ↔ b ≤ a := @Int.not_lt
theorem z8 : ∀ {a b : Int}, ¬a ≤ b ↔ b < a := @Int.not_le
theorem z9 : ∀ (a b : Bool), ((a && b) = Bool.true) = (a = Bool.true ∧ b = Bool.true) := @Bool.and_eq_true
theorem z10 : ∀ (p : Prop), (True → p) = p := @true_implies
theorem z11.{u_1} : ∀ (α : Sort u_1), (∀ (a : α), True) = True := @implies_true
theorem z12 : ∀ (b : Bool), ((!b) = Bool.true) = (b = Bool.false) := @Bool.not_eq_true'
theorem z13 : ∀ (b : Bool), ((!b) = Bool.false) = (b = Bool.true) := @Bool.not_eq_false'
theorem z14 : ∀ (p : Prop), (False → p) = True := @false_implies
theorem z15 : (Bool.false = Bool.true) = False := @Bool.false_eq_true
theorem z16 : (Bool.true = Bool.false) = False := @Bool.true_eq_false
theorem z17 : ∀ (p : Prop), (p ∧ p) = p := @and_self
theorem z18.{u_1} : ∀ {α : Type u_1} [inst : BEq α] [LawfulBEq α] {a b : α}, (a == b) = Bool.true ↔ a = b := @beq_iff_eq
theorem z19.{u_1} : ∀ {α : Type u_1} [inst : BEq α] [LawfulBEq α] {a b : α}, (a == b) = Bool.false ↔ a ≠ b := @beq_eq_false_iff_ne
theorem z20.{u_1} : ∀ {α : Sort u_1} (a b : α), (a ≠ b) = ¬a = b := @ne_eq
theorem z21 : ∀ (n : Nat), ((n : Int)).toNat = n := @Int.toNat_natCast
theorem z22 : ∀ (c t : Bool), (bif c then t else Bool.false) = (c && t) := @Bool.cond_false_right
theorem z23 : ∀ (c f : Bool), (bif c then Bool.true else f) = (c || f) := @Bool.cond_true_left
theorem z24 : ∀ {b a : Prop}, (∃ _h : a, b) ↔ a ∧ b := @exists_prop
theorem z25.{u_1} : ∀ {α : Type u_1} [inst : LE α] {x y : α}, x ≥ y ↔ y ≤ x := @ge_iff_le
theorem z26.{u_1} : ∀ {α : Type u_1} [inst : LT α] {x y : α}, x > y ↔ y < x := @gt_iff_lt
theorem z27.{u_1} : ∀ {α : Type u_1} {a : α}, [a].length = 1 := @List.length_singleton
theorem z28.{u_1} : ∀ {α : Type u_1}, ([] : List α).length = 0 := @List.length_nil
theorem z29.{u_1} : ∀ {α : Type u_1} (l0 : List α), [] ++ l0 = l0 := @List.nil_append
theorem z30.{u_1} : ∀ {α : Type u_1} {l0 l1 : List α}, l0.append l1 = l0 ++ l1 := @List.append_eq
theorem z31 : ∀ (c f : Bool), (bif c then Bool.false else f) = (!c && f) := @Bool.cond_false_left
theorem z32 : ∀ (c t : Bool), (bif c then t else Bool.true) = (!c || t) := @Bool.cond_true_right
theorem z33 : ∀ (b : Bool), (b || Bool.false) = b := @Bool.or_false
theorem z34 : ∀ (b : Bool), (b && Bool.true) = b := @Bool.and_true
theorem z35 : ∀ {x y : Bool}, (x || y) = Bool.false ↔ x = Bool.false ∧ y = Bool.false := @Bool.or_eq_false_iff
theorem z36 : ∀ (b : Bool), (¬b = Bool.true) = (b = Bool.false) := @Bool.not_eq_true
theorem z37.{u_1} : ∀ {α : Type u_1} [inst : BEq α] [LawfulBEq α] {a b : α}, (a != b) = Bool.true ↔ a ≠ b := @bne_iff_ne
theorem z38.{u_1} : ∀ {α : Type u_1} [inst : BEq α] [LawfulBEq α] {a b : α}, (a != b) = Bool.false ↔ a = b := @bne_eq_false_iff_eq
end Go.Lf
namespace Sp
abbrev LOp := Int × Int × Int × Unit
abbrev LEv := Int × LOp × Int × Unit
abbrev Lit := List (List LOp) × Unit
abbrev Gr := List LEv × List Int × List (List Int) × List Int × Unit
abbrev Rel := List (List Bool)
end Sp
namespace Go.User
open Go.Lf Go.Proofs
abbrev tI : Ty := .int .i64
abbrev tLOp : Ty := .prod tI (.prod tI (.prod tI .unit))
abbrev tLEv : Ty := .prod tI (.prod tLOp (.prod tI .unit))
abbrev tLit : Ty := .prod (.slice (.slice tLOp)) .unit
abbrev tGr : Ty := .prod (.slice tLEv) (.prod (.slice tI) (.prod (.slice (.slice tI)) (.prod (.slice tI) .unit)))
abbrev tRow : Ty := .arr 6 .bool
abbrev tRel : Ty := .arr 6 tRow
abbrev tPl : Ty := .prod tI (.prod tI .unit)
abbrev tCh : Ty := .prod (.int .u8) (.prod (.int .u8) (.prod tI .unit))
abbrev tOut : Ty := .prod (.slice tI) (.prod (.slice tI) .unit)
def tys : List (TypeId × Ty) := [(3, tI), (4, .bool), (32, .slice tI), (45, tLOp), (47, tLEv), (49, .slice tLOp), (27, .slice (.slice tLOp)), (29, tLit), (31, .slice tLEv),
  (33, .slice (.slice tI)), (35, tGr), (74, tRow), (76, tRel), (79, tPl), (82, .slice .bool), (5, .int .u8), (22, .slice (.int .u8)), (24, tCh), (25, .arr 3 tCh), (52, tOut), (56, .arr 2 (.int .u8)), (38, .slice tGr)]
def eqs : List TypeId := [45, 47]

theorem tys_ok : ∀ T τ, Lf.look tys T = some τ → RowOK Try.prog tys T τ := by
  have hall : ∀ (l : List (TypeId × Ty)), (∀ x ∈ l, RowOK Try.prog tys x.1 x.2) → ∀ T τ, Lf.look l T = some τ → RowOK Try.prog tys T τ := by
    intro l
    induction l with
    | nil => intro _ T τ h; cases h
    | cons x l ih =>
      intro h T τ hl
      simp only [Lf.look] at hl
      cases hb : Nat.beq x.1 T
      · rw [hb] at hl; exact ih (fun y hy => h y (by simp [hy])) T τ hl
      · rw [hb] at hl
        have := Nat.eq_of_beq_eq_true hb
        simp only [cond_true, Option.some.injEq] at hl
        rw [← this, ← hl]; exact h x (by simp)
  refine hall tys ?_
  intro x hx
  simp only [tys, List.mem_cons, List.not_mem_nil, or_false] at hx
  rcases hx with rfl | rfl | rfl | rfl | rfl | rfl | rfl | rfl | rfl | rfl | rfl | rfl | rfl | rfl | rfl | rfl | rfl | rfl | rfl | rfl | rfl | rfl
  · exact ⟨Try.t3, _, by kernel_rfl, Try.underlying3, by kernel_rfl, by decide, by kernel_rfl, by kernel_rfl⟩
  · exact ⟨Try.t4, _, by kernel_rfl, Try.underlying4, by kernel_rfl, by decide, by kernel_rfl, by kernel_rfl⟩
  · exact ⟨Try.t32, _, by kernel_rfl, Try.underlying32, by kernel_rfl, by decide, by kernel_rfl, by kernel_rfl⟩
  · exact ⟨Try.t45, _, by kernel_rfl, Try.underlying45, by kernel_rfl, by decide, by kernel_rfl, by kernel_rfl⟩
  · exact ⟨Try.t47, _, by kernel_rfl, Try.underlying47, by kernel_rfl, by decide, by kernel_rfl, by kernel_rfl⟩
  · exact ⟨Try.t49, _, by kernel_rfl, Try.underlying49, by kernel_rfl, by decide, by kernel_rfl, by kernel_rfl⟩
  · exact ⟨Try.t27, _, by kernel_rfl, Try.underlying27, by kernel_rfl, by decide, by kernel_rfl, by kernel_rfl⟩
  · exact ⟨Try.t29, _, by kernel_rfl, Try.underlying29, by kernel_rfl, by decide, by kernel_rfl, by kernel_rfl⟩
  · exact ⟨Try.t31, _, by kernel_rfl, Try.underlying31, by kernel_rfl, by decide, by kernel_rfl, by kernel_rfl⟩
  · exact ⟨Try.t33, _, by kernel_rfl, Try.underlying33, by kernel_rfl, by decide, by kernel_rfl, by kernel_rfl⟩
  · exact ⟨Try.t35, _, by kernel_rfl, Try.underlying35, by kernel_rfl, by decide, by kernel_rfl, by kernel_rfl⟩
  · exact ⟨Try.t74, _, by kernel_rfl, Try.underlying74, by kernel_rfl, by decide, by kernel_rfl, by kernel_rfl⟩
  · exact ⟨Try.t76, _, by kernel_rfl, Try.underlying76, by kernel_rfl, by decide, by kernel_rfl, by kernel_rfl⟩
  · exact ⟨Try.t79, _, by kernel_rfl, Try.underlying79, by kernel_rfl, by decide, by kernel_rfl, by kernel_rfl⟩
  · exact ⟨Try.t82, _, by kernel_rfl, Try.underlying82, by kernel_rfl, by decide, by kernel_rfl, by kernel_rfl⟩
  · exact ⟨Try.t5, _, by kernel_rfl, Try.underlying5, by kernel_rfl, by decide, by kernel_rfl, by kernel_rfl⟩
  · exact ⟨Try.t22, _, by kernel_rfl, Try.underlying22, by kernel_rfl, by decide, by kernel_rfl, by kernel_rfl⟩
  · exact ⟨Try.t24, _, by kernel_rfl, Try.underlying24, by kernel_rfl, by decide, by kernel_rfl, by kernel_rfl⟩
  · exact ⟨Try.t25, _, by kernel_rfl, Try.underlying25, by kernel_rfl, by decide, by kernel_rfl, by kernel_rfl⟩
  · exact ⟨Try.t52, _, by kernel_rfl, Try.underlying52, by kernel_rfl, by decide, by kernel_rfl, by kernel_rfl⟩
  · exact ⟨Try.t56, _, by kernel_rfl, Try.underlying56, by kernel_rfl, by decide, by kernel_rfl, by kernel_rfl⟩
  · exact ⟨Try.t38, _, by kernel_rfl, Try.underlying38, by kernel_rfl, by decide, by kernel_rfl, by kernel_rfl⟩

theorem eqs_ok : ∀ T, T ∈ eqs → EqRow Try.prog tys eqs T := by
  intro T hT
  simp only [eqs, List.mem_cons, List.not_mem_nil, or_false] at hT
  rcases hT with rfl | rfl
  · refine ⟨by kernel_rfl, by kernel_rfl, ?_⟩
    rw [Try.underlying45]
    decide
  · refine ⟨by kernel_rfl, by kernel_rfl, ?_⟩
    rw [Try.underlying47]
    decide

theorem mixed_ok : Try.prog.follows .mixedOrders = true := by kernel_rfl

theorem ctx_ok {C : Ctx} (h1 : C.tys = tys) (h2 : C.eqs = eqs) (h3 : ∀ f s, Lf.look C.fns f = some s → FOk Try.prog f s) (h4 : ∀ f s, Lf.look C.ptrs f = some s → POk Try.prog f s) : CtxOK Try.prog C :=
  ⟨by rw [h1]; exact tys_ok, h3, mixed_ok, by rw [h1, h2]; exact eqs_ok, h4⟩

theorem fns_nil {P : Program} : ∀ f s, Lf.look ([] : List (FuncId × FSpec)) f = some s → FOk P f s := fun _ _ h => by cases h
theorem ptrs_nil {P : Program} : ∀ f s, Lf.look ([] : List (FuncId × PSpec)) f = some s → POk P f s := fun _ _ h => by cases h
theorem fns_cons {P : Program} {g : FuncId} {t : FSpec} {l : List (FuncId × FSpec)} (h : FOk P g t) (hl : ∀ f s, Lf.look l f = some s → FOk P f s) : ∀ f s, Lf.look ((g, t) :: l) f = some s → FOk P f s := by
  intro f s hs
  simp only [Lf.look] at hs
  cases hb : Nat.beq g f
  · rw [hb] at hs; exact hl f s hs
  · rw [hb] at hs
    have := Nat.eq_of_beq_eq_true hb
    simp only [cond_true, Option.some.injEq] at hs
    rw [← this, ← hs]; exact h
theorem ptrs_cons {P : Program} {g : FuncId} {t : PSpec} {l : List (FuncId × PSpec)} (h : POk P g t) (hl : ∀ f s, Lf.look l f = some s → POk P f s) : ∀ f s, Lf.look ((g, t) :: l) f = some s → POk P f s := by
  intro f s hs
  simp only [Lf.look] at hs
  cases hb : Nat.beq g f
  · rw [hb] at hs; exact hl f s hs
  · rw [hb] at hs
    have := Nat.eq_of_beq_eq_true hb
    simp only [cond_true, Option.some.injEq] at hs
    rw [← this, ← hs]; exact h
end Go.User
namespace Sp
def idx (l : List Int) (n : Int) : Int := if n ∈ l then (l.idxOf n : Int) else -1
def reads (o : LOp) : Bool := decide (o.1 = 1) || decide (o.1 = 3)
def writes (o : LOp) : Bool := decide (o.1 = 2) || decide (o.1 = 3)
def usual (o : LOp) : Bool :=
  if o.1 = 4 then decide (o.2.1 = 0) && decide (o.2.2.1 = 0)
  else if o.1 = 1 then decide (0 ≤ o.2.1) && decide (o.2.1 < 3) && decide (o.2.2.1 = 0)
  else if o.1 = 2 ∨ o.1 = 3 then decide (0 ≤ o.2.1) && decide (o.2.1 < 3) && decide (-100 ≤ o.2.2.1) && decide (o.2.2.1 ≤ 100)
  else false
def byteAt (b : List Int) (i : Int) : Int := if i < b.length then b.getD i.toNat 0 else 0
def findI (p : LEv → Bool) (l : List LEv) : Int := match l.findIdx? p with
  | some i => i
  | none => -1
def ev0 : LEv := (0, (0, 0, 0, ()), 0, ())
def ev (e : List LEv) (n : Int) : LEv := e.getD n.toNat ev0
def value (e : List LEv) (n : Int) : Int :=
  if n < 0 then 0 else if (ev e n).2.1.1 = 3 then Go.IntKind.wrap .i64 ((ev e n).2.2.1 + (ev e n).2.1.2.2.1) else (ev e n).2.1.2.2.1
end Sp
namespace Go.User
open Go.Lf
def mkC (n : Nat) (fns : List (FuncId × FSpec)) : Ctx := { N := n, tys := tys, fns := fns, eqs := eqs }
-- at
def S22 : FSpec := { args := [.val (.slice tI), .val tI], multi := false, res := tI, mode := .shr, pre := fun _ => True, fn := fun x => Sp.idx x.1 x.2.1 }
def C22 : Ctx := mkC 19 []
def L22 (x : kdens S22.args) : List LoopI := [
  { ι := Nat, inv := fun i => i ≤ x.1.length ∧ x.2.1 ∉ x.1.take i, dec := fun i => x.1.length - i, ovr := fun i => [(5, .shr tI (i : Int))], keep := [0, 1] }]
def S39 := S22
def C39 := C22
def L39 := L22
def S63 := S22
def C63 := C22
def L63 (x : kdens S63.args) : List LoopI := [
  { ι := Nat, inv := fun i => i ≤ x.1.length ∧ x.2.1 ∉ x.1.take i, dec := fun i => x.1.length - i, ovr := fun i => [(8, .shr tI (i : Int))], keep := [0, 1, 7] }]
-- reads, writes
def S42 : FSpec := { args := [.val tLOp], multi := false, res := .bool, mode := .shr, pre := fun _ => True, fn := fun x => Sp.reads x.1 }
def C42 : Ctx := mkC 11 []
def L42 (x : kdens S42.args) : List LoopI := []
def S43 : FSpec := { args := [.val tLOp], multi := false, res := .bool, mode := .shr, pre := fun _ => True, fn := fun x => Sp.writes x.1 }
def C43 : Ctx := mkC 11 []
def L43 (x : kdens S43.args) : List LoopI := []
def S37 := S42
def C37 := C42
def L37 := L42
def S32 := S43
def C32 := C43
def L32 := L43
-- usual
def S62 : FSpec := { args := [.val tLOp], multi := false, res := .bool, mode := .shr, pre := fun _ => True, fn := fun x => Sp.usual x.1 }
def C62 : Ctx := mkC 46 []
def L62 (x : kdens S62.args) : List LoopI := []
def S61 : FSpec := { args := [.val tLEv], multi := false, res := .bool, mode := .shr, pre := fun _ => True, fn := fun x => !Sp.usual x.1.2.1 }
def C61 : Ctx := mkC 7 [(62, S62)]
def L61 (x : kdens S61.args) : List LoopI := []
-- IndexFunc, ContainsFunc
def S64 : FSpec := { args := [.val (.slice tLEv), .fn [tLEv] .bool], multi := false, res := tI, mode := .shr, pre := fun x => ∀ e, x.2.1.pre (e, ()), fn := fun x => Sp.findI (fun e => x.2.1.fn (e, ())) x.1 }
def C64 : Ctx := mkC 19 []
def L64 (x : kdens S64.args) : List LoopI := [
  { ι := Nat, inv := fun i => i ≤ x.1.length ∧ ∀ e ∈ x.1.take i, x.2.1.fn (e, ()) = false, dec := fun i => x.1.length - i, ovr := fun i => [(8, .shr tI (i : Int))], keep := [0, 1, 7] }]
def S60 : FSpec := { args := [.val (.slice tLEv), .fn [tLEv] .bool], multi := false, res := .bool, mode := .shr, pre := fun x => ∀ e, x.2.1.pre (e, ()), fn := fun x => List.any x.1 (fun e => x.2.1.fn (e, ())) }
def C60 : Ctx := mkC 9 [(64, S64)]
def L60 (x : kdens S60.args) : List LoopI := []
-- value
def S40 : FSpec := { args := [.val tGr, .val tI], multi := false, res := tI, mode := .shr, pre := fun x => x.2.1 < (x.1.1.length : Int), fn := fun x => Sp.value x.1.1 x.2.1 }
def C40 : Ctx := { mkC 36 [] with wrp := [28] }
def L40 (x : kdens S40.args) : List LoopI := []
def S44 := S40
def C44 : Ctx := { mkC 38 [] with wrp := [30] }
def L44 (x : kdens S44.args) : List LoopI := []
-- byteAt
def S38 : FSpec := { args := [.val (.slice (.int .u8)), .val tI], multi := false, res := tI, mode := .shr, pre := fun x => 0 ≤ x.2.1, fn := fun x => Sp.byteAt x.1 x.2.1 }
def C38 : Ctx := mkC 14 []
def L38 (x : kdens S38.args) : List LoopI := []
-- closures of Right
def S46 : FSpec := { args := [.val tLOp, .sptr tI], multi := false, res := .bool, mode := .shr, pre := fun _ => True, fn := fun x => Sp.writes x.1 && decide (x.1.2.1 = x.2.1) }
def C46 : Ctx := mkC 12 [(43, S43)]
def L46 (x : kdens S46.args) : List LoopI := []
def S47 : FSpec := { args := [.val tLOp], multi := false, res := .bool, mode := .shr, pre := fun _ => True, fn := fun x => decide (x.1.1 = 4) }
def C47 : Ctx := mkC 6 []
def L47 (x : kdens S47.args) : List LoopI := []
-- store, load, fence
def S27 : FSpec := { args := [.val tI, .val tI], multi := false, res := tLOp, mode := .shr, pre := fun _ => True, fn := fun x => (2, x.1, x.2.1, ()) }
def S28 : FSpec := { args := [.val tI], multi := false, res := tLOp, mode := .shr, pre := fun _ => True, fn := fun x => (1, x.1, 0, ()) }
def S29 : FSpec := { args := [], multi := false, res := tLOp, mode := .shr, pre := fun _ => True, fn := fun _ => (4, 0, 0, ()) }
def C27 : Ctx := mkC 8 []
def L27 (x : kdens S27.args) : List LoopI := []
def C28 : Ctx := mkC 5 []
def L28 (x : kdens S28.args) : List LoopI := []
def C29 : Ctx := mkC 2 []
def L29 (x : kdens S29.args) : List LoopI := []
end Go.User
