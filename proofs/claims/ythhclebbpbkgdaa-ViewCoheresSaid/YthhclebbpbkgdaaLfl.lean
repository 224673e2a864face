/- Written by gen.py: what is left to show of each function. Valid tests, the state at first: as they should be. A closure that captures the variable that it is put into: how it comes to be. A body that makes a closure which captures its own variable: from its proposition to its contract. All outcomes: what is computed. Written by gen.py: what is left to show of each function. All outcomes: as they should be. The examples: what is computed. Written by gen.py: what is left to show of each function. The examples are as they should be. Tests out of bytes, whether a test is valid: the reference: what is computed. Written by gen.py: what is left to show of each function. Tests out of bytes, whether a test is valid: as they should be. Whether a test is valid: the reference: as it should be. ViewRefuses: what is computed. ViewRefuses: what is computed. The reference's state at first: what is computed. Written by gen.py: what is left to show of each function. The reference's steps, its search; the program's steps; runs: what is computed. Written by gen.py: what is left to show of each function. The reference's state at first, a copy of a state, an outcome: as they should be. The reference's step: as it should be. -/
import Derived.Test.YthhclebbpbkgdaaLfk
set_option linter.unusedVariables false
set_option linter.unusedSimpArgs false
namespace Go.User
open Go.Proofs Go.Lf
set_option maxRecDepth 100000
theorem vc42 : (funI C42 (stpS C42) S42 L42 Try.f42) = (
let q0 : Nat := (1000 : Nat);
let q1 : Prop := True ∧ True ∧ True;
let q2 : Int := (1 : Int);
∀ (x : Sp.Lit × Unit),
 let q3 : Prop := Sp.total x.1.1 ≤ q0;
 let q4 : Int := (↑x.1.1.length : Int);
 let q5 : Bool := decide (q2 ≤ q4);
 let q6 : Prop := (true && bif q5 then true else false) = true → True;
 let q7 : Bool := bif q5 then decide (q4 ≤ (4 : Int)) else false;
 let q8 : Prop := (true && bif q7 then true else false) = true → True;
 let q9 : Int := (↑(Sp.cat x.1.1).length : Int);
 let q10 : Bool := bif q7 then decide (q2 ≤ q9) else false;
 let q11 : Prop := (true && bif q10 then true else false) = true → True;
 let q12 : Bool := bif q10 then decide (q9 ≤ (6 : Int)) else false;
 let q13 : Prop := (true && bif q12 then true else false) = true;
 let q14 : Prop := q13 → True;
 q3 → dFact tLit x.1 ∧ True → (q1 ∧ True) ∧ ((True ∧ True ∧ q3 ∧ True) ∧ True ∧ True) ∧ ((True ∧ True) ∧ True ∧ True) ∧ (True ∧ q1) ∧ ((True ∧ True ∧ True ∧ True ∧ True ∧ q6 ∧ q6 ∧ q6 ∧ q6 ∧ True ∧ True ∧ q8 ∧ q8 ∧ q8 ∧ True ∧ True ∧ q11 ∧ q11 ∧ q11 ∧ True ∧ True ∧ q14 ∧ q14 ∧ (q13 → ∀ (e : Sp.LOp), Option.some ((75 : Nat), ([] : List Int)) = Option.some ((75 : Go.FuncId), ([] : List Int))) ∧ q14 ∧ q1) ∧ True) ∧ (bif q12 then !(Sp.cat x.1.1).any fun (e : tLOp.den) => !Sp.usual e else false) = Sp.valid x.1) := by kernel_rfl
theorem vc19 : (funI C19 (stpS C19) S19 L19 Try.f19) = (
let q0 : Nat := (1000 : Nat);
let q1 : Prop := True ∧ True ∧ True;
let q2 : Prop := (True ∧ True) ∧ q1;
let q3 : Nat := (3 : Nat);
let q4 : List (List Sp.Msg) := List.replicate q3 (([] : List tMsg.den));
let q5 : Int := (0 : Int);
let q6 : List Int := List.replicate q3 q5;
let q7 : List Int × Unit := (([] : List tI.den), ());
let q8 : Sp.VSt := ((([] : List tLOp.slice.den), ()), ([] : List tI.den), q4, ([] : List tV3.den), q6, ([] : List tI.den), ([] : List tI.den), q7);
let q9 : Int := (0 : tI.den);
let q10 : Nat := (0 : Nat);
let q11 : Int := (1 : Int);
let q12 : Int := -q11;
let q13 : Nat := (1 : Nat);
let q14 : List Int := ((q6.set q10 q12).set q13 q12).set (2 : Nat) q12;
let q15 : List (List Int) := q14 :: ([] : List tV3.den);
let q16 : Int := (0 : (AK.val tI).den);
let q17 : Int := (6 : (AK.val tI).den);
let q18 : List Int := q12 :: ([] : List tI.den);
let q19 : Prop := (True ∧ True) ∧ True;
let q20 : Prop := q8 = q8 ∧ q5 = q5 ∧ True;
∀ (x : Sp.Lit × Unit),
 let q21 : Prop := Sp.total x.1.1 ≤ q0;
 let q22 : Bool := !Sp.valid x.1;
 let q23 : Sp.VSt × Int × Unit := (Sp.stA x.1, Sp.errA x.1, ());
 let q24 : Nat := x.1.1.length;
 let q25 : Int := (↑q24 : Int);
 let q26 : Int := (↑(Sp.cat x.1.1).length : Int);
 let q27 : Nat := q25.toNat;
 let q28 : Nat := q26.toNat;
 let q29 : List Int := Sp.zeros q24;
 let q30 : List (List Int) × List Int × List Int × Sp.Out := (Sp.views q24, Sp.v0, Sp.zeros (Sp.total x.1.1), Sp.froms (Sp.total x.1.1), q7);
 q21 →
 dFact tLit x.1 ∧ True →
 ((True ∧ q1) ∧ True) ∧
 ((True ∧ q21 ∧ True ∧ True) ∧ True) ∧
 (q22 = true → q2 ∧ (q8, (300 : Int), ()) = q23) ∧
 (q22 = false →
 (q1 ∧ True ∧ True) ∧
 ((True ∧ True ∧ q21 ∧ q1) ∧ True) ∧
 ((True ∧ True ∧ True ∧ True ∧ (q9 ≤ q25 ∧ q25 ≤ q25 ∧ q25 ≤ maxNew) ∧ True ∧ True ∧ True ∧ True ∧ True ∧ (q15.length = q13 ∧ q16 ≤ q25 ∧ q25 ≤ q17) ∧ True ∧ True ∧ (q9 ≤ q26 ∧ q26 ≤ q26 ∧ q26 ≤ maxNew) ∧ True ∧ True ∧ (q18.length = q13 ∧ q16 ≤ q26 ∧ q26 ≤ q17) ∧ q1) ∧ True ∧ True) ∧
 q19 ∧
 (∃ (x_1 : Nat), x_1 ≤ q3 ∧ q5 = (↑x_1 : Int) ∧ (x.1, List.replicate q27 q5, q4, List.replicate q27 (q15.getD q10 (([] : List tI.den))), q14, List.replicate q28 q5, List.replicate q28 (q18.getD q10 (0 : tI.den)), q7) = (x.1, q29, Sp.memI x_1, q30) ∧ q20) ∧
 ∀ (x_1 : Nat),
 let q31 : Sp.VSt := (x.1, q29, Sp.memI x_1, q30);
 let q32 : Bool := decide ((↑x_1 : Int) < (3 : Int));
 let q33 : Int := (↑x_1 : Int) + q11;
 x_1 ≤ q3 → dFact tI (↑x_1 : Int) ∧ dFact (tLit.prod (tI.slice.prod ((Ty.arr q3 tMsg.slice).prod ((Ty.arr q3 tI).slice.prod ((Ty.arr q3 tI).prod (tI.slice.prod tOut)))))) q31 ∧ True → q19 ∧ (q32 = true → (q1 ∧ True) ∧ ((True ∧ True ∧ True ∧ True ∧ inN (↑x_1 : Int) q3 ∧ True) ∧ True ∧ True) ∧ ((inK IntKind.i64 q33 ∧ True ∧ True) ∧ True) ∧ ∃ (y : Nat), y ≤ q3 ∧ q3 - y < q3 - x_1 ∧ q33 = (↑y : Int) ∧ (x.1, q29, (Sp.memI x_1).set (↑x_1 : Int).toNat ((q12, q5, false, ()) :: ([] : List tMsg.den)), q30) = (x.1, q29, Sp.memI y, q30) ∧ q20) ∧ (q32 = false → q2 ∧ (q31, q5, ()) = q23))) := by kernel_rfl
end Go.User
namespace Sp
theorem memI_succ {n : Nat} (h : n < 3) : (memI n).set n [m0] = memI (n + 1) := by
 have : n = 0 ∨ n = 1 ∨ n = 2 := by omega
 rcases this with rfl | rfl | rfl <;> rfl
theorem valid_iff {t : Lit} : valid t = true ↔ 1 ≤ t.1.length ∧ t.1.length ≤ 4 ∧ 1 ≤ total t.1 ∧ total t.1 ≤ 6 ∧ ∀ o ∈ cat t.1, usual o = true := by
 unfold valid
 have e : (!((cat t.1).any fun o => !usual o)) = true ↔ ∀ o ∈ cat t.1, usual o = true := by
  rw [Bool.not_eq_true', List.any_eq_false]
  constructor
  ·intro h o ho
   have := h o ho
   cases hu : usual o
   ·rw [hu] at this; exact absurd rfl this
   ·rfl
  ·intro h o ho
   rw [h o ho]; decide
 rw [Bool.and_eq_true, Bool.and_eq_true, Bool.and_eq_true, Bool.and_eq_true, e, decide_eq_true_eq, decide_eq_true_eq, decide_eq_true_eq, decide_eq_true_eq]
 constructor
 ·rintro ⟨⟨⟨⟨h1, h2⟩, h3⟩, h4⟩, h5⟩
  exact ⟨h1, h2, h3, h4, h5⟩
 ·rintro ⟨h1, h2, h3, h4, h5⟩
  exact ⟨⟨⟨⟨h1, h2⟩, h3⟩, h4⟩, h5⟩
end Sp
namespace Go.User
open Go.Lf Go.Proofs
theorem ok42 : FOk Try.prog 42 S42 := by
 have hC : CtxOK Try.prog C42 := okC (fns_cons okCat (fns_cons ok76 (fns_cons ok77 fns_nil))) rfl rfl rfl rfl rfl rfl rfl
 refine FOk.intro hC (stpS_ok hC) Try.call42 Try.func42 (by kernel_rfl) (by kernel_rfl) L42 (vc42.mpr ?_)
 simp only [zz, zy]
 rintro ⟨t, u⟩ h hx
 have h : Sp.total t.1 ≤ 1000 := h
 have hc := Sp.cat_len t.1
 refine ⟨h, ?_⟩
 show (decide ((1 : Int) ≤ (t.1.length : Int)) && decide ((t.1.length : Int) ≤ 4) && decide ((1 : Int) ≤ ((Sp.cat t.1).length : Int)) && decide (((Sp.cat t.1).length : Int) ≤ 6) && !((Sp.cat t.1).any fun e => !Sp.usual e)) = Sp.valid t
 unfold Sp.valid
 rw [hc]
 have e1 : decide ((1 : Int) ≤ (t.1.length : Int)) = decide (1 ≤ t.1.length) := decide_eq_decide.2 (by omega)
 have e2 : decide ((t.1.length : Int) ≤ 4) = decide (t.1.length ≤ 4) := decide_eq_decide.2 (by omega)
 have e3 : decide ((1 : Int) ≤ ((Sp.total t.1 : Nat) : Int)) = decide (1 ≤ Sp.total t.1) := decide_eq_decide.2 (by omega)
 have e4 : decide (((Sp.total t.1 : Nat) : Int) ≤ 6) = decide (Sp.total t.1 ≤ 6) := decide_eq_decide.2 (by omega)
 rw [e1, e2, e3, e4]
theorem ok19 : FOk Try.prog 19 S19 := by
 have hC : CtxOK Try.prog C19 := okC (fns_cons ok42 (fns_cons okCat (fns_cons ok44 (fns_cons ok45 fns_nil)))) rfl rfl rfl rfl rfl rfl rfl
 refine FOk.intro hC (stpS_ok hC) Try.call19 Try.func19 (by kernel_rfl) (by kernel_rfl) L19 (vc19.mpr ?_)
 simp only [zz, zy]
 rintro ⟨t, u⟩ h hx
 have h : Sp.total t.1 ≤ 1000 := h
 have hc := Sp.cat_len t.1
 refine ⟨h, fun hv => ?_, fun hv => ?_⟩
 ·have hv : Sp.valid t = false := by simpa using hv
  show (Sp.stZ, (300 : Int), ()) = (Sp.stA t, Sp.errA t, ())
  unfold Sp.stA Sp.errA
  rw [if_neg (by rw [hv]; decide), if_neg (by rw [hv]; decide)]
 ·have hv : Sp.valid t = true := by simpa using hv
  obtain ⟨v1, v2, v3, v4, v5⟩ := Sp.valid_iff.1 hv
  have hmx : maxNew = 2147483648 := rfl
  refine ⟨h, ⟨⟨Int.natCast_nonneg _, Int.le_refl _, ?_⟩, ⟨Int.natCast_nonneg _, ?_⟩, ⟨Int.natCast_nonneg _, Int.le_refl _, ?_⟩, Int.natCast_nonneg _, ?_⟩, ⟨0, by omega, rfl, ?_⟩, fun n hn _ => ⟨fun hlt => ⟨⟨by omega, hlt⟩, inK_mid (by omega) (by omega), n + 1, ?_, ?_, ?_, ?_⟩, fun hge => ?_⟩⟩
  ·show (t.1.length : Int) ≤ maxNew; omega
  ·show (t.1.length : Int) ≤ 6; omega
  ·show ((Sp.cat t.1).length : Int) ≤ maxNew; omega
  ·show ((Sp.cat t.1).length : Int) ≤ 6; omega
  ·show (t, List.replicate t.1.length (0 : Int), List.replicate 3 ([] : List Sp.Msg), List.replicate t.1.length Sp.v0, Sp.v0, List.replicate (Sp.cat t.1).length (0 : Int), List.replicate (Sp.cat t.1).length (-1 : Int), ([] : List Int), ()) = Sp.stI t 0
   rw [hc]; rfl
  ·have hlt : (n : Int) < 3 := hlt
   omega
  ·have hlt : (n : Int) < 3 := hlt
   omega
  ·omega
  ·have hlt : (n : Int) < 3 := hlt
   show (t, Sp.zeros t.1.length, (Sp.memI n).set n [Sp.m0], Sp.views t.1.length, Sp.v0, Sp.zeros (Sp.total t.1), Sp.froms (Sp.total t.1), ([] : List Int), ()) = Sp.stI t (n + 1)
   rw [Sp.memI_succ (by omega)]; rfl
  ·have hn : n ≤ 3 := hn
   have hge : (3 : Int) ≤ (n : Int) := hge
   have hn3 : n = 3 := by omega
   subst hn3
   show (Sp.start t, (0 : Int), ()) = (Sp.stA t, Sp.errA t, ())
   unfold Sp.stA Sp.errA
   rw [if_pos hv, if_pos hv]
end Go.User
namespace Go.Lf
section
variable {P : Program} {C : Ctx} {N : NP} {w0 : World} {F0 H : NSet} {env : St} {a : Act} {w : World} {F : NSet} {S : Nat → NSet} {d : Nat}

/-- Something is found out about a slot of which nothing was known. -/
theorem Inv0.know (hi : Inv0 P N w0 F0 H env a w F S) {t : Nat} (ht : env t = .dead) {e : Ent} (ho : e.isOwner = false) (hr : e.root = none) (he : EntOK P F w env (fun t => a.tmps.getD t undef) S t e) :
  Inv0 P N w0 F0 H (upd env t e) a w F S := by
 have keep : ∀ u (x : Ent), EntOK P F w env (fun t => a.tmps.getD t undef) S u x → EntOK P F w (upd env t e) (fun t => a.tmps.getD t undef) S u x := by
  intro u x h
  refine EntOK.keep (fun _ h => h) (fun _ _ => rfl) rfl ?_ ?_ h
  ·intro q hq
   refine ⟨fun hoq => ?_, fun _ => rfl, rfl, fun _ _ => rfl, fun b h1 h2 => absurd h1 h2, fun b hb => (hi.sb q b hb).2.2⟩
   have hqt : q ≠ t := fun e => by rw [e, ht] at hoq; cases hoq
   rw [upd_ne _ _ hqt]
  ·intro _
   exact ⟨rfl, fun _ _ => rfl, fun b h1 h2 => absurd h1 h2⟩
 refine ⟨hi.os, hi.tape, hi.output, hi.size, hi.block, hi.fb, hi.f0, hi.fn, hi.sb, hi.sd, ?_, hi.defers, hi.slots⟩
 intro u
 by_cases h : u = t
 ·subst h; rw [upd_same]; exact keep u e he
 ·rw [upd_ne _ _ h]; exact keep u _ (hi.ent u)

/-- A variable becomes shared as something else is stored in it. -/
theorem Inv0.share (hi : Inv0 P N w0 F0 H env a w F S) {s : Nat} {τ : Ty} {m : Md} {x : τ.den} (hs : env s = .box τ m x) {w' : World} {σ : Ty} {y : σ.den}
  (h1 : w'.os = w.os) (h2 : w'.tape = w.tape) (h3 : w'.output = w.output) (h4 : w'.heap.size = w.heap.size) (h5 : ∀ k, k < w.heap.size → ¬ S s k → w'.heap[k]? = w.heap[k]?)
  (he : SAddr (fun b => F b ∨ S s b) w' (a.tmps.getD s undef) σ y) :
  Inv0 P N w0 F0 H (upd (Go.Lf.drop env s) s (.saddr σ y)) a w' (fun b => F b ∨ S s b) (fun t => if t = s then none' else S t) := by
 have hi1 := hi.drop s
 have hi2 := hi1.worldZ (w' := w') (F' := fun b => F b ∨ S s b) (Z := S s) h1 h2 h3 (by omega) h5 (fun k hk => ⟨(hi.sb s k hk).1, (hi.sb s k hk).2.2, fun t ht => by
   by_cases h : t = s
   ·simp only [h, if_true] at ht; exact ht
   ·simp only [h, if_false] at ht; exact hi.sd t s h k ht hk⟩) (fun b hb => .inl hb) (fun b hb => by
   rcases hb with hb | hb
   ·have := hi.fb b hb; omega
   ·have := (hi.sb s b hb).2.1; omega) (fun b hb hn => .inr (hb.resolve_left hn))
 exact hi2.know (e := .saddr σ y) (by unfold Go.Lf.drop; rw [upd_same]) rfl rfl he

/-- The closure is made, and put into its variable. -/
theorem bind_self (hC : CtxOK P C) (hi : Inv0 P N w0 F0 H env a w F S) {T : TypeId} {f gf : FuncId} {d s p g : Nat} {τ : Ty} {m mg ms : Md} {x : τ.den} {z : Abs.den .kno} {ops : Array Oper} {o1 o2 : Oper} {Q : Exit → Act → World → Prop}
  (hops : ops.toList = [o1, o2]) (h1 : o1.op = .makeFunc (.func f) #[] #[.tmp s, .tmp p, .tmp g]) (h2 : o1.dst = some d) (h3 : o1.guard = none) (h4 : o2.op = .store T (.tmp s) (.tmp d)) (h5 : o2.dst = none) (h6 : o2.guard = none)
  (hT : look C.tys T = some (.abs .kno)) (hd : Wr N d) (hds : d ≠ s) (hdp : d ≠ p) (hdg : d ≠ g) (hsp : s ≠ p) (hsg : s ≠ g) (hpg : p ≠ g)
  (es : env s = .box (.abs .kno) ms z) (ep : env p = .box τ m x) (eg : env g = .box (.abs .clo) mg (some (gf, [])))
  (hK : ∀ q a' w' F' S', a'.tmps.getD p undef = .pointer (some ⟨q, 0, none⟩) → Inv0 P N w0 F0 H (upd (Go.Lf.drop (Go.Lf.put (upd (kill env g) g (.saddr (.abs .clo) (some (gf, [])))) d .dead) s) s (.saddr (.abs .kno) (some (f, [.self, .own q, .fn gf])))) a' w' F' S' → Q .normal a' w') :
  wpOps P ops Q (List.range' 0 ops.size) a w := by
 have hsz : ops.size = 2 := by have := congrArg List.length hops; simpa using this
 have g0 : ops[0]? = some o1 := by have : ops.toList[0]? = some o1 := (by rw [hops]; rfl); simpa using this
 have g1 : ops[1]? = some o2 := by have : ops.toList[1]? = some o2 := (by rw [hops]; rfl); simpa using this
 rw [hsz]
 have hpv : ∃ q, a.tmps.getD p undef = .pointer (some ⟨q, 0, none⟩) := by
  have h := hi.ent p
  rw [ep] at h
  obtain ⟨pl, S0, cs, hr⟩ := h
  obtain ⟨_, _, b, _, _, hv, _⟩ := hr.box_inj
  exact ⟨b, hv⟩
 obtain ⟨q, hq⟩ := hpv
 have hi1 := hi.freeze eg
 obtain ⟨env1, henv1⟩ : ∃ env1, env1 = upd (kill env g) g (.saddr (.abs .clo) (some (gf, []))) := ⟨_, rfl⟩
 rw [← henv1] at hi1 hK
 have hk : ∀ t, t ≠ g → (env t).isOwner = true → env1 t = env t := by
  intro t h1 h2
  rw [henv1, upd_ne _ _ h1]
  unfold kill killE
  rw [Ent.owner_root h2]
 have es1 : env1 s = .box (.abs .kno) ms z := by rw [hk s hsg (by rw [es]; rfl), es]
 have eg1 : env1 g = .saddr (.abs .clo) (some (gf, [])) := by rw [henv1, upd_same]
 obtain ⟨v, hv⟩ : ∃ v, v = Value.func (.func f) #[] #[a.tmps.getD s undef, a.tmps.getD p undef, a.tmps.getD g undef] := ⟨_, rfl⟩
 have hrun1 : (execOp a.eval o1).run P w = .ok (.value v) w := by
  rw [hv]; simp [execOp, h1, Instr.makeFunc, Act.eval]
 have hi2 := hi1.put (d := d) (e := .dead) (v := v) (w' := w) (Sd := none') hd (RowKit.Below.refl _ _) (fun _ h => h) hi1.fb (fun b h1 h2 => absurd h1 h2) (fun b h => h.elim) trivial
 obtain ⟨env2, henv2⟩ : ∃ env2, env2 = Go.Lf.put env1 d .dead := ⟨_, rfl⟩
 rw [← henv2] at hi2 hK
 have hkeep2 : ∀ t, t ≠ d → (env1 t).root ≠ some d → env2 t = env1 t := by
  intro t h1 h2
  rw [henv2]
  unfold Go.Lf.put
  cases (env1 d).isOwner
  ·simp only [cond_false]; rw [upd_ne _ _ h1]
  ·simp only [cond_true]
   rw [upd_ne _ _ h1]
   exact killE_same h2
 have es2 : env2 s = .box (.abs .kno) ms z := by rw [hkeep2 s (Ne.symm hds) (by rw [es1]; intro h; cases h), es1]
 have eg2 : env2 g = .saddr (.abs .clo) (some (gf, [])) := by rw [hkeep2 g (Ne.symm hdg) (by rw [eg1]; intro h; cases h), eg1]
 refine ops_value (v := v) g0 h3 hrun1 ?_
 rw [h2]
 have hval : ∀ t, t ≠ d → (a.put (some d) v).tmps.getD t undef = a.tmps.getD t undef := fun t ht => by rw [Act.getD_put (by rw [hi.slots.size]; exact hd.1), if_neg ht]
 have hvd : (a.put (some d) v).tmps.getD d undef = v := by rw [Act.getD_put (by rw [hi.slots.size]; exact hd.1), if_pos rfl]
 obtain ⟨F2, hF2⟩ : ∃ F2 : NSet, F2 = (fun b => F b ∨ S g b) := ⟨_, rfl⟩
 rw [← hF2] at hi2
 generalize (fun t => if t = d then none' else (fun t => if t = g then none' else S t) t) = S2 at hi2
 have hs2 := hi2.ent s
 rw [es2] at hs2
 obtain ⟨pl, S0, cs, hR⟩ := hs2
 obtain ⟨_, _, b, rfl, hS0, hvs, hsb⟩ := hR.box_inj
 obtain ⟨q1, q2, row, T0, q3, q4, q5⟩ := hR.2.1
 have hbb := hi2.sb s b hsb
 have hone : v.oneCell' = true := by rw [hv]; rfl
 obtain ⟨w', k1, k2, k3, k4, k5, k6, k7⟩ := (hC.types T _ hT).storeVar (P := P) (cs := [v]) q3 q4 rfl (by intro u hu; rw [List.mem_singleton.1 hu]; exact hone)
 obtain ⟨e1, orow, row', T', e3, e4, e5, e6⟩ := k2
 have hrun2 : (execOp (a.put (some d) v).eval o2).run P w = .ok .skip w' := by
  have hs' : (a.put (some d) v).eval (.tmp s) = .pointer (some ⟨b, 0, none⟩) := hvs
  have hd' : (a.put (some d) v).eval (.tmp d) = v := hvd
  have k1' : (storeVar T ⟨b, 0, none⟩ v).run P w = .ok () w' := k1
  simp [execOp, h4, Instr.storeAt, hs', hd', Instr.sureAddr, k1']
 refine ops_skip g1 h6 hrun2 h5 (ops_nil ?_)
 have hgs := hi2.ent g
 rw [eg2] at hgs
 have hgs : SAddr F2 w ((a.put (some d) v).tmps.getD g undef) (.abs .clo) (some (gf, [])) := hgs
 have hrl : 1 ≤ row'.size := by
  have := congrArg List.length e6
  simp only [Array.length_toList, List.length_append, List.length_singleton] at this
  omega
 have hrow' : seg row'.toList 0 1 = [v] := by
  rw [e6]
  simp [seg]
 refine hK q _ w' _ _ (by rw [hval p (Ne.symm hdp)]; exact hq) (hi2.share es2 k5 k6 k7 (by omega) (fun k hk hn => k3 k (fun e => hn (e ▸ hsb))) ?_)
 refine ⟨b, 0, row', T', (0, 0), hvs, .inr hsb, e4, by show 0 + 1 ≤ row'.size; omega, ?_⟩
 show AbsOK _ w' .kno (seg row'.toList 0 1) _
 rw [hrow']
 refine ⟨_, by rw [hv], ?_⟩
 have hcell : CellAt (fun b => F2 b ∨ S2 s b) w' (a.tmps.getD s undef) v := by
  refine ⟨b, 0, row', T', (0, 0), ?_, .inr hsb, e4, ?_⟩
  ·rw [← hval s (Ne.symm hds)]; exact hvs
  ·have := congrArg (fun l => l[0]?) hrow'
   simpa [seg] using this
 refine ⟨_, _, rfl, by rw [← hv]; exact hcell, _, _, rfl, hq, _, _, rfl, ?_, rfl⟩
 obtain ⟨gb, goff, grow, gT, gfr, j1, j2, j3, j4, caps, j5, j6⟩ := hgs
 refine ⟨gb, goff, grow, gT, gfr, by rw [← hval g (Ne.symm hdg)]; exact j1, .inl j2, ?_, ?_⟩
 ·rw [k3 gb (fun e => hbb.2.2 (e ▸ j2))]; exact j3
 ·have hc0 : caps = #[] := by
   cases hcl : caps.toList with
   | nil => apply Array.ext'; simpa using hcl
   | cons u us => rw [hcl] at j6; obtain ⟨_, _, h, _⟩ := j6; cases h
  subst hc0
  have j5 : seg grow.toList goff 1 = [Value.func (.func gf) #[] #[]] := j5
  have := congrArg (fun l => l[0]?) j5
  simpa [seg] using this
end
end Go.Lf
namespace Go.Lf

def selfSt (st : St) (f gf : FuncId) (d s g q : Nat) : St :=
 upd (Go.Lf.drop (Go.Lf.put (upd (kill st g) g (.saddr (.abs .clo) (some (gf, [])))) d .dead) s) s (.saddr (.abs .kno) (some (f, [.self, .own q, .fn gf])))
def selfB (C1 : Ctx) (T : TypeId) (d d' s s' p p' g : Nat) : Bool :=
 Nat.beq s s' && Nat.beq d d' && Nat.beq p p' && wrB C1 d && !Nat.beq d s && !Nat.beq d p && !Nat.beq d g && !Nat.beq s p && !Nat.beq s g && !Nat.beq p g && decide (look C1.tys T = some (.abs .kno))
/-- The region in which the closure is made. -/
def selfP (C1 : Ctx) (p : Nat) (ops : List Oper) (st : St) (Φ : Nat → St → Prop) : Prop := match ops with
 | [o1, o2] => (match o1.op, o1.dst, o1.guard, o2.op, o2.dst, o2.guard with
  | .makeFunc (.func f) first caps, some d, none, .store T (.tmp s) (.tmp d'), none, none => (match first.toList, caps.toList with
   | [], [.tmp s', .tmp p', .tmp g] => (match st s, st p, st g with
    | .box (.abs .kno) _ _, .box _ _ _, .box (.abs .clo) _ (some (gf, [])) => bif selfB C1 T d d' s s' p p' g then ∀ q, Φ q (selfSt st f gf d s g q) else False
    | _, _, _ => False)
   | _, _ => False)
  | _, _, _, _, _, _ => False)
 | _ => False
def wpS (C1 : Ctx) (stp1 : St → Oper → Option (Prop × St)) (C2 : Nat → Ctx) (stp2 : Nat → St → Oper → Option (Prop × St)) (p : Nat) (L1 : List LoopI) (L2 : Nat → List LoopI) :
  Nat → Code → Nat → St → (St → Prop) → (Nat → St → Prop) → (St → Prop) → Prop
 | n + 1, .seq a b, k, st, Qn, Qx, Qr => wpI C1 stp1 L1 a k st (fun st' => wpS C1 stp1 C2 stp2 p L1 L2 n b (k + nl a) st' Qn Qx Qr) Qx Qr
 | 0, .seq (.region _ ops false) c, k, st, Qn, Qx, Qr => selfP C1 p ops.toList st fun q st' => wpI (C2 q) (stp2 q) (L2 q) c k st' Qn Qx Qr
 | _, _, _, _, _, _, _ => False
def funS (C1 : Ctx) (stp1 : St → Oper → Option (Prop × St)) (C2 : Nat → Ctx) (stp2 : Nat → St → Oper → Option (Prop × St)) (p n : Nat) (s : FSpec) (L1 : kdens s.args → List LoopI) (L2 : Nat → kdens s.args → List LoopI) (fn : Func) : Prop :=
 match fn.body with
 | some c => ∀ x, s.pre x → factsK s.args x → wpS C1 stp1 C2 stp2 p (L1 x) (fun q => L2 q x) n c 0 (ofL (argsEnt s.args x 0)) (retP C1 fn.results.toList s (s.fn x)) (fun _ _ => False) (retP C1 fn.results.toList s (s.fn x))
 | none => False

section
variable {P : Program} {w0 : World} {F0 H : NSet}
theorem nbeq_no {a b : Nat} (h : Nat.beq a b = false) : a ≠ b := fun e => by rw [e, Nat.beq_refl] at h; cases h
theorem kill_box {st : St} {r p : Nat} {τ : Ty} {m : Md} {x : τ.den} (h : st p = .box τ m x) : kill st r p = .box τ m x := by
 unfold kill killE; rw [h]; rfl
theorem selfP_ok {C1 : Ctx} {C2 : Nat → Ctx} {p : Nat} (hC1 : CtxOK P C1) (hp : C1.pin = none) (hnp : ∀ q, (C2 q).np = ⟨C1.N, some p, q⟩) {ops : Array Oper} {st : St} {Φ : Nat → St → Prop} {Q : Exit → Act → World → Prop} {a : Act} {w : World} {id : Nat}
  (h : selfP C1 p ops.toList st Φ) (hi : Inv P C1.np w0 F0 H st a w)
  (hQ : ∀ q st' a' w' F S, Φ q st' → Inv P C1.np w0 F0 H st' a' w' → Inv0 P (C2 q).np w' F (fun b => ∃ t, S t b) st' a' w' F S → Inv0 P C1.np w0 F0 H st' a' w' F S → Q .normal a' w') :
  (Code.region id ops false).wp P Q a w := by
 unfold selfP at h
 split at h
 ·rename_i o1 o2 hops
  split at h
  ·rename_i f first caps d T s d' h1 h2 h3 h4 h5 h6
   split at h
   ·rename_i s' p' g hfirst hcaps
    split at h
    ·rename_i ms z τ m x mg gf es ep eg
     cases hb : selfB C1 T d d' s s' p p' g
     ·rw [hb] at h; exact h.elim
     rw [hb] at h
     simp only [cond_true] at h
     simp only [selfB, Bool.and_eq_true, Bool.not_eq_true', decide_eq_true_eq, nbeq_iff] at hb
     obtain ⟨⟨⟨⟨⟨⟨⟨⟨⟨⟨rfl, rfl⟩, rfl⟩, hw⟩, n1⟩, n2⟩, n3⟩, n4⟩, n5⟩, n6⟩, hT⟩ := hb
     have hf0 : first = #[] := by apply Array.ext'; simpa using hfirst
     have hcp : caps = #[.tmp s, .tmp p, .tmp g] := by apply Array.ext'; simpa using hcaps
     subst hf0 hcp
     obtain ⟨F, S, hi⟩ := hi
     refine wp_region ?_
     rw [List.range_eq_range']
     refine bind_self hC1 hi hops h1 h2 h3 h4 h5 h6 hT (wrB_iff hw) (nbeq_no n1) (nbeq_no n2) (nbeq_no n3) (nbeq_no n4) (nbeq_no n5) (nbeq_no n6) es ep eg ?_
     intro q a' w' F' S' hq hinv
     have epn : selfSt st f gf d s g q p = .box τ m x := by
      have e1 : (upd (kill st g) g (.saddr (.abs .clo) (some (gf, [])))) p = .box τ m x := by
       rw [upd_ne _ _ (nbeq_no n6)]; exact kill_box ep
      have e2 : (Go.Lf.put (upd (kill st g) g (.saddr (.abs .clo) (some (gf, [])))) d .dead) p = .box τ m x := by
       unfold Go.Lf.put
       cases ((upd (kill st g) g (.saddr (.abs .clo) (some (gf, [])))) d).isOwner
       ·simp only [cond_false]; rw [upd_ne _ _ (Ne.symm (nbeq_no n2)), e1]
       ·simp only [cond_true]
        rw [upd_ne _ _ (Ne.symm (nbeq_no n2))]
        exact kill_box e1
      unfold selfSt
      rw [upd_ne _ _ (Ne.symm (nbeq_no n4))]
      unfold Go.Lf.drop
      rw [upd_ne _ _ (Ne.symm (nbeq_no n4))]
      exact kill_box e2
     obtain ⟨q', hq'⟩ := hinv.rebase epn
     have hqq : q' = q := by
      have := hq'.slots.pin p rfl
      rw [hq] at this
      injection this with this
      injection this with this
      injection this with this
      exact this.symm
     subst hqq
     refine hQ q' _ a' w' F' S' (h q') ⟨F', S', hinv⟩ ?_ hinv
     rw [hnp]
     exact hq'
    ·exact h.elim
   ·exact h.elim
  ·exact h.elim
 ·exact h.elim

theorem wpS_ok {C1 : Ctx} {C2 : Nat → Ctx} {stp1 : St → Oper → Option (Prop × St)} {stp2 : Nat → St → Oper → Option (Prop × St)} {p : Nat} (hC1 : CtxOK P C1) (hstp1 : StpOK P C1 stp1) (hC2 : ∀ q, CtxOK P (C2 q)) (hstp2 : ∀ q, StpOK P (C2 q) (stp2 q))
  (hp : C1.pin = none) (hnp : ∀ q, (C2 q).np = ⟨C1.N, some p, q⟩) {L1 : List LoopI} {L2 : Nat → List LoopI} :
  ∀ (n : Nat) (c : Code) {k : Nat} {st : St} {Qn : St → Prop} {Qx : Nat → St → Prop} {Qr : St → Prop} {Q : Exit → Act → World → Prop} {a : Act} {w : World}, wpS C1 stp1 C2 stp2 p L1 L2 n c k st Qn Qx Qr → Inv P C1.np w0 F0 H st a w →
   (∀ st a w, Qn st → Inv P C1.np w0 F0 H st a w → Q .normal a w) → (∀ i st a w, Qx i st → Inv P C1.np w0 F0 H st a w → Q (.exit i) a w) → (∀ st a w, Qr st → Inv P C1.np w0 F0 H st a w → Q .ret a w) → c.wp P Q a w := by
 intro n
 induction n with
 | zero =>
  intro c k st Qn Qx Qr Q a w h hi hn hx hr
  cases c with
  | seq x c =>
   cases x with
   | region id ops dr =>
    cases dr with
    | false =>
     simp only [wpS] at h
     refine wp_seq (selfP_ok hC1 hp hnp h hi ?_)
     intro q st' a' w' F S hΦ hi' hi2 hi3
     have hN : C1.np.p = none := hp
     have e1 : (C2 q).np = ⟨C1.np.n, some p, q⟩ := hnp q
     have back : ∀ st2 a2 w2, Inv P (C2 q).np w' F (fun b => ∃ t, S t b) st2 a2 w2 → Inv P C1.np w0 F0 H st2 a2 w2 := by
      rintro st2 a2 w2 ⟨F2, S2, h2⟩
      rw [e1] at h2
      exact ⟨F2, S2, hi3.unbase hN h2⟩
     refine wpI_ok (hC2 q) (hstp2 q) c hΦ ⟨F, S, hi2⟩ ?_ ?_ ?_
     ·intro st2 a2 w2 h2 hi2; exact hn _ _ _ h2 (back _ _ _ hi2)
     ·intro i st2 a2 w2 h2 hi2; exact hx _ _ _ _ h2 (back _ _ _ hi2)
     ·intro st2 a2 w2 h2 hi2; exact hr _ _ _ h2 (back _ _ _ hi2)
    | true => simp [wpS] at h
   | _ => simp [wpS] at h
  | _ => simp [wpS] at h
 | succ n ih =>
  intro c k st Qn Qx Qr Q a w h hi hn hx hr
  cases c with
  | seq x y =>
   simp only [wpS] at h
   refine wp_seq (wpI_ok hC1 hstp1 x h hi ?_ hx hr)
   intro st1 a1 w1 h1 hi1
   exact ih y h1 hi1 hn hx hr
  | _ => simp [wpS] at h
theorem FOk.introS {C1 : Ctx} {C2 : Nat → Ctx} {stp1 : St → Oper → Option (Prop × St)} {stp2 : Nat → St → Oper → Option (Prop × St)} {p n : Nat} (hC1 : CtxOK P C1) (hstp1 : StpOK P C1 stp1) (hC2 : ∀ q, CtxOK P (C2 q)) (hstp2 : ∀ q, StpOK P (C2 q) (stp2 q))
  {f : FuncId} {s : FSpec} {fn : Func} (hdef : FnDef P f) (hf : P.funcs[f]? = some fn) (hN : C1.np = ⟨fn.ntmps, none, 0⟩) (hnp : ∀ q, (C2 q).np = ⟨fn.ntmps, some p, q⟩)
  (hlen : Nat.ble s.args.length fn.ntmps = true) (L1 : kdens s.args → List LoopI) (L2 : Nat → kdens s.args → List LoopI) (h : funS C1 stp1 C2 stp2 p n s L1 L2 fn) : FOk P f s := by
 refine ⟨hdef, ?_⟩
 intro w F vs xs hF ha hp
 unfold funS at h
 split at h
 ·rename_i c hb
  have hl := ArgsOK.len ha
  have hlen' : s.args.length ≤ fn.ntmps := Nat.le_of_ble_eq_true hlen
  have hst := Inv0.start (P := P) (N := C1.np) hF ha (by rw [hN]; show vs.length ≤ fn.ntmps; omega) (by rw [hN])
  have e1 : C1.N = fn.ntmps := by have : C1.np.n = fn.ntmps := (by rw [hN]); exact this
  have e2 : C1.pin = none := by have : C1.np.p = none := (by rw [hN]); exact this
  refine calls_of_wp hf hb ?_
  rw [show C1.np.n = fn.ntmps by rw [hN]] at hst
  refine wpS_ok hC1 hstp1 hC2 hstp2 e2 (fun q => by rw [hnp, e1]) n c (h xs hp (factsK_ok ha)) ⟨F, _, by simpa using hst⟩ ?_ (fun _ _ _ _ h => h.elim) ?_
  ·intro st a w' hq hi
   obtain ⟨v, h1, h2⟩ := retP_ok hC1 hq hi
   obtain ⟨_, _, hi⟩ := hi
   exact ⟨hi.defers, v, h1, h2⟩
  ·intro st a w' hq hi
   obtain ⟨v, h1, h2⟩ := retP_ok hC1 hq hi
   obtain ⟨_, _, hi⟩ := hi
   exact ⟨hi.defers, v, h1, h2⟩
 ·cases h
end
end Go.Lf
namespace Sp
def outs (t : Lit) : List Out := if valid t = true then visit (total t.1) (start t) [] else []
end Sp
namespace Go.User
open Go.Lf
def S39 : FSpec := { args := [.val tLit], multi := true, res := .prod (.slice tOut) (.prod tI .unit), mode := .shr, pre := fun x => Sp.total x.1.1 ≤ 1000, fn := fun x => (Sp.outs x.1, Sp.errA x.1, ()) }
def t39 (q : Nat) : KSpec := { f := 71, l := [.self, .own q, .fn 68], τ := .slice tOut, m := .own .shr, args := [.val tVSt], pre := fun x y => Sp.okV (Sp.left y.1) x y.1, fn := fun x y => Sp.visit (Sp.left y.1) y.1 x }
def C39a : Ctx := mkS 22 [(19, S19)]
def C39b (q : Nat) : Ctx := { mkS 22 [] with tys := tysQ q, pin := some 7, q := q, kno := some (t39 q) }
def p39 : Nat := 7
def n39 : Nat := 6
def L39a (x : kdens S39.args) : List LoopI := []
def L39b (q : Nat) (x : kdens S39.args) : List LoopI := []
end Go.User
namespace Go.User
open Go.Proofs Go.Lf
set_option maxRecDepth 100000
theorem vc39 : (funS C39a (stpS C39a) C39b (fun q => stpS (C39b q)) p39 n39 S39 L39a L39b Try.f39) = (
let q0 : Nat := (1000 : Nat);
let q1 : Prop := True ∧ True ∧ True;
let q2 : Prop := True ∧ q1;
let q3 : Prop := q2 ∧ True;
let q4 : Int := (0 : Int);
let q5 : Prop := (True ∧ True) ∧ True;
∀ (x : Sp.Lit × Unit),
 let q6 : Prop := Sp.total x.1.1 ≤ q0;
 let q7 : Bool := Sp.errA x.1 != q4;
 let q8 : Int × Unit := (Sp.errA x.1, ());
 let q9 : List Sp.Out × Int × Unit := (Sp.outs x.1, q8);
 let q10 : Nat := Sp.left (Sp.stA x.1);
 q6 → dFact tLit x.1 ∧ True → q3 ∧ ((True ∧ q6 ∧ True ∧ q2) ∧ q1) ∧ (q1 ∧ True) ∧ (q7 = true → q3 ∧ (([] : List tOut.den), q8) = q9) ∧ (q7 = false → ((True ∧ True) ∧ True ∧ True) ∧ q5 ∧ q5 ∧ ∀ (q : Nat), (q1 ∧ (Option.some ((71 : Nat), KI.self :: KI.own q :: KI.fn (68 : Nat) :: ([] : List KI)) = Option.some ((71 : Go.FuncId), KI.self :: KI.own q :: KI.fn (68 : Go.FuncId) :: ([] : List KI)) ∧ Sp.okV q10 (([] : List tOut.den)) (Sp.stA x.1)) ∧ True) ∧ q3 ∧ (Sp.visit q10 (Sp.stA x.1) (([] : List tOut.den)), q4, ()) = q9)) := by kernel_rfl
end Go.User
namespace Sp
theorem usual_place {o : LOp} (h : usual o = true) : 0 ≤ o.2.1 ∧ o.2.1 < 3 := by
 unfold usual at h
 split at h
 ·simp only [Bool.and_eq_true, decide_eq_true_eq] at h; omega
 ·split at h
  ·simp only [Bool.and_eq_true, decide_eq_true_eq] at h; omega
  ·simp only [Bool.and_eq_true, decide_eq_true_eq] at h; omega
theorem rep_get {α : Type} {n c : Nat} (h : c < n) (a d : α) : (List.replicate n a).getD c d = a := by
 rw [Pl.getD_at (by rw [List.length_replicate]; exact h), List.getElem_replicate]
theorem start_pc (t : Lit) (c : Nat) : pcOf (start t) c = 0 := by
 show (List.replicate t.1.length (0 : Int)).getD c 0 = 0
 by_cases h : c < t.1.length
 ·rw [rep_get h]
 ·rw [Pl.getD_out (by rw [List.length_replicate]; omega)]
theorem start_mem (t : Lit) {x : Nat} (h : x < 3) : memOf (start t) x = [m0] := by
 have : x = 0 ∨ x = 1 ∨ x = 2 := by omega
 rcases this with rfl | rfl | rfl <;> rfl
theorem start_row (t : Lit) {c : Nat} (h : c < t.1.length) : rowOf (start t) c = v0 := rep_get h _ _
theorem v0_get {x : Nat} (h : x < 3) : v0.getD x 0 = -1 := by
 have : x = 0 ∨ x = 1 ∨ x = 2 := by omega
 rcases this with rfl | rfl | rfl <;> rfl
theorem start_left (t : Lit) : left (start t) = total t.1 := by
 unfold left total
 congr 1
 refine List.ext_getElem (by show ((List.range t.1.length).map _).length = (t.1.map List.length).length; simp) fun i h1 h2 => ?_
 simp only [List.getElem_map, List.getElem_range]
 have hi : i < t.1.length := by simpa using h2
 rw [start_pc]
 show (t.1.getD i []).length - 0 = _
 rw [Pl.getD_at hi]; rfl
theorem start_good {t : Lit} (h : valid t = true) : Good (start t) := by
 obtain ⟨v1, v2, v3, v4, v5⟩ := valid_iff.1 h
 have hsee : ∀ x, x < 3 → 0 ≤ plc [m0] (-1) := fun _ _ => by decide
 refine ⟨⟨by show t.1.length ≤ 1000; omega, by show total t.1 ≤ 1000; omega, List.length_replicate, ?_, ?_, rfl, ?_, List.length_replicate, ?_, ?_, rfl, ?_, List.length_replicate, List.length_replicate, Nat.zero_le _⟩, v2, by show total t.1 ≤ 8; omega, ?_, ?_⟩
 ·intro c hc
  rw [start_pc]
  exact ⟨Int.le_refl _, Int.natCast_nonneg _⟩
 ·intro l hl o ho
  exact usual_place (v5 o (List.mem_flatten.2 ⟨l, hl, ho⟩))
 ·intro x hx
  rw [start_mem t hx]
  exact ⟨Nat.le_refl _, by show 1 ≤ 2000; omega⟩
 ·intro c hc; rw [start_row t hc]; rfl
 ·intro c hc x hx
  unfold plV vw
  rw [start_mem t hx, start_row t hc, v0_get hx]
  exact hsee x hx
 ·intro x hx
  rw [start_mem t hx]
  show 0 ≤ plc [m0] (v0.getD x 0)
  rw [v0_get hx]; exact hsee x hx
 ·intro x hx
  rw [start_mem t hx, start_left]
  exact Nat.le_refl _
 ·rw [start_left]
  show 0 + total t.1 ≤ total t.1; omega
theorem sorted_nil : sortedO [] := fun i j _ h => by simp at h
end Sp
namespace Go.User
open Go.Lf Go.Proofs
theorem kno39 (q : Nat) : KnOK Try.prog q (t39 q) :=
 ⟨Try.call71, fun w F S0 cs x caps vs y h1 h2 h3 h4 h5 h6 h7 h8 => (visits (Sp.left y.1) q).2 w F S0 cs x caps vs y h1 h2 h3 h4 h5 h6 h7 h8⟩
set_option maxRecDepth 100000 in
theorem ok39 : FOk Try.prog 39 S39 := by
 have hC1 : CtxOK Try.prog C39a := okA (fns_cons ok19 fns_nil)
 have hC2 : ∀ q, CtxOK Try.prog (C39b q) := fun q => ctx_okQ q rfl rfl fns_nil ptrs_nil (fun _ h => by cases h) (fun _ h => by cases h) ins_nil (fun t h => by injection h with h; subst h; exact kno39 q)
 refine FOk.introS (n := n39) (p := p39) hC1 (stpS_ok hC1) hC2 (fun q => stpS_ok (hC2 q)) Try.call39 Try.func39 (by kernel_rfl) (fun q => by kernel_rfl) (by kernel_rfl) L39a L39b (vc39.mpr ?_)
 simp only [zz, zy]
 rintro ⟨t, u⟩ h _
 refine ⟨h, fun he => ?_, fun he => ?_⟩
 ·have he : ¬ Sp.errA t = 0 := he
  have hv : ¬ Sp.valid t = true := fun hv => he (by unfold Sp.errA; rw [if_pos hv])
  show (([] : List Sp.Out), Sp.errA t, ()) = (Sp.outs t, Sp.errA t, ())
  unfold Sp.outs; rw [if_neg hv]
 ·have he : Sp.errA t = 0 := he
  have hv : Sp.valid t = true := by
   refine Classical.byContradiction fun hv => ?_
   unfold Sp.errA at he
   rw [if_neg hv] at he
   exact absurd he (by decide)
  have hA : Sp.stA t = Sp.start t := by unfold Sp.stA; rw [if_pos hv]
  obtain ⟨v1, v2, v3, v4, v5⟩ := Sp.valid_iff.1 hv
  show Sp.okV (Sp.left (Sp.stA t)) [] (Sp.stA t) ∧ (Sp.visit (Sp.left (Sp.stA t)) (Sp.stA t) [], (0 : Int), ()) = (Sp.outs t, Sp.errA t, ())
  rw [hA, Sp.start_left, he]
  refine ⟨⟨Sp.start_good hv, v4, Sp.start_left t, Sp.sorted_nil, ?_⟩, ?_⟩
  ·have : 28 ^ Sp.total t.1 ≤ 28 ^ 6 := Nat.pow_le_pow_right (by omega) v4
   have h6 : 28 ^ 6 = 481890304 := by decide
   show 0 + 28 ^ Sp.total t.1 ≤ 500000000; omega
  ·unfold Sp.outs; rw [if_pos hv]
end Go.User
namespace Sp
def tst (a b : List LOp) : Lit := ([a, b], ())
def ldO (x : Int) : LOp := (1, x, 0, ())
def stO (x : Int) : LOp := (2, x, 1, ())
def feO : LOp := (4, 0, 0, ())
def exA : Lit := tst [stO 0, ldO 1] [stO 1, ldO 0]
def exB : Lit := tst [stO 0, feO, ldO 1] [stO 1, feO, ldO 0]
def exC : Lit := tst [ldO 0, stO 1] [ldO 1, stO 0]
def exN : Lit := ([], ())
def exE : Bool := decide (errA exA = 0) && decide (errA exB = 0) && decide (errA exC = 0) && decide (errA exN = 300)
def exL : Bool := rds (outs exA) 0 0 && rds (outs exA) 1 1 && decide ((outs exA).length = 4) && !rds (outs exB) 0 0 && decide ((outs exB).length = 3) && !rds (outs exC) 1 1 && decide ((outs exC).length = 3)
def exOK : Bool := if exE = true then exL else false
end Sp
namespace Go.User
open Go.Lf
def S13 : FSpec := { args := [.val tLit], multi := false, res := tOuts, mode := .shr, pre := fun x => Sp.total x.1.1 ≤ 1000, fn := fun x => (Sp.outs x.1, Sp.errA x.1, ()) }
def C13 : Ctx := { mkS 13 [(39, S39)] with mds := [(2, .pair .shr (.pair .shr .shr)), (12, .pair .shr (.pair .shr .shr))] }
def L13 (x : kdens S13.args) : List LoopI := []
def S34 : FSpec := { args := [.val (.slice tLOp), .val (.slice tLOp)], multi := false, res := tLit, mode := .shr, pre := fun _ => True, fn := fun x => Sp.tst x.1 x.2.1 }
def C34 : Ctx := { mkS 9 [] with frz := [7], mds := [(4, .pair .shr .shr), (8, .pair .shr .shr)] }
def L34 (x : kdens S34.args) : List LoopI := []
def S35 : FSpec := { args := [.val tI], multi := false, res := tLOp, mode := .shr, pre := fun _ => True, fn := fun x => Sp.stO x.1 }
def C35 : Ctx := mkS 5 []
def L35 (x : kdens S35.args) : List LoopI := []
def S36 : FSpec := { args := [.val tI], multi := false, res := tLOp, mode := .shr, pre := fun _ => True, fn := fun x => Sp.ldO x.1 }
def C36 : Ctx := mkS 5 []
def L36 (x : kdens S36.args) : List LoopI := []
def S37 : FSpec := { args := [], multi := false, res := tLOp, mode := .shr, pre := fun _ => True, fn := fun _ => Sp.feO }
def C37 : Ctx := mkS 2 []
def L37 (x : kdens S37.args) : List LoopI := []
def S11 : FSpec := { args := [], multi := false, res := .bool, mode := .shr, pre := fun _ => True, fn := fun _ => Sp.exOK }
def C11 : Ctx := { mkS 89 [(13, S13), (34, S34), (35, S35), (36, S36), (37, S37), (38, S38)] with frz := [7, 10, 16, 20, 25, 28], mds := [(1, .pair .shr (.pair .shr .shr)), (2, .pair .shr (.pair .shr .shr)), (3, .pair .shr (.pair .shr .shr)), (4, .pair .shr (.pair .shr .shr)), (31, .pair .shr .shr)] }
def L11 (x : kdens S11.args) : List LoopI := []
end Go.User
namespace Go.User
open Go.Proofs Go.Lf
set_option maxRecDepth 100000
theorem vc13 : (funI C13 (stpS C13) S13 L13 Try.f13) = (
let q0 : Nat := (1000 : Nat);
let q1 : Prop := True ∧ True ∧ True;
let q2 : Prop := True ∧ q1;
∀ (x : Sp.Lit × Unit),
 let q3 : Prop := Sp.total x.1.1 ≤ q0;
 let q4 : List Sp.Out × Int × Unit := (Sp.outs x.1, Sp.errA x.1, ());
 q3 → dFact tLit x.1 ∧ True → (q1 ∧ True) ∧ ((True ∧ q3 ∧ True ∧ True ∧ q2) ∧ True) ∧ (q2 ∧ True ∧ True) ∧ q4 = q4) := by kernel_rfl
theorem vc34 : (funI C34 (stpS C34) S34 L34 Try.f34) = (
∀ (x : List Sp.LOp × List Sp.LOp × Unit), True → dFact tLOp.slice x.1 ∧ dFact tLOp.slice x.2.1 ∧ True → ((True ∧ True) ∧ True) ∧ ((True ∧ True ∧ True ∧ True ∧ True) ∧ True ∧ True) ∧ (x.1 :: x.2.1 :: ([] : List tLOp.slice.den), ()) = Sp.tst x.1 x.2.1) := by kernel_rfl
theorem vc35 : (funI C35 (stpS C35) S35 L35 Try.f35) = (
∀ (x : Int × Unit), True → dFact tI x.1 ∧ True → ((True ∧ True) ∧ True) ∧ ((True ∧ True ∧ True) ∧ True ∧ True) ∧ ((2 : Int), x.1, (1 : Int), ()) = Sp.stO x.1) := by kernel_rfl
theorem vc36 : (funI C36 (stpS C36) S36 L36 Try.f36) = (
∀ (x : Int × Unit), True → dFact tI x.1 ∧ True → ((True ∧ True) ∧ True) ∧ ((True ∧ True ∧ True) ∧ True ∧ True) ∧ ((1 : Int), x.1, (0 : Int), ()) = Sp.ldO x.1) := by kernel_rfl
theorem vc37 : (funI C37 (stpS C37) S37 L37 Try.f37) = (
let q0 : Int := (0 : Int);
∀ (x : Unit), True → True → ((True ∧ True) ∧ True) ∧ ((True ∧ True) ∧ True ∧ True) ∧ ((4 : Int), q0, q0, ()) = Sp.feO) := by kernel_rfl
theorem vc11 : (funI C11 (stpS C11) S11 L11 Try.f11) = (
let q0 : Prop := (True ∧ True) ∧ True;
let q1 : Int := (0 : Int);
let q2 : Sp.LOp := Sp.stO q1;
let q3 : Int := (1 : Int);
let q4 : Sp.LOp := Sp.ldO q3;
let q5 : List Sp.LOp := q4 :: ([] : List tLOp.den);
let q6 : List Sp.LOp := q2 :: q5;
let q7 : Sp.LOp := Sp.stO q3;
let q8 : Sp.LOp := Sp.ldO q1;
let q9 : List Sp.LOp := q8 :: ([] : List tLOp.den);
let q10 : List Sp.LOp := q7 :: q9;
let q11 : Nat := (1000 : Nat);
let q12 : List Sp.LOp := q2 :: Sp.feO :: q5;
let q13 : List Sp.LOp := q7 :: Sp.feO :: q9;
let q14 : List Sp.LOp := q8 :: q7 :: ([] : List tLOp.den);
let q15 : List Sp.LOp := q4 :: q2 :: ([] : List tLOp.den);
let q16 : List (List Sp.LOp) := ([] : List tLOp.slice.den);
let q17 : Prop := (true && true) = true → True;
let q18 : Sp.Lit := Sp.tst q6 q10;
let q19 : Sp.Lit := Sp.tst q12 q13;
let q20 : Sp.Lit := Sp.tst q14 q15;
let q21 : Bool := bif bif bif Sp.errA q18 != q1 then true else Sp.errA q19 != q1 then true else Sp.errA q20 != q1 then true else Sp.errA (q16, ()) != (300 : Int);
let q22 : List Sp.Out := Sp.outs q18;
let q23 : List Sp.Out := Sp.outs q19;
let q24 : Int := (3 : Int);
let q25 : List Sp.Out := Sp.outs q20;
∀ (x : Unit), True → True → q0 ∧ ((True ∧ True ∧ True ∧ True ∧ True ∧ True ∧ True ∧ Sp.total (q6 :: q10 :: ([] : List (List Sp.LOp))) ≤ q11 ∧ True ∧ True) ∧ True ∧ True) ∧ ((True ∧ True ∧ True ∧ True ∧ True ∧ True ∧ True ∧ True ∧ True ∧ Sp.total (q12 :: q13 :: ([] : List (List Sp.LOp))) ≤ q11 ∧ True ∧ True) ∧ True ∧ True) ∧ ((True ∧ True ∧ True ∧ True ∧ True ∧ True ∧ True ∧ Sp.total (q14 :: q15 :: ([] : List (List Sp.LOp))) ≤ q11 ∧ True ∧ True) ∧ True ∧ True) ∧ ((True ∧ Sp.total q16 ≤ q11 ∧ True ∧ True) ∧ True ∧ True) ∧ ((True ∧ True ∧ True ∧ True ∧ q17 ∧ q17 ∧ q17 ∧ True ∧ True ∧ q17 ∧ q17 ∧ q17 ∧ True ∧ True ∧ q17 ∧ q17 ∧ q17 ∧ True ∧ True) ∧ True) ∧ (q21 = true → q0 ∧ false = Sp.exOK) ∧ (q21 = false → ((True ∧ True ∧ True ∧ True ∧ q17 ∧ q17 ∧ q17 ∧ True ∧ True ∧ q17 ∧ q17 ∧ q17 ∧ q17 ∧ True ∧ True ∧ q17 ∧ q17 ∧ q17 ∧ q17 ∧ True ∧ True ∧ q17 ∧ q17 ∧ q17 ∧ q17 ∧ True ∧ True ∧ q17 ∧ q17 ∧ q17 ∧ q17 ∧ True ∧ True ∧ q17 ∧ q17 ∧ q17 ∧ q17 ∧ True ∧ True ∧ True) ∧ True) ∧ (bif bif bif bif bif bif Sp.rds q22 q1 q1 then Sp.rds q22 q3 q3 else false then (↑q22.length : Int) == (4 : Int) else false then !Sp.rds q23 q1 q1 else false then (↑q23.length : Int) == q24 else false then !Sp.rds q25 q3 q3 else false then (↑q25.length : Int) == q24 else false) = Sp.exOK)) := by kernel_rfl
end Go.User
namespace Go.User
open Go.Lf Go.Proofs
theorem ex_e : Sp.exE = true := by kernel_rfl
theorem ex_l : Sp.exL = true := by kernel_rfl
theorem ex_ok : Sp.exOK = true := by
 unfold Sp.exOK; rw [if_pos ex_e]; exact ex_l
theorem ok13 : FOk Try.prog 13 S13 := by
 have hC : CtxOK Try.prog C13 := okC (fns_cons ok39 fns_nil) rfl rfl rfl rfl rfl rfl rfl
 refine FOk.intro hC (stpS_ok hC) Try.call13 Try.func13 (by kernel_rfl) (by kernel_rfl) L13 (vc13.mpr ?_)
 simp only [zz, zy]
 exact fun x h _ => h
theorem ok34 : FOk Try.prog 34 S34 := by
 have hC : CtxOK Try.prog C34 := okC fns_nil rfl rfl rfl rfl rfl rfl rfl
 refine FOk.intro hC (stpS_ok hC) Try.call34 Try.func34 (by kernel_rfl) (by kernel_rfl) L34 (vc34.mpr ?_)
 simp only [zz, zy]
 exact fun x _ => rfl
theorem ok35 : FOk Try.prog 35 S35 := by
 refine FOk.intro (okA fns_nil) (stpS_ok (okA fns_nil)) Try.call35 Try.func35 (by kernel_rfl) (by kernel_rfl) L35 (vc35.mpr ?_)
 simp only [zz, zy]
 exact fun x _ => rfl
theorem ok36 : FOk Try.prog 36 S36 := by
 refine FOk.intro (okA fns_nil) (stpS_ok (okA fns_nil)) Try.call36 Try.func36 (by kernel_rfl) (by kernel_rfl) L36 (vc36.mpr ?_)
 simp only [zz, zy]
 exact fun x _ => rfl
theorem ok37 : FOk Try.prog 37 S37 := by
 refine FOk.intro (okA fns_nil) (stpS_ok (okA fns_nil)) Try.call37 Try.func37 (by kernel_rfl) (by kernel_rfl) L37 (vc37.mpr ?_)
 simp only [zz, zy]
 first | exact fun _ => rfl | rfl
theorem ok11 : FOk Try.prog 11 S11 := by
 have hC : CtxOK Try.prog C11 := okC (fns_cons ok13 (fns_cons ok34 (fns_cons ok35 (fns_cons ok36 (fns_cons ok37 (fns_cons ok38 fns_nil)))))) rfl rfl rfl rfl rfl rfl rfl
 refine FOk.intro hC (stpS_ok hC) Try.call11 Try.func11 (by kernel_rfl) (by kernel_rfl) L11 (vc11.mpr ?_)
 simp only [zz, zy]
 refine ⟨by decide, by decide, by decide, by decide, fun h => ?_, fun _ => ?_⟩
 ·have hf : ∀ {b : Bool}, b = true → b = false → false = Sp.exOK := fun h1 h2 => by rw [h1] at h2; cases h2
  exact hf h (by kernel_rfl)
 ·kernel_rfl
end Go.User
namespace Sp
def kinds : List Int := [1, 2, 1, 2, 3, 4]
def mB (x : List (List Int)) (i j : Nat) : Int := (x.getD i []).getD j 0
def mC (x : List (List Int)) (i : Nat) : Nat := (mB x i 0 % 4).toNat
def mK (x : List (List Int)) (i : Nat) : Int := kinds.getD (mB x i 1 % 6).toNat 0
def mX (x : List (List Int)) (i : Nat) : Int := if mK x i = 4 then 0 else mB x i 2 % 3
def mV (x : List (List Int)) (i : Nat) : Int := if mK x i = 1 ∨ mK x i = 4 then 0 else mB x i 3 % 4 + 1
def mOp (x : List (List Int)) (i : Nat) : LOp := (mK x i, mX x i, mV x i, ())
def gro (P : List (List LOp)) (c : Nat) : List (List LOp) := P ++ List.replicate (c + 1 - P.length) []
def mPut (P : List (List LOp)) (c : Nat) (o : LOp) : List (List LOp) := (gro P c).set c ((gro P c).getD c [] ++ [o])
def mN (x : List (List Int)) : Nat → List (List LOp)
 | 0 => []
 | i + 1 => mPut (mN x i) (mC x i) (mOp x i)
def mG (x : List (List Int)) (i j : Nat) : List (List LOp) := mN x i ++ List.replicate j []
def mT (x : List (List Int)) (n : Int) : Nat := min x.length n.toNat
def madeP (x : List (List Int)) (n : Int) : List (List LOp) := if mN x (mT x n) = [] then [[(1, 0, 0, ())]] else mN x (mT x n)
def made (x : List (List Int)) (n : Int) : Lit := (madeP x n, ())
-- the reference's valid
end Sp
namespace Go.User
open Go.Lf
abbrev mL : Md := .pair (.own .shr) .shr
def S12 : FSpec := { args := [.val tRaw, .val tI], multi := false, res := tLit, mode := .shr, pre := fun x => 0 ≤ x.2.1 ∧ x.2.1 ≤ 6, fn := fun x => Sp.made x.1 x.2.1 }
def C12 : Ctx := { mkS 99 [] with frz := [88, 95], mds := [(5, mL), (9, mL), (4, .pair .shr .shr)], fzs := [5] }
def L12 (x : kdens S12.args) : List LoopI := [
 {ι := Nat, inv := fun i => i ≤ Sp.mT x.1 x.2.1, dec := fun i => Sp.mT x.1 x.2.1 - i, ovr := fun i => [(6, .shr tI (i : Int)), (5, .box tLit mL (Sp.mN x.1 i, ()))], keep := [0, 1, 4], sub := fun i => [
  {ι := Nat, inv := fun j => j ≤ Sp.mC x.1 i + 1 - List.length (Sp.mN x.1 i), dec := fun j => Sp.mC x.1 i + 1 - List.length (Sp.mN x.1 i) - j, ovr := fun j => [(5, .box tLit mL (Sp.mG x.1 i j, ()))], keep := [0, 1, 4, 6, 7] }] }]
end Go.User
namespace Go.User
open Go.Proofs Go.Lf
set_option maxRecDepth 100000
theorem vc12 : (funI C12 (stpS C12) S12 L12 Try.f12) = (
let q0 : Nat := (4 : Nat);
let q1 : Prop := (True ∧ True) ∧ True;
let q2 : Prop := True ∧ True ∧ True;
let q3 : Int := (0 : Int);
let q4 : List (List Sp.LOp) := ([] : List tLOp.slice.den);
let q5 : Sp.Lit := (q4, ());
let q6 : Prop := q5 = q5;
let q7 : Prop := q6 ∧ True;
let q8 : Int := (4 : Int);
let q9 : Prop := q8 ≠ q3;
let q10 : Nat := (1 : Nat);
let q11 : List Int := List.replicate q0 q3;
let q12 : Nat := q3.toNat;
let q13 : Prop := True ∧ q2;
let q14 : Prop := True ∧ q13;
let q15 : List (List Sp.LOp) := ([] : List tLOp.den) :: q4;
let q16 : List Step := List.append._f (([] : List Step)) PUnit.unit (Step.fst :: ([] : List Step));
let q17 : Int := (1 : Int);
let q18 : Int := (6 : Int);
let q19 : Nat := q17.toNat;
let q20 : Int := (2 : Int);
let q21 : Int := (3 : Int);
let q22 : List Int := q17 :: q20 :: q17 :: q20 :: q21 :: q8 :: ([] : List tI.den);
let q23 : Nat := q21.toNat;
let q24 : Prop := (True ∧ True) ∧ True ∧ True;
let q25 : Prop := q13 ∧ True;
let q26 : Int × Unit := (q3, ());
let q27 : Int × Int × Unit := (q3, q26);
let q28 : Nat := q20.toNat;
∀ (x : List (List Int) × Int × Unit),
 let q29 : Nat := Sp.mT x.1 x.2.1;
 let q30 : Prop := x.1 = x.1;
 let q31 : Prop := x.2.1 = x.2.1;
 let q32 : Prop := q30 ∧ q31 ∧ q7;
 let q33 : Nat := x.1.length;
 let q34 : Sp.Lit := Sp.made x.1 x.2.1;
 (0 : (AK.val tI).den) ≤ x.2.1 ∧ x.2.1 ≤ (6 : (AK.val tI).den) →
 dFact (Ty.arr q0 (Ty.int IntKind.u8)).slice x.1 ∧ dFact tI x.2.1 ∧ True →
 q1 ∧
 (q2 ∧ True ∧ True) ∧
 q1 ∧
 (∃ (x_1 : Nat), x_1 ≤ q29 ∧ q3 = (↑x_1 : Int) ∧ q5 = (Sp.mN x.1 x_1, ()) ∧ q32) ∧
 ∀ (x_1 : Nat),
 let q35 : Sp.Lit := (Sp.mN x.1 x_1, ());
 let q36 : Bool := decide ((↑x_1 : Int) < (↑q33 : Int));
 let q37 : Prop := (true && bif q36 then true else false) = true → True;
 let q38 : Bool := bif q36 then decide ((↑x_1 : Int) < x.2.1) else false;
 let q39 : Prop := inN (↑x_1 : Int) q33;
 let q40 : Nat := Sp.mC x.1 x_1 + q10 - (Sp.mN x.1 x_1).length;
 let q41 : List Int := x.1.getD (↑x_1 : Int).toNat q11;
 let q42 : Int := q41.getD q12 q3 % q8;
 let q43 : Prop := q30 ∧ q31 ∧ q6 ∧ (↑x_1 : Int) = (↑x_1 : Int) ∧ q42 = q42 ∧ True;
 let q44 : Int := q41.getD q19 q3 % q18;
 let q45 : Int := q41.getD q23 q3 % q8 + q17;
 let q46 : Int := q22.getD q44.toNat q3;
 let q47 : Bool := q46 == q17;
 let q48 : Prop := (true && bif q47 then false else true) = true → True;
 let q49 : Bool := q46 == q8;
 let q50 : Bool := bif q47 then true else q49;
 let q51 : Prop := q49 = true;
 let q52 : Nat := q42.toNat;
 let q53 : List Sp.LOp := (q46, q27) :: ([] : List tLOp.den);
 let q54 : Int := (↑x_1 : Int) + q17;
 let q55 : Prop := (True ∧ inK IntKind.i64 q54 ∧ True ∧ True) ∧ True;
 let q56 : Prop := q49 = false;
 let q57 : Int := q41.getD q28 q3 % q21;
 let q58 : List Sp.LOp := (q46, q57, q26) :: ([] : List tLOp.den);
 let q59 : Int × Unit := (q45, ());
 let q60 : List Sp.LOp := (q46, q3, q59) :: ([] : List tLOp.den);
 let q61 : List Sp.LOp := (q46, q57, q59) :: ([] : List tLOp.den);
 let q62 : Bool := (↑(Sp.mN x.1 x_1).length : Int) == q3;
 x_1 ≤ q29 →
 dFact tI (↑x_1 : Int) ∧ dFact tLit q35 ∧ True →
 ((True ∧ True ∧ True ∧ True ∧ True ∧ q37 ∧ q37 ∧ q37 ∧ True ∧ True) ∧ True) ∧
 (q38 = true →
 ((True ∧ True ∧ q39 ∧ inN q3 q0 ∧ True ∧ q9 ∧ q2) ∧ True) ∧
 (∃ (x_2 : Nat), x_2 ≤ q40 ∧ q35 = (Sp.mG x.1 x_1 x_2, ()) ∧ q43) ∧
 ∀ (x_2 : Nat),
 let q63 : List (List Sp.LOp) := Sp.mG x.1 x_1 x_2;
 let q64 : Nat := q63.length;
 let q65 : Bool := decide ((↑q64 : Int) ≤ q42);
 let q66 : Prop := inN q42 q64;
 let q67 : List Sp.LOp := q63.getD q52 (([] : List tLOp.den));
 let q68 : Nat := q67.length;
 let q69 : Prop := (↑((0 : Nat) + q68) : Int) ≤ maxNew;
 let q70 : Prop := q66 ∧ True;
 x_2 ≤ q40 → dFact tLit (q63, ()) ∧ True → ((True ∧ q14) ∧ True) ∧ (q65 = true → (q13 ∧ (↑(q64 + q15.length) : Int) ≤ maxNew ∧ True ∧ q16 = q16 ∧ True) ∧ ∃ (y : Nat), y ≤ q40 ∧ q40 - y < q40 - x_2 ∧ (q63 ++ q15, ()) = (Sp.mG x.1 x_1 y, ()) ∧ q43) ∧ (q65 = false → ((True ∧ True ∧ True ∧ q39 ∧ inN q17 q0 ∧ True ∧ q18 ≠ q3 ∧ inN q44 q22.length ∧ True ∧ True ∧ True ∧ q39 ∧ inN q20 q0 ∧ True ∧ q21 ≠ q3 ∧ True ∧ True ∧ True ∧ q39 ∧ inN q21 q0 ∧ True ∧ q9 ∧ True ∧ inK IntKind.i64 q45 ∧ q2) ∧ True ∧ True) ∧ ((True ∧ True ∧ True ∧ True ∧ q48 ∧ q48 ∧ q48 ∧ True ∧ True) ∧ True) ∧ (q50 = true → q24 ∧ q25 ∧ (q51 → q24 ∧ ((True ∧ True ∧ True ∧ True ∧ True ∧ True ∧ True ∧ q66 ∧ True ∧ q69 ∧ True ∧ True ∧ (↑(q68 + q53.length) : Int) ≤ maxNew ∧ q70) ∧ True ∧ True) ∧ q55 ∧ ∃ (y : Nat), y ≤ q29 ∧ q29 - y < q29 - x_1 ∧ q54 = (↑y : Int) ∧ (q63.set q52 (q67 ++ q53), ()) = (Sp.mN x.1 y, ()) ∧ q32) ∧ (q56 → ((True ∧ True ∧ True ∧ True ∧ True ∧ True ∧ True ∧ q66 ∧ True ∧ q69 ∧ True ∧ True ∧ (↑(q68 + q58.length) : Int) ≤ maxNew ∧ q70) ∧ True ∧ True) ∧ q55 ∧ ∃ (y : Nat), y ≤ q29 ∧ q29 - y < q29 - x_1 ∧ q54 = (↑y : Int) ∧ (q63.set q52 (q67 ++ q58), ()) = (Sp.mN x.1 y, ()) ∧ q32)) ∧ (q50 = false → q25 ∧ (q51 → q24 ∧ ((True ∧ True ∧ True ∧ True ∧ True ∧ True ∧ True ∧ q66 ∧ True ∧ q69 ∧ True ∧ True ∧ (↑(q68 + q60.length) : Int) ≤ maxNew ∧ q70) ∧ True ∧ True) ∧ q55 ∧ ∃ (y : Nat), y ≤ q29 ∧ q29 - y < q29 - x_1 ∧ q54 = (↑y : Int) ∧ (q63.set q52 (q67 ++ q60), ()) = (Sp.mN x.1 y, ()) ∧ q32) ∧ (q56 → ((True ∧ True ∧ True ∧ True ∧ True ∧ True ∧ True ∧ q66 ∧ True ∧ q69 ∧ True ∧ True ∧ (↑(q68 + q61.length) : Int) ≤ maxNew ∧ q70) ∧ True ∧ True) ∧ q55 ∧ ∃ (y : Nat), y ≤ q29 ∧ q29 - y < q29 - x_1 ∧ q54 = (↑y : Int) ∧ (q63.set q52 (q67 ++ q61), ()) = (Sp.mN x.1 y, ()) ∧ q32)))) ∧
 (q38 = false → (q14 ∧ True) ∧ (q62 = true → (q14 ∧ True ∧ True) ∧ q24 ∧ (((q17, q27) :: ([] : List tLOp.den)) :: q4, ()) = q34) ∧ (q62 = false → q24 ∧ q35 = q34))) := by kernel_rfl
end Go.User
namespace Sp
theorem mC_lt (x : List (List Int)) (i : Nat) : mC x i < 4 := by unfold mC; omega
theorem gro_len (P : List (List LOp)) (c : Nat) : (gro P c).length = P.length + (c + 1 - P.length) := by unfold gro; rw [List.length_append, List.length_replicate]
theorem mN_len (x : List (List Int)) : ∀ i, (mN x i).length ≤ 4
 | 0 => by show 0 ≤ 4; omega
 | i + 1 => by
  show (mPut (mN x i) (mC x i) (mOp x i)).length ≤ 4
  unfold mPut
  rw [List.length_set, gro_len]
  have := mN_len x i
  have := mC_lt x i
  omega
theorem gro_el {P : List (List LOp)} {c n : Nat} (h : ∀ l ∈ P, l.length ≤ n) : ∀ l ∈ gro P c, l.length ≤ n := by
 intro l hl
 unfold gro at hl
 rcases List.mem_append.1 hl with hl | hl
 ·exact h l hl
 ·rw [List.eq_of_mem_replicate hl]; exact Nat.zero_le _
theorem getD_el {P : List (List LOp)} {n : Nat} (h : ∀ l ∈ P, l.length ≤ n) (c : Nat) : (P.getD c []).length ≤ n := by
 by_cases hc : c < P.length
 ·exact h _ (Pl.getD_mem hc _)
 ·rw [Pl.getD_out (by omega)]; exact Nat.zero_le _
theorem mN_el (x : List (List Int)) : ∀ i, ∀ l ∈ mN x i, l.length ≤ i
 | 0, l, hl => by cases hl
 | i + 1, l, hl => by
  have hl : l ∈ mPut (mN x i) (mC x i) (mOp x i) := hl
  unfold mPut at hl
  have hg := gro_el (c := mC x i) (mN_el x i)
  rcases List.mem_or_eq_of_mem_set hl with hl | rfl
  ·have := hg l hl; omega
  ·have := getD_el hg (mC x i)
   rw [List.length_append]; simp only [List.length_singleton]; omega
theorem mG_succ (x : List (List Int)) (i j : Nat) : mG x i j ++ [[]] = mG x i (j + 1) := by
 unfold mG; rw [List.replicate_succ', List.append_assoc]
theorem mG_len (x : List (List Int)) (i j : Nat) : (mG x i j).length = (mN x i).length + j := by unfold mG; rw [List.length_append, List.length_replicate]
end Sp
namespace Go.User
open Go.Lf Go.Proofs
set_option maxRecDepth 100000 in
theorem ok12 : FOk Try.prog 12 S12 := by
 have hC : CtxOK Try.prog C12 := okC fns_nil rfl rfl rfl rfl rfl rfl rfl
 refine FOk.intro hC (stpS_ok hC) Try.call12 Try.func12 (by kernel_rfl) (by kernel_rfl) L12 (vc12.mpr ?_)
 simp only [zz, zy]
 rintro ⟨x, n, u⟩ h _
 obtain ⟨h0, h6⟩ : 0 ≤ n ∧ n ≤ 6 := h
 have hmx : maxNew = 2147483648 := rfl
 have hmT : Sp.mT x n = min x.length n.toNat := rfl
 refine ⟨⟨0, Nat.zero_le _, rfl, rfl⟩, fun i hi _ => ⟨fun hlt => ?_, fun hge => ?_⟩⟩
 ·obtain ⟨hl1, hl2⟩ := hlt
  have hl1 : (i : Int) < (x.length : Int) := hl1
  have hl2 : (i : Int) < n := hl2
  have hB : ∀ j, (x.getD i (List.replicate 4 0)).getD j 0 = Sp.mB x i j := by
   intro j; unfold Sp.mB; rw [Pl.getD_at (show i < x.length by omega), Pl.getD_at (show i < x.length by omega)]
  have hin : inN (i : Int) x.length := ⟨by omega, hl1⟩
  have hc4 := Sp.mC_lt x i
  have hNl := Sp.mN_len x i
  have hNe := Sp.mN_el x i
  have hcE : (x.getD i (List.replicate 4 0)).getD 0 0 % 4 = ((Sp.mC x i : Nat) : Int) := by rw [hB]; unfold Sp.mC; omega
  refine ⟨⟨hin, ⟨by omega, by omega⟩, by omega⟩, ⟨0, Nat.zero_le _, ?_⟩, fun j hj _ => ⟨fun hle => ⟨?_, j + 1, ?_, ?_, ?_⟩, fun hgt => ?_⟩⟩
  ·show (Sp.mN x i, ()) = (Sp.mG x i 0, ())
   unfold Sp.mG; rw [List.replicate_zero, List.append_nil]
  ·have hj : j ≤ Sp.mC x i + 1 - (Sp.mN x i).length := hj
   show (((Sp.mG x i j).length + 1 : Nat) : Int) ≤ maxNew
   rw [Sp.mG_len]; omega
  ·have hle : ((Sp.mG x i j).length : Int) ≤ (x.getD i (List.replicate 4 0)).getD 0 0 % 4 := hle
   rw [hcE, Sp.mG_len] at hle
   show j + 1 ≤ Sp.mC x i + 1 - (Sp.mN x i).length; omega
  ·have hle : ((Sp.mG x i j).length : Int) ≤ (x.getD i (List.replicate 4 0)).getD 0 0 % 4 := hle
   rw [hcE, Sp.mG_len] at hle
   show Sp.mC x i + 1 - (Sp.mN x i).length - (j + 1) < Sp.mC x i + 1 - (Sp.mN x i).length - j; omega
  ·show (Sp.mG x i j ++ [[]], ()) = (Sp.mG x i (j + 1), ())
   rw [Sp.mG_succ]
  ·have hj : j ≤ Sp.mC x i + 1 - (Sp.mN x i).length := hj
   have hgt : (x.getD i (List.replicate 4 0)).getD 0 0 % 4 < ((Sp.mG x i j).length : Int) := hgt
   rw [hcE, Sp.mG_len] at hgt
   have hG : Sp.mG x i j = Sp.gro (Sp.mN x i) (Sp.mC x i) := by
    unfold Sp.mG Sp.gro
    rw [show j = Sp.mC x i + 1 - (Sp.mN x i).length from by omega]
   have hGl : Sp.mC x i < (Sp.gro (Sp.mN x i) (Sp.mC x i)).length := by rw [Sp.gro_len]; omega
   have hGe := Sp.getD_el (Sp.gro_el (c := Sp.mC x i) hNe) (Sp.mC x i)
   have hk : ∀ op, op = Sp.mOp x i → inK .i64 ((i : Int) + 1) ∧ ∃ y, y ≤ Sp.mT x n ∧ Sp.mT x n - y < Sp.mT x n - i ∧ (i : Int) + 1 = (y : Int) ∧ ((Sp.mG x i j).set ((x.getD i (List.replicate 4 0)).getD 0 0 % 4).toNat ((Sp.mG x i j).getD ((x.getD i (List.replicate 4 0)).getD 0 0 % 4).toNat [] ++ [op]), ()) = (Sp.mN x y, ()) := by
    rintro op rfl
    refine ⟨inK_mid (by omega) (by omega), i + 1, by omega, by omega, by omega, ?_⟩
    rw [hcE, Int.toNat_natCast, hG]; rfl
   have hq : inN ((x.getD i (List.replicate 4 0)).getD 0 0 % 4) (Sp.mG x i j).length ∧ (((0 + ((Sp.mG x i j).getD ((x.getD i (List.replicate 4 0)).getD 0 0 % 4).toNat []).length : Nat) : Int)) ≤ maxNew ∧ (((((Sp.mG x i j).getD ((x.getD i (List.replicate 4 0)).getD 0 0 % 4).toNat []).length + 1 : Nat) : Int)) ≤ maxNew ∧ inN ((x.getD i (List.replicate 4 0)).getD 0 0 % 4) (Sp.mG x i j).length := by
    rw [hcE, Int.toNat_natCast, hG]
    exact ⟨⟨by omega, by omega⟩, by omega, by omega, ⟨by omega, by omega⟩⟩
   have hK : [1, 2, 1, 2, 3, 4].getD ((x.getD i (List.replicate 4 0)).getD 1 0 % 6).toNat 0 = Sp.mK x i := by rw [hB]; rfl
   refine ⟨⟨hin, ⟨by omega, by omega⟩, by omega, ⟨by omega, ?_⟩, hin, ⟨by omega, by omega⟩, by omega, hin, ⟨by omega, by omega⟩, by omega, inK_mid (by omega) (by omega)⟩, fun hor => ⟨fun h4 => ⟨hq, hk _ ?_⟩, fun h4 => ⟨hq, hk _ ?_⟩⟩, fun hor => ⟨fun h4 => absurd h4 hor.2, fun h4 => ⟨hq, hk _ ?_⟩⟩⟩
   ·show (x.getD i (List.replicate 4 0)).getD 1 0 % 6 < ((6 : Nat) : Int); omega
   ·have h4 : Sp.mK x i = 4 := hK ▸ h4
    unfold Sp.mOp Sp.mX Sp.mV
    rw [if_pos h4, if_pos (.inr h4), ← hK]; rfl
   ·have h4 : ¬ Sp.mK x i = 4 := hK ▸ h4
    have h1 : Sp.mK x i = 1 := by
     have hor : (Sp.mK x i == 1 || Sp.mK x i == 4) = true := hK ▸ hor
     simp only [Bool.or_eq_true, beq_iff_eq] at hor
     exact hor.resolve_right h4
    unfold Sp.mOp Sp.mX Sp.mV
    rw [if_neg h4, if_pos (.inl h1), ← hK, ← hB]; rfl
   ·have h4 : ¬ Sp.mK x i = 4 := hK ▸ h4
    have h1 : ¬ Sp.mK x i = 1 := hK ▸ hor.1
    unfold Sp.mOp Sp.mX Sp.mV
    rw [if_neg h4, if_neg (fun h => h.elim h1 h4), ← hK, ← hB, ← hB]; try rfl
 ·have hi : i ≤ Sp.mT x n := hi
  have hge : (decide ((i : Int) < (x.length : Int)) && decide ((i : Int) < n)) = false := hge
  have he : i = Sp.mT x n := by
   rw [Bool.and_eq_false_iff, decide_eq_false_iff_not, decide_eq_false_iff_not] at hge
   omega
  subst he
  refine ⟨fun hz => ?_, fun hz => ?_⟩
  ·have hz : (((Sp.mN x (Sp.mT x n)).length : Nat) : Int) = 0 := hz
   have hnil : Sp.mN x (Sp.mT x n) = [] := List.eq_nil_of_length_eq_zero (by omega)
   show ([[(1, 0, 0, ())]], ()) = Sp.made x n
   unfold Sp.made Sp.madeP; rw [if_pos hnil]
  ·have hz : ¬ (((Sp.mN x (Sp.mT x n)).length : Nat) : Int) = 0 := hz
   have hnil : ¬ Sp.mN x (Sp.mT x n) = [] := fun h => hz (by rw [h]; rfl)
   show (Sp.mN x (Sp.mT x n), ()) = Sp.made x n
   unfold Sp.made Sp.madeP; rw [if_neg hnil]
end Go.User
namespace Sp
end Sp
namespace Go.User
open Go.Lf Go.Proofs
end Go.User
namespace Go.User
open Go.Lf
end Go.User
namespace Go.User
open Go.Lf
end Go.User
namespace Sp
def memR (n : Nat) : List (List Msg) := List.replicate n [m0]
def stR (t : Lit) (m c e : Nat) : VSt := (t, zeros t.1.length, memR m, views c, v0, zeros (total t.1), froms e, [], ())
end Sp
namespace Go.User
open Go.Lf
abbrev mR1 : Md := .pair .shr (.pair .shr (.pair (.own .shr) (.pair (.own .shr) (.pair .shr (.pair .shr (.pair (.own .shr) (.pair .shr .shr)))))))
def S48 : FSpec := { args := [.val tLit], multi := false, res := tRSt, mode := .shr, pre := fun x => Sp.total x.1.1 ≤ 1000 ∧ List.length x.1.1 ≤ 1000, fn := fun x => Sp.stR x.1 3 (List.length x.1.1) (Sp.total x.1.1) }
def C48 : Ctx := { mkS 54 [(18, S18)] with mds := [(16, mR1), (3, mR1), (2, mV0)], frz := [11, 12, 15, 24, 37], fzs := [3] }
def L48 (x : kdens S48.args) : List LoopI := [
 {ι := Nat, inv := fun n => n ≤ 3, dec := fun n => 3 - n, ovr := fun n => [(4, .shr tI (n : Int)), (3, .box tRSt mR1 (Sp.stR x.1 n 0 0))], keep := [1, 2] },
 {ι := Nat, inv := fun c => c ≤ List.length x.1.1, dec := fun c => List.length x.1.1 - c, ovr := fun c => [(5, .shr tI (c : Int)), (3, .box tRSt mR1 (Sp.stR x.1 3 c 0))], keep := [1, 2] },
 {ι := Nat, inv := fun e => e ≤ Sp.total x.1.1, dec := fun e => Sp.total x.1.1 - e, ovr := fun e => [(6, .shr tI (e : Int)), (3, .box tRSt mR1 (Sp.stR x.1 3 (List.length x.1.1) e))], keep := [1, 2] }]
end Go.User
namespace Go.User
open Go.Proofs Go.Lf
set_option maxRecDepth 100000
theorem vc48 : (funI C48 (stpS C48) S48 L48 Try.f48) = (
let q0 : Nat := (1000 : Nat);
let q1 : Prop := True ∧ True ∧ True;
let q2 : Prop := q1 ∧ True;
let q3 : Int := (0 : tI.den);
let q4 : Prop := (True ∧ True) ∧ True;
let q5 : Nat := (3 : Nat);
let q6 : Int := (0 : Int);
let q7 : List (List Sp.Msg) := ([] : List tMsg.slice.den);
let q8 : List (List Int) := ([] : List tI.slice.den);
let q9 : Int := (1 : Int);
let q10 : Int := -q9;
let q11 : List Int := q10 :: ([] : List tI.den);
let q12 : List Int := q10 :: q10 :: q11;
let q13 : Sp.Out := (([] : List tI.den), ([] : List tI.den), ());
let q14 : Nat := (0 : Nat);
let q15 : Sp.VSt := ((([] : List tLOp.slice.den), ()), ([] : List tI.den), q7, q8, ([] : List tI.den), ([] : List tI.den), q13);
let q16 : Prop := q15 = q15 ∧ True;
let q17 : Prop := True ∧ q1;
let q18 : Prop := True ∧ q17;
let q19 : Prop := True ∧ q18;
let q20 : List (List Sp.Msg) := ((q10, q6, false, ()) :: ([] : List tMsg.den)) :: q7;
let q21 : List Step := Step.snd :: Step.snd :: Step.fst :: ([] : List Step);
let q22 : List Step := List.append._f (([] : List Step)) PUnit.unit q21;
let q23 : List Int × Unit := (([] : List Int), ());
let q24 : Sp.Out := (Sp.froms q14, q23);
let q25 : Prop := q19 ∧ True;
let q26 : List (List Int) := q12 :: q8;
let q27 : List Step := Step.snd :: q21;
let q28 : List Step := List.append._f (([] : List Step)) PUnit.unit q27;
let q29 : List (List Sp.Msg) := Sp.memR q5;
let q30 : List Step := List.append._f (([] : List Step)) PUnit.unit (Step.snd :: Step.snd :: Step.snd :: q27);
∀ (x : Sp.Lit × Unit),
 let q31 : Nat := x.1.1.length;
 let q32 : Int := (↑q31 : Int);
 let q33 : Int := (↑(Sp.total x.1.1) : Int);
 let q34 : Prop := x.1 = x.1 ∧ q16;
 let q35 : List Int := Sp.zeros x.1.1.length;
 let q36 : List Int := Sp.zeros (Sp.total x.1.1);
 let q37 : List Int × List Int × Sp.Out := (Sp.v0, q36, q24);
 Sp.total x.1.1 ≤ q0 ∧ q31 ≤ q0 →
 dFact tLit x.1 ∧ True →
 q2 ∧
 ((True ∧ True ∧ True ∧ True ∧ (q3 ≤ q32 ∧ q32 ≤ q32 ∧ q32 ≤ maxNew) ∧ True ∧ True ∧ Sp.total x.1.1 ≤ (1000000 : Nat) ∧ (q3 ≤ q33 ∧ q33 ≤ q33 ∧ q33 ≤ maxNew) ∧ q1) ∧ True ∧ True) ∧
 q4 ∧
 (∃ (x_1 : Nat), x_1 ≤ q5 ∧ q6 = (↑x_1 : Int) ∧ (x.1, List.replicate q32.toNat q6, q7, q8, q12, List.replicate q33.toNat q6, q13) = Sp.stR x.1 x_1 q14 q14 ∧ q34) ∧
 ∀ (x_1 : Nat),
 let q38 : Sp.VSt := Sp.stR x.1 x_1 q14 q14;
 let q39 : Bool := decide ((↑x_1 : Int) < (3 : Int));
 let q40 : Int := (↑x_1 : Int) + q9;
 x_1 ≤ q5 →
 dFact tI (↑x_1 : Int) ∧ dFact tRSt q38 ∧ True →
 q2 ∧
 (q39 = true → (q19 ∧ (↑((Sp.memR x_1).length + q20.length) : Int) ≤ maxNew ∧ True ∧ q22 = q22 ∧ True) ∧ ((True ∧ inK IntKind.i64 q40 ∧ True ∧ True) ∧ True) ∧ ∃ (y : Nat), y ≤ q5 ∧ q5 - y < q5 - x_1 ∧ q40 = (↑y : Int) ∧ (x.1, q35, Sp.memR x_1 ++ q20, Sp.views q14, q37) = Sp.stR x.1 y q14 q14 ∧ q34) ∧
 (q39 = false →
 q4 ∧
 (∃ (x_2 : Nat), x_2 ≤ q31 ∧ q6 = (↑x_2 : Int) ∧ q38 = Sp.stR x.1 q5 x_2 q14 ∧ q34) ∧
 ∀ (x_2 : Nat),
 let q41 : Sp.VSt := Sp.stR x.1 q5 x_2 q14;
 let q42 : Bool := decide ((↑x_2 : Int) < q32);
 let q43 : Int := (↑x_2 : Int) + q9;
 x_2 ≤ q31 →
 dFact tI (↑x_2 : Int) ∧ dFact tRSt q41 ∧ True →
 q25 ∧
 (q42 = true → (q18 ∧ (↑((Sp.views x_2).length + q26.length) : Int) ≤ maxNew ∧ True ∧ q28 = q28 ∧ True) ∧ ((True ∧ inK IntKind.i64 q43 ∧ True ∧ True) ∧ True) ∧ ∃ (y : Nat), y ≤ q31 ∧ q31 - y < q31 - x_2 ∧ q43 = (↑y : Int) ∧ (x.1, q35, q29, Sp.views x_2 ++ q26, q37) = Sp.stR x.1 q5 y q14 ∧ q34) ∧
 (q42 = false →
 q4 ∧
 (∃ (x_3 : Nat), x_3 ≤ Sp.total x.1.1 ∧ q6 = (↑x_3 : Int) ∧ q41 = Sp.stR x.1 q5 q31 x_3 ∧ q34) ∧
 ∀ (x_3 : Nat),
 let q44 : Sp.VSt := Sp.stR x.1 q5 q31 x_3;
 let q45 : Bool := decide ((↑x_3 : Int) < (↑q36.length : Int));
 let q46 : Int := (↑x_3 : Int) + q9;
 x_3 ≤ Sp.total x.1.1 → dFact tI (↑x_3 : Int) ∧ dFact tRSt q44 ∧ True → q25 ∧ (q45 = true → (q17 ∧ (↑((Sp.froms x_3).length + q11.length) : Int) ≤ maxNew ∧ True ∧ q30 = q30 ∧ True) ∧ ((True ∧ inK IntKind.i64 q46 ∧ True ∧ True) ∧ True) ∧ ∃ (y : Nat), y ≤ Sp.total x.1.1 ∧ Sp.total x.1.1 - y < Sp.total x.1.1 - x_3 ∧ q46 = (↑y : Int) ∧ (x.1, q35, q29, Sp.views q31, Sp.v0, q36, Sp.froms x_3 ++ q11, q23) = Sp.stR x.1 q5 q31 y ∧ q34) ∧ (q45 = false → ((True ∧ True) ∧ True ∧ True) ∧ q44 = Sp.stR x.1 q5 q31 (Sp.total x.1.1))))) := by kernel_rfl
end Go.User
namespace Sp
def feN (s : VSt) (c n : Nat) : List Int := (List.range 3).map fun (j : Nat) => if j < n then later s c j else fnc s j
def okA (n : Nat) (l : List Out) (s : VSt) : Prop := Good s ∧ total s.1.1 ≤ 6 ∧ left s = n ∧ l.length + 28 ^ n ≤ 490000000
def cho0 : Cho := (0, 0, ())
def stpB (s : VSt) (k : Int) : Bool := decide (0 ≤ k) && decide (k < ((choices s).length : Int))
def stpV (s : VSt) (k : Int) : VSt := if stpB s k = true then next s ((choices s).getD k.toNat cho0) else s
def stpE (s : VSt) (k : Int) : Int := if stpB s k = true then 0 else 1
/-- The choice that is made. -/
def pick (l : List Int) (i n : Nat) : Int := if l.length = 0 then 0 else (l.getD (i % l.length) 0).tmod (n : Int)
def runS (s : VSt) (l : List Int) : Nat → VSt
 | 0 => s
 | i + 1 => if choices (runS s l i) = [] then runS s l i else next (runS s l i) ((choices (runS s l i)).getD (pick l i (choices (runS s l i)).length).toNat cho0)
end Sp
namespace Go.User
open Go.Lf
abbrev mRo : Md := .pair .shr (.pair (.own .shr) (.pair (.own .shr) (.pair (.own (.own .shr)) (.pair (.own .shr) (.pair (.own .shr) (.pair (.own .shr) (.pair (.own .shr) .shr)))))))
abbrev mR2 : Md := .pair .shr (.pair (.own .shr) (.pair (.own .shr) .shr))
def S81 : FSpec := { args := [.val tRSt], multi := false, res := tRSt, mode := mRo, pre := fun x => Sp.OkS x.1, fn := fun x => x.1 }
def C81 : Ctx := { mkS 56 [] with mds := [(1, mV0), (2, mRo), (15, .own (.own .shr)), (31, .own (.own .shr)), (3, .own (.own .shr))] }
def L81 (x : kdens S81.args) : List LoopI := [
 {ι := Nat, inv := fun c => c ≤ List.length x.1.2.2.2.1, dec := fun c => List.length x.1.2.2.2.1 - c, ovr := fun c => [(4, .shr tI (c : Int)), (3, .own (.slice (.slice tI)) (.own (.own .shr)) (List.take c x.1.2.2.2.1)), (1, .box tRSt mR2 x.1)], keep := [2] }]
def S51 : FSpec := { args := [.val tRSt, .val tCho], multi := false, res := tRSt, mode := .shr, pre := fun x => Sp.okX x.1 x.2.1, fn := fun x => (x.1.1, Sp.nPc x.1 x.2.1, Sp.nMem x.1 x.2.1, Sp.nVw x.1 x.2.1, Sp.nFe x.1 x.2.1, Sp.nR x.1 x.2.1, Sp.nFr x.1 x.2.1, Sp.nFo x.1 x.2.1, ()) }
def C51 : Ctx := { mkS 189 [(81, S81), (82, S82), (80, S80)] with wrp := [156], mds := [(2, mV0), (4, mV0), (5, mRo), (15, mRo)], frz := [177], fzs := [5] }
def L51 (x : kdens S51.args) : List LoopI := [
 {ι := Nat, inv := fun k => k ≤ 3, dec := fun k => 3 - k, ovr := fun k => [(9, .shr tI (k : Int)), (5, .box tRSt mRo (x.1.1, Sp.nPc x.1 x.2.1, x.1.2.2.1, Sp.vwN x.1 (Sp.ofC x.2.1) k, Sp.feN x.1 (Sp.ofC x.2.1) k, x.1.2.2.2.2.2.1, x.1.2.2.2.2.2.2.1, x.1.2.2.2.2.2.2.2.1, ()))], keep := [2, 3, 4, 6, 7, 8] }]
def S28 : FSpec := { args := [.val tVSt, .val tI], multi := true, res := .prod tVSt (.prod tI .unit), mode := .shr, pre := fun x => Sp.OkS x.1, fn := fun x => (Sp.stpV x.1 x.2.1, Sp.stpE x.1 x.2.1, ()) }
def C28 : Ctx := { mkS 24 [(53, S53), (54, S54)] with mds := [(2, mV0), (4, mV0)] }
def L28 (x : kdens S28.args) : List LoopI := []
abbrev mRn : Md := .pair mV0 (.pair mV0 (.pair .shr .shr))
def S23 : FSpec := { args := [.val tLit, .val (.slice (.int .u8))], multi := false, res := tRun, mode := .shr, pre := fun x => Sp.valid x.1 = true, fn := fun x => (Sp.runS (Sp.start x.1) x.2.1 6, Sp.runS (Sp.start x.1) x.2.1 6, true, ()) }
def C23 : Ctx := { mkS 90 [(19, S19), (48, S48), (50, S50), (31, S31), (26, S26), (28, S28), (51, S51)] with mds := [(2, .pair .shr .shr), (24, mRn), (7, mRn), (4, mRn), (5, mV0), (12, mV0)] }
def L23 (x : kdens S23.args) : List LoopI := [
 {ι := Nat, inv := fun i => i ≤ 6, dec := fun i => 6 - i, ovr := fun i => [(8, .shr tI (i : Int)), (7, .box tRun .shr (Sp.runS (Sp.start x.1) x.2.1 i, Sp.runS (Sp.start x.1) x.2.1 i, true, ()))], keep := [1, 4] }]
end Go.User
namespace Go.User
open Go.Proofs Go.Lf
set_option maxRecDepth 100000
theorem vc81 : (funI C81 (stpS C81) S81 L81 Try.f81) = (
let q0 : Prop := True ∧ True ∧ True;
let q1 : Nat := (0 : Nat);
let q2 : Prop := (True ∧ True) ∧ True ∧ True;
let q3 : List (List Int) := ([] : List tI.slice.den);
let q4 : Sp.VSt := ((([] : List tLOp.slice.den), ()), ([] : List tI.den), ([] : List tMsg.slice.den), q3, ([] : List tI.den), ([] : List tI.den), ([] : List tI.den), ([] : List tI.den), ());
let q5 : Prop := q4 = q4 ∧ True;
let q6 : Int := (1 : Int);
∀ (x : Sp.VSt × Unit),
 let q7 : Prop := dFact tRSt x.1 ∧ True;
 let q8 : List (List Int) := x.1.2.2.2.1;
 let q9 : Nat := q8.length;
 let q10 : List Int × List Int × Sp.Out := x.1.2.2.2.2;
 let q11 : List Int := q10.1;
 let q12 : List Int × Sp.Out := q10.2;
 let q13 : List Int := q12.1;
 let q14 : Sp.Out := q12.2;
 let q15 : List Int := q14.1;
 let q16 : List Int × Unit := q14.2;
 let q17 : List Int := q16.1;
 Sp.OkS x.1 →
 q7 →
 (q0 ∧ True) ∧
 ((True ∧ True ∧ True ∧ (↑(q1 + x.1.2.1.length) : Int) ≤ maxNew ∧ True ∧ True) ∧ True ∧ True) ∧
 ((True ∧ True ∧ True ∧ (↑(q1 + x.1.2.2.1.length) : Int) ≤ maxNew ∧ True ∧ True) ∧ True ∧ True) ∧
 q2 ∧
 ((True ∧ True) ∧ True) ∧
 (∃ (x_1 : Nat), x_1 ≤ q9 ∧ (0 : Int) = (↑x_1 : Int) ∧ q3 = List.take x_1 q8 ∧ (x.1.1, x.1.2.1, x.1.2.2.1, x.1.2.2.2) = x.1 ∧ q5) ∧
 ∀ (x_1 : Nat),
 let q18 : List (List Int) := List.take x_1 q8;
 let q19 : Bool := decide ((↑x_1 : Int) < (↑q9 : Int));
 let q20 : List Int := q8.getD (↑x_1 : Int).toNat (([] : List tI.den));
 let q21 : List (List Int) := q20 :: q3;
 let q22 : Int := (↑x_1 : Int) + q6;
 x_1 ≤ q9 → dFact tI (↑x_1 : Int) ∧ dFact tI.slice.slice q18 ∧ q7 → ((True ∧ True ∧ True ∧ q0) ∧ True) ∧ (q19 = true → ((True ∧ True ∧ True ∧ True ∧ True ∧ inN (↑x_1 : Int) q9 ∧ True ∧ (↑(q1 + q20.length) : Int) ≤ maxNew ∧ True ∧ True) ∧ (↑(q18.length + q21.length) : Int) ≤ maxNew ∧ True ∧ True) ∧ ((True ∧ inK IntKind.i64 q22 ∧ True ∧ True) ∧ True) ∧ ∃ (y : Nat), y ≤ q9 ∧ q9 - y < q9 - x_1 ∧ q22 = (↑y : Int) ∧ q18 ++ q21 = List.take y q8 ∧ x.1 = x.1 ∧ q5) ∧ (q19 = false → (q0 ∧ True ∧ True) ∧ ((True ∧ True ∧ True ∧ (↑(q1 + q11.length) : Int) ≤ maxNew ∧ True ∧ True) ∧ True ∧ True) ∧ ((True ∧ True ∧ True ∧ (↑(q1 + q13.length) : Int) ≤ maxNew ∧ True ∧ True) ∧ True ∧ True) ∧ ((True ∧ True ∧ True ∧ (↑(q1 + q15.length) : Int) ≤ maxNew ∧ True ∧ True) ∧ True ∧ True) ∧ ((True ∧ True ∧ True ∧ (↑(q1 + q17.length) : Int) ≤ maxNew ∧ True ∧ True) ∧ True ∧ True) ∧ q2 ∧ (x.1.1, x.1.2.1, x.1.2.2.1, q18, q11, q13, q15, q17, q16.2) = x.1)) := by kernel_rfl
theorem vc51 : (funI C51 (stpS C51) S51 L51 Try.f51) = (
let q0 : Prop := True ∧ True ∧ True;
let q1 : Prop := True ∧ q0;
let q2 : Prop := q1 ∧ True;
let q3 : Int := (0 : Int);
let q4 : Prop := True ∧ q1;
let q5 : Prop := True ∧ q4;
let q6 : Int := (1 : Int);
let q7 : Sp.LOp := (q3, q3, q3, ());
let q8 : Nat := (3 : Nat);
let q9 : Sp.VSt := ((([] : List tLOp.slice.den), ()), ([] : List tI.den), ([] : List tMsg.slice.den), ([] : List tI.slice.den), ([] : List tI.den), ([] : List tI.den), ([] : List tI.den), ([] : List tI.den), ());
let q10 : Prop := q9 = q9;
let q11 : Prop := q0 ∧ True;
let q12 : Int := (3 : Int);
let q13 : List Step := List.append._f (([] : List Step)) PUnit.unit (Step.snd :: Step.snd :: Step.snd :: Step.snd :: Step.snd :: Step.snd :: Step.snd :: Step.fst :: ([] : List Step));
let q14 : Prop := (True ∧ True) ∧ True ∧ True;
let q15 : Sp.Msg := (q3, q3, false, ());
let q16 : Prop := True ∧ q5;
let q17 : Prop := (True ∧ True ∧ q16) ∧ True ∧ True;
let q18 : Prop := q16 ∧ True ∧ True;
∀ (x : Sp.VSt × (Int × Int × Unit) × Unit),
 let q19 : Nat := x.1.1.1.length;
 let q20 : Nat := x.1.2.1.length;
 let q21 : Prop := inN x.2.1.1 q20;
 let q22 : Nat := x.2.1.1.toNat;
 let q23 : Int := x.1.2.1.getD q22 q3;
 let q24 : List Sp.LOp := x.1.1.1.getD q22 (([] : List tLOp.den));
 let q25 : Int := Sp.pcOf x.1 q22;
 let q26 : Int := q23 + q6;
 let q27 : Sp.LOp := q24.getD q23.toNat q7;
 let q28 : Int := q27.1;
 let q29 : Bool := q28 == (4 : Int);
 let q30 : List Int := x.1.2.1.set q22 q26;
 let q31 : List Int := Sp.nPc x.1 x.2.1;
 let q32 : List Int × List Int × Sp.Out := x.1.2.2.2.2;
 let q33 : List Int × Sp.Out := q32.2;
 let q34 : List Int := q33.1;
 let q35 : Sp.Out := q33.2;
 let q36 : List Int := q35.1;
 let q37 : List Int × Unit := q35.2;
 let q38 : List Int := q37.1;
 let q39 : List Int × Sp.Out := (q34, q36, q38, ());
 let q40 : Int := Sp.evt x.1 x.2.1.1;
 let q41 : Prop := x.1 = x.1 ∧ x.2.1 = x.2.1 ∧ q10 ∧ q27 = q27 ∧ q40 = q40 ∧ x.2.1.1 = x.2.1.1 ∧ True;
 let q42 : List (List Int) := x.1.2.2.2.1;
 let q43 : Prop := inN x.2.1.1 q42.length;
 let q44 : List Int := q42.getD q22 (([] : List tI.den));
 let q45 : Nat := q44.length;
 let q46 : Nat := x.1.2.2.1.length;
 let q47 : List Int := q32.1;
 let q48 : Nat := q47.length;
 let q49 : List Int := q40 :: ([] : List tI.den);
 let q50 : Sp.VSt := (x.1.1, q31, Sp.nMem x.1 x.2.1, Sp.nVw x.1 x.2.1, Sp.nFe x.1 x.2.1, Sp.nR x.1 x.2.1, Sp.nFr x.1 x.2.1, Sp.nFo x.1 x.2.1, ());
 let q51 : Int × Int × Unit := q27.2;
 let q52 : Int := q51.1;
 let q53 : Prop := inN q52 q46;
 let q54 : Nat := q52.toNat;
 let q55 : List Sp.Msg := x.1.2.2.1.getD q54 (([] : List tMsg.den));
 let q56 : Nat := q55.length;
 let q57 : Bool := q28 != (2 : Int);
 let q58 : Bool := q28 == q6;
 let q59 : Prop := q58 = true;
 let q60 : Prop := True ∧ True ∧ True ∧ True ∧ inN q52 q45 ∧ True;
 let q61 : Prop := (True ∧ True ∧ True ∧ q43 ∧ True ∧ q60) ∧ True ∧ True;
 let q62 : Sp.Msg := q55.getD x.2.1.2.1.toNat q15;
 let q63 : Int := q62.1;
 let q64 : List (List Int) := q42.set q22 (q44.set q54 q63);
 let q65 : Nat := q40.toNat;
 let q66 : Int := q62.2.1;
 let q67 : List Int × List Int × Sp.Out := (q47, q34.set q65 q66, q36.set q65 q63, q37);
 let q68 : Prop := q58 = false;
 let q69 : Bool := q28 == q12;
 let q70 : Prop := q69 = true;
 let q71 : Int := x.2.1.2.1 + q6;
 let q72 : Prop := inK IntKind.i64 q71;
 let q73 : Prop := winI q3 q71 q56;
 let q74 : List Sp.Msg := win q3 q71 q55;
 let q75 : Nat := q74.length;
 let q76 : Prop := (↑((0 : Nat) + q75) : Int) ≤ maxNew;
 let q77 : Int := q51.2.1;
 let q78 : Bool × Unit := (q69, ());
 let q79 : List Sp.Msg := (q40, IntKind.i64.wrap (q66 + q77), q78) :: ([] : List tMsg.den);
 let q80 : Int := (↑q56 : Int);
 let q81 : Prop := winI q71 q80 q56;
 let q82 : List Sp.Msg := q74 ++ q79;
 let q83 : List Sp.Msg := win q71 q80 q55;
 let q84 : Nat := q83.length;
 let q85 : Prop := q53 ∧ True;
 let q86 : Prop := (True ∧ True ∧ True ∧ True ∧ True ∧ True ∧ True ∧ True ∧ q72 ∧ q73 ∧ q76 ∧ True ∧ True ∧ (↑(q75 + q79.length) : Int) ≤ maxNew ∧ True ∧ True ∧ True ∧ q72 ∧ q81 ∧ (↑(q82.length + q84) : Int) ≤ maxNew ∧ q85) ∧ True ∧ True;
 let q87 : Prop := (True ∧ True ∧ True ∧ q43 ∧ q60) ∧ True ∧ True;
 let q88 : List (List Sp.Msg) := x.1.2.2.1.set q54 (q82 ++ q83);
 let q89 : List (List Int) := q42.set q22 (q44.set q54 q40);
 let q90 : List (List Int) × List Int × List Int × Sp.Out := (q89, q67);
 let q91 : Prop := q69 = false;
 let q92 : List Sp.Msg := (q40, q77, q78) :: ([] : List tMsg.den);
 let q93 : List Sp.Msg := q74 ++ q92;
 let q94 : Prop := (True ∧ True ∧ True ∧ True ∧ True ∧ True ∧ True ∧ True ∧ q72 ∧ q73 ∧ q76 ∧ True ∧ True ∧ (↑(q75 + q92.length) : Int) ≤ maxNew ∧ True ∧ True ∧ True ∧ q72 ∧ q81 ∧ (↑(q93.length + q84) : Int) ≤ maxNew ∧ q85) ∧ True ∧ True;
 let q95 : List (List Sp.Msg) := x.1.2.2.1.set q54 (q93 ++ q83);
 let q96 : List (List Int) × List Int × List Int × Sp.Out := (q89, q32);
 Sp.okX x.1 x.2.1 →
 dFact tRSt x.1 ∧ dFact (tI.prod (tI.prod Ty.unit)) x.2.1 ∧ True →
 q2 ∧
 ((True ∧ Sp.OkS x.1 ∧ True ∧ True) ∧ True ∧ True) ∧
 (True ∧ True ∧ True ∧ True ∧ True ∧ inN x.2.1.1 q19 ∧ True ∧ True ∧ True ∧ True ∧ True ∧ q21 ∧ True ∧ inN q23 q24.length ∧ True ∧ True ∧ True ∧ True ∧ (Sp.total x.1.1.1 ≤ (1000 : Nat) ∧ (0 : (AK.val tI).den) ≤ x.2.1.1 ∧ x.2.1.1 < (↑q19 : Int) ∧ q20 = q19 ∧ q3 ≤ q25 ∧ q25 ≤ (1000 : Int)) ∧ q5) ∧
 ((True ∧ True ∧ True ∧ q21 ∧ True ∧ inK IntKind.i64 q26 ∧ q21 ∧ True) ∧ True ∧ True) ∧
 q2 ∧
 (q29 = true →
 ((True ∧ True) ∧ True) ∧
 (∃ (x_1 : Nat), x_1 ≤ q8 ∧ q3 = (↑x_1 : Int) ∧ (x.1.1, q30, x.1.2.2) = (x.1.1, q31, x.1.2.2.1, Sp.vwN x.1 (Sp.ofC x.2.1) x_1, Sp.feN x.1 (Sp.ofC x.2.1) x_1, q39) ∧ q41) ∧
 ∀ (x_1 : Nat),
 let q97 : List (List Int) := Sp.vwN x.1 (Sp.ofC x.2.1) x_1;
 let q98 : List Int := Sp.feN x.1 (Sp.ofC x.2.1) x_1;
 let q99 : Bool := decide ((↑x_1 : Int) < q12);
 let q100 : Prop := inN (↑x_1 : Int) q46;
 let q101 : Prop := inN (↑x_1 : Int) q48;
 let q102 : Nat := (↑x_1 : Int).toNat;
 let q103 : List Sp.Msg := x.1.2.2.1.getD q102 (([] : List tMsg.den));
 let q104 : Int := q47.getD q102 q3;
 let q105 : Int := q44.getD q102 q3;
 let q106 : Bool := decide (Sp.plc q103 q104 > Sp.plc q103 q105);
 let q107 : List Int := q97.getD q22 (([] : List tI.den));
 let q108 : Prop := (True ∧ True ∧ True ∧ inN x.2.1.1 q97.length ∧ True ∧ True ∧ True ∧ inN (↑x_1 : Int) q107.length ∧ True) ∧ True ∧ True;
 let q109 : Prop := (True ∧ True ∧ True ∧ True ∧ inN (↑x_1 : Int) q98.length ∧ True) ∧ True ∧ True;
 let q110 : Int := (↑x_1 : Int) + q6;
 let q111 : Prop := (True ∧ inK IntKind.i64 q110 ∧ True ∧ True) ∧ True;
 x_1 ≤ q8 → dFact tI (↑x_1 : Int) ∧ dFact tRSt (x.1.1, q31, x.1.2.2.1, q97, q98, q39) ∧ True → q11 ∧ (q99 = true → ((True ∧ True ∧ True ∧ q43 ∧ True ∧ True ∧ inN (↑x_1 : Int) q45 ∧ q0) ∧ True) ∧ ((True ∧ True ∧ True ∧ q100 ∧ True ∧ True ∧ True ∧ True ∧ q101 ∧ True ∧ True ∧ True ∧ True ∧ True ∧ q100 ∧ q4) ∧ True) ∧ (q106 = true → ((True ∧ True ∧ True ∧ q101 ∧ q0) ∧ True) ∧ q108 ∧ q109 ∧ q111 ∧ ∃ (y : Nat), y ≤ q8 ∧ q8 - y < q8 - x_1 ∧ q110 = (↑y : Int) ∧ (x.1.1, q31, x.1.2.2.1, q97.set q22 (q107.set q102 q104), q98.set q102 q104, q39) = (x.1.1, q31, x.1.2.2.1, Sp.vwN x.1 (Sp.ofC x.2.1) y, Sp.feN x.1 (Sp.ofC x.2.1) y, q39) ∧ q41) ∧ (q106 = false → q108 ∧ q109 ∧ q111 ∧ ∃ (y : Nat), y ≤ q8 ∧ q8 - y < q8 - x_1 ∧ q110 = (↑y : Int) ∧ (x.1.1, q31, x.1.2.2.1, q97.set q22 (q107.set q102 q105), q98.set q102 q105, q39) = (x.1.1, q31, x.1.2.2.1, Sp.vwN x.1 (Sp.ofC x.2.1) y, Sp.feN x.1 (Sp.ofC x.2.1) y, q39) ∧ q41)) ∧ (q99 = false → (q4 ∧ (↑(q38.length + q49.length) : Int) ≤ maxNew ∧ True ∧ q13 = q13 ∧ True) ∧ q14 ∧ (x.1.1, q31, x.1.2.2.1, q97, q98, q34, q36, q38 ++ q49, ()) = q50)) ∧
 (q29 = false → ((True ∧ True ∧ True ∧ True ∧ q53 ∧ q0) ∧ True) ∧ ((True ∧ True ∧ True ∧ inN x.2.1.2.1 q56 ∧ q0) ∧ True ∧ True) ∧ q2 ∧ (q57 = true → ((True ∧ True ∧ True ∧ True ∧ True ∧ inN q40 q34.length ∧ True) ∧ True ∧ True) ∧ ((True ∧ True ∧ True ∧ True ∧ True ∧ inN q40 q36.length ∧ True) ∧ True ∧ True) ∧ q2 ∧ (q59 → q61 ∧ q14 ∧ (x.1.1, q30, x.1.2.2.1, q64, q67) = q50) ∧ (q68 → q17 ∧ q11 ∧ (q70 → q18 ∧ q86 ∧ q87 ∧ q14 ∧ (x.1.1, q30, q88, q90) = q50) ∧ (q91 → q94 ∧ q87 ∧ q14 ∧ (x.1.1, q30, q95, q90) = q50))) ∧ (q57 = false → q2 ∧ (q59 → q61 ∧ q14 ∧ (x.1.1, q30, x.1.2.2.1, q64, q32) = q50) ∧ (q68 → q17 ∧ q11 ∧ (q70 → q18 ∧ q86 ∧ q87 ∧ q14 ∧ (x.1.1, q30, q88, q96) = q50) ∧ (q91 → q94 ∧ q87 ∧ q14 ∧ (x.1.1, q30, q95, q96) = q50))))) := by kernel_rfl
end Go.User
namespace Sp
theorem memR_succ (n : Nat) : memR n ++ [m0] :: [] = memR (n + 1) := by
 unfold memR
 rw [List.replicate_succ']
theorem views_succ (n : Nat) : views n ++ v0 :: [] = views (n + 1) := by
 unfold views
 rw [List.replicate_succ']
theorem froms_succ (n : Nat) : froms n ++ (-1) :: [] = froms (n + 1) := by
 unfold froms
 rw [List.replicate_succ']
end Sp
namespace Go.User
open Go.Lf Go.Proofs
theorem ok48 : FOk Try.prog 48 S48 := by
 have hC : CtxOK Try.prog C48 := okC (fns_cons ok18 fns_nil) rfl rfl rfl rfl rfl rfl rfl
 refine FOk.intro hC (stpS_ok hC) Try.call48 Try.func48 (by kernel_rfl) (by kernel_rfl) L48 (vc48.mpr ?_)
 simp only [zz, zy]
 rintro ⟨t, u⟩ ⟨h1, h2⟩ hx
 have h1 : Sp.total t.1 ≤ 1000 := h1
 have h2 : t.1.length ≤ 1000 := h2
 have hmx : maxNew = 2147483648 := rfl
 have hz : (Sp.zeros (Sp.total t.1)).length = Sp.total t.1 := by simp [Sp.zeros]
 refine ⟨⟨⟨Int.natCast_nonneg _, Int.le_refl _, ?_⟩, ?_, Int.natCast_nonneg _, Int.le_refl _, ?_⟩, ⟨0, by omega, rfl, rfl⟩, fun n hn _ => ⟨fun hlt => ?_, fun hge => ?_⟩⟩
 ·show (t.1.length : Int) ≤ maxNew; omega
 ·show Sp.total t.1 ≤ 1000000; omega
 ·show (Sp.total t.1 : Int) ≤ maxNew; omega
 ·have hlt : (n : Int) < 3 := hlt
  refine ⟨?_, inK_mid (by omega) (by omega), n + 1, by omega, by omega, by omega, ?_⟩
  ·show (((Sp.memR n).length + 1 : Nat) : Int) ≤ maxNew
   have : (Sp.memR n).length = n := by simp [Sp.memR]
   omega
  ·show (t, Sp.zeros t.1.length, Sp.memR n ++ [Sp.m0] :: [], Sp.views 0, Sp.v0, Sp.zeros (Sp.total t.1), Sp.froms 0, ([] : List Int), ()) = Sp.stR t (n + 1) 0 0
   rw [Sp.memR_succ]; rfl
 ·have hn : n ≤ 3 := hn
  have hge : (3 : Int) ≤ (n : Int) := hge
  have hn : n = 3 := by omega
  subst hn
  refine ⟨⟨0, Nat.zero_le _, rfl, rfl⟩, fun c hc _ => ⟨fun hlt => ?_, fun hge => ?_⟩⟩
  ·have hlt : (c : Int) < (t.1.length : Int) := hlt
   refine ⟨?_, inK_mid (by omega) (by omega), c + 1, ?_, ?_, by omega, ?_⟩
   ·show (((Sp.views c).length + 1 : Nat) : Int) ≤ maxNew
    have : (Sp.views c).length = c := by simp [Sp.views]
    omega
   ·show c + 1 ≤ t.1.length; omega
   ·show t.1.length - (c + 1) < t.1.length - c; omega
   ·show (t, Sp.zeros t.1.length, Sp.memR 3, Sp.views c ++ Sp.v0 :: [], Sp.v0, Sp.zeros (Sp.total t.1), Sp.froms 0, ([] : List Int), ()) = Sp.stR t 3 (c + 1) 0
    rw [Sp.views_succ]; rfl
  ·have hc : c ≤ t.1.length := hc
   have hge : (t.1.length : Int) ≤ (c : Int) := hge
   have hc : c = t.1.length := by omega
   subst hc
   refine ⟨⟨0, Nat.zero_le _, rfl, rfl⟩, fun e he _ => ⟨fun hlt => ?_, fun hge => ?_⟩⟩
   ·have hlt : (e : Int) < ((Sp.zeros (Sp.total t.1)).length : Int) := hlt
    rw [hz] at hlt
    refine ⟨?_, inK_mid (by omega) (by omega), e + 1, ?_, ?_, by omega, ?_⟩
    ·show (((Sp.froms e).length + 1 : Nat) : Int) ≤ maxNew
     have : (Sp.froms e).length = e := by simp [Sp.froms]
     omega
    ·show e + 1 ≤ Sp.total t.1; omega
    ·show Sp.total t.1 - (e + 1) < Sp.total t.1 - e; omega
    ·show (t, Sp.zeros t.1.length, Sp.memR 3, Sp.views t.1.length, Sp.v0, Sp.zeros (Sp.total t.1), Sp.froms e ++ (-1) :: [], ([] : List Int), ()) = Sp.stR t 3 t.1.length (e + 1)
     rw [Sp.froms_succ]; rfl
   ·have he : e ≤ Sp.total t.1 := he
    have hge : ((Sp.zeros (Sp.total t.1)).length : Int) ≤ (e : Int) := hge
    rw [hz] at hge
    have he : e = Sp.total t.1 := by omega
    subst he; rfl
theorem ok81 : FOk Try.prog 81 S81 := by
 have hC : CtxOK Try.prog C81 := okC fns_nil rfl rfl rfl rfl rfl rfl rfl
 refine FOk.intro hC (stpS_ok hC) Try.call81 Try.func81 (by kernel_rfl) (by kernel_rfl) L81 (vc81.mpr ?_)
 simp only [zz, zy]
 rintro ⟨s, u⟩ hs hx
 have hs : Sp.OkS s := hs
 have htot := hs.tot
 have hfew := hs.few
 have hpcl := hs.pcl
 have hvwl := hs.vwl
 have hmeml := hs.meml
 have hfel := hs.fel
 have hrl := hs.rl
 have hfrl := hs.frl
 have hfol := hs.fol
 have hmx : maxNew = 2147483648 := rfl
 refine ⟨?_, ?_, ⟨0, Nat.zero_le _, rfl, by rfl⟩, fun c hc _ => ⟨fun hlt => ?_, fun hge => ?_⟩⟩
 ·show ((0 + s.2.1.length : Nat) : Int) ≤ maxNew; omega
 ·show ((0 + s.2.2.1.length : Nat) : Int) ≤ maxNew; omega
 ·have hlt : (c : Int) < (s.2.2.2.1.length : Int) := hlt
  have hcl : c < s.2.2.2.1.length := by omega
  have hrow : (s.2.2.2.1.getD c []).length = 3 := hs.row c (by omega)
  refine ⟨⟨⟨⟨by omega, hlt⟩, ?_⟩, ?_⟩, inK_mid (by omega) (by omega), c + 1, ?_, ?_, by omega, ?_⟩
  ·show ((0 + (s.2.2.2.1.getD c []).length : Nat) : Int) ≤ maxNew; omega
  ·show (((s.2.2.2.1.take c).length + 1 : Nat) : Int) ≤ maxNew
   rw [List.length_take]; omega
  ·show c + 1 ≤ s.2.2.2.1.length; omega
  ·show s.2.2.2.1.length - (c + 1) < s.2.2.2.1.length - c; omega
  ·show s.2.2.2.1.take c ++ [s.2.2.2.1.getD c []] = s.2.2.2.1.take (c + 1)
   exact (Pl.take_succ hcl []).symm
 ·have hc : c ≤ s.2.2.2.1.length := hc
  have hge : (s.2.2.2.1.length : Int) ≤ (c : Int) := hge
  refine ⟨?_, ?_, ?_, ?_, ?_⟩
  ·show ((0 + s.2.2.2.2.1.length : Nat) : Int) ≤ maxNew; omega
  ·show ((0 + s.2.2.2.2.2.1.length : Nat) : Int) ≤ maxNew; omega
  ·show ((0 + s.2.2.2.2.2.2.1.length : Nat) : Int) ≤ maxNew; omega
  ·show ((0 + s.2.2.2.2.2.2.2.1.length : Nat) : Int) ≤ maxNew; omega
  ·show (s.1, s.2.1, s.2.2.1, s.2.2.2.1.take c, s.2.2.2.2.1, s.2.2.2.2.2.1, s.2.2.2.2.2.2.1, s.2.2.2.2.2.2.2.1, s.2.2.2.2.2.2.2.2) = s
   rw [Pl.take_all hc hge]
end Go.User
namespace Sp
theorem feN_len (s : VSt) (c n : Nat) : (feN s c n).length = 3 := by simp [feN]
theorem feN_get (s : VSt) (c n : Nat) {j : Nat} (hj : j < 3) : (feN s c n).getD j 0 = if j < n then later s c j else fnc s j := by
 unfold feN
 rw [List.getD_eq_getElem?_getD, List.getElem?_map, List.getElem?_range hj]; rfl
theorem ext3 {a b : List Int} (ha : a.length = 3) (hb : b.length = 3) (h : ∀ i, i < 3 → a.getD i 0 = b.getD i 0) : a = b := by
 apply List.ext_getElem (ha.trans hb.symm)
 intro i h1 h2
 have := h i (by omega)
 rw [Pl.getD_at h1, Pl.getD_at h2] at this
 exact this
theorem feN_succ (s : VSt) (c : Nat) {n : Nat} (hn : n < 3) : (feN s c n).set n (later s c n) = feN s c (n + 1) := by
 refine ext3 (by rw [List.length_set, feN_len]) (feN_len _ _ _) fun i hi => ?_
 rw [Pl.getD_set i (by rw [feN_len]; exact hn), feN_get s c _ hi, feN_get s c _ hi]
 by_cases h : i = n
 ·subst h; rw [if_pos rfl, if_pos (by omega)]
 ·rw [if_neg h]
  by_cases h3 : i < n
  ·rw [if_pos h3, if_pos (by omega)]
  ·rw [if_neg h3, if_neg (by omega)]
theorem feN_zero {s : VSt} (c : Nat) (h : s.2.2.2.2.1.length = 3) : feN s c 0 = s.2.2.2.2.1 := by
 refine ext3 (feN_len _ _ _) h fun i hi => ?_
 rw [feN_get s c _ hi, if_neg (by omega)]; rfl
theorem feN_three (s : VSt) (c : Nat) : feN s c 3 = rowN s c 3 := by
 refine ext3 (feN_len _ _ _) (rowN_len _ _ _) fun i hi => ?_
 rw [feN_get s c _ hi, rowN_get s c _ hi, if_pos hi, if_pos hi]
end Sp
namespace Go.User
open Go.Lf Go.Proofs
set_option maxRecDepth 100000 in
theorem ok51 : FOk Try.prog 51 S51 := by
 have hC : CtxOK Try.prog C51 := okC (fns_cons ok81 (fns_cons ok82 (fns_cons ok80 fns_nil))) rfl rfl rfl rfl rfl rfl rfl
 refine FOk.intro hC (stpS_ok hC) Try.call51 Try.func51 (by kernel_rfl) (by kernel_rfl) L51 (vc51.mpr ?_)
 simp only [zz, zy]
 rintro ⟨s, x, u⟩ h hx
 obtain ⟨hs, hm⟩ : Sp.OkS s ∧ x ∈ Sp.choices s := h
 have X := hs.xf hm
 have hcn : x.1.toNat < s.1.1.length := X.lt
 have hc0 : 0 ≤ x.1 := by rw [X.eq]; exact Int.natCast_nonneg _
 have hc1 : x.1 < (s.1.1.length : Int) := by omega
 have hfew := hs.few
 have htot := hs.tot
 have hpcl := hs.pcl
 have hvwl := hs.vwl
 have hmeml := hs.meml
 have hfel := hs.fel
 have hrl := hs.rl
 have hfrl := hs.frl
 have hfol := hs.fol
 have hmx : maxNew = 2147483648 := rfl
 have hp0 : 0 ≤ Sp.pcOf s x.1.toNat := X.pc0
 have hp1 : (Sp.pcOf s x.1.toNat).toNat < (Sp.opsOf s x.1.toNat).length := X.pc1
 have hev := Sp.evt_lt hc0 hc1 hp0 (by omega)
 have hpm : Sp.pcOf s x.1.toNat ≤ 1000 := by
  have e1 := Sp.total_take_succ (p := s.1.1) (i := x.1.toNat) hcn
  have e2 := Sp.total_take_le s.1.1 (x.1.toNat + 1)
  have e3 : (Sp.opsOf s x.1.toNat).length = (s.1.1.getD x.1.toNat []).length := rfl
  omega
 have iN : inN x.1 s.1.1.length := ⟨hc0, hc1⟩
 have iP : inN x.1 s.2.1.length := ⟨hc0, by omega⟩
 have iV : inN x.1 s.2.2.2.1.length := ⟨hc0, by omega⟩
 have iV' : ∀ n, inN x.1 (Sp.vwN s (Sp.ofC x) n).length := fun n => ⟨hc0, by rw [Sp.vwN_len]; omega⟩
 have hvc : Sp.ofC x < s.2.2.2.1.length := by show x.1.toNat < _; omega
 have hrow3 := hs.row _ X.lt
 have hrow3' : (s.2.2.2.1.getD x.1.toNat []).length = 3 := hrow3
 have hrowE : s.2.2.2.1.getD x.1.toNat [] = Sp.rowOf s (Sp.ofC x) := rfl
 have iO : inN (Sp.opX s x).2.1 3 := ⟨X.pl0, X.pl1⟩
 have iOm : inN (Sp.opX s x).2.1 s.2.2.1.length := by rw [hmeml]; exact iO
 have iOr : inN (Sp.opX s x).2.1 (s.2.2.2.1.getD x.1.toNat []).length := by rw [hrow3']; exact iO
 refine ⟨hs, ⟨iN, iP, ⟨hp0, ?_⟩, htot, hc0, hc1, hpcl, hp0, hpm⟩, ⟨iP, inK_mid ?_ ?_, iP⟩, fun hf => ⟨⟨0, Nat.zero_le _, rfl, ?_⟩, fun k hk _ => ⟨fun hl => ?_, fun hg => ?_⟩⟩, fun hf => ?_⟩
 ·show Sp.pcOf s x.1.toNat < ((Sp.opsOf s x.1.toNat).length : Int); omega
 ·show (-1000000000 : Int) ≤ Sp.pcOf s x.1.toNat + 1; omega
 ·show Sp.pcOf s x.1.toNat + 1 ≤ (1000000000 : Int); omega
 ·exact Sp.st_eq rfl rfl (Sp.vwN_zero hvc hrow3).symm (Sp.feN_zero _ hfel).symm rfl rfl rfl
 ·have hl : (k : Int) < 3 := hl
  have ik : inN (k : Int) 3 := ⟨by omega, hl⟩
  have ikm : inN (k : Int) s.2.2.1.length := by rw [hmeml]; exact ik
  have ikf : inN (k : Int) s.2.2.2.2.1.length := by rw [hfel]; exact ik
  have ikr : inN (k : Int) (s.2.2.2.1.getD x.1.toNat []).length := by rw [hrow3']; exact ik
  have ikn : inN (k : Int) (Sp.feN s (Sp.ofC x) k).length := by rw [Sp.feN_len]; exact ik
  have hks : inK .i64 ((k : Int) + 1) := inK_mid (by omega) (by omega)
  have hget : ((Sp.vwN s (Sp.ofC x) k).getD x.1.toNat []) = Sp.rowN s (Sp.ofC x) k := Sp.vwN_get k hvc _
  have ikv : inN (k : Int) ((Sp.vwN s (Sp.ofC x) k).getD x.1.toNat []).length := by rw [hget, Sp.rowN_len]; exact ik
  have hsu := Sp.rowN_succ s (Sp.ofC x) (n := k) (by omega)
  have hfu := Sp.feN_succ s (Sp.ofC x) (n := k) (by omega)
  have hgo : ∀ v, v = Sp.later s (Sp.ofC x) k → (s.1, Sp.nPc s x, s.2.2.1, (Sp.vwN s (Sp.ofC x) k).set x.1.toNat (((Sp.vwN s (Sp.ofC x) k).getD x.1.toNat []).set k v), (Sp.feN s (Sp.ofC x) k).set k v, s.2.2.2.2.2.1, s.2.2.2.2.2.2.1, s.2.2.2.2.2.2.2.1, ()) = (s.1, Sp.nPc s x, s.2.2.1, Sp.vwN s (Sp.ofC x) (k + 1), Sp.feN s (Sp.ofC x) (k + 1), s.2.2.2.2.2.1, s.2.2.2.2.2.2.1, s.2.2.2.2.2.2.2.1, ()) := by
   rintro v rfl
   refine Sp.st_eq rfl rfl ?_ hfu rfl rfl rfl
   rw [hget, hsu]
   exact Sp.vwN_set k _
  refine ⟨⟨iV, ikr⟩, ⟨ikm, ikf, ikm⟩, fun hlt => ⟨ikf, ⟨iV' k, ikv⟩, ikn, hks, k + 1, by omega, by omega, by omega, hgo _ ?_⟩, fun hge => ⟨⟨iV' k, ikv⟩, ikn, hks, k + 1, by omega, by omega, by omega, hgo _ ?_⟩⟩
  ·have hlt : Sp.plV s (Sp.ofC x) k < Sp.plc (Sp.memOf s k) (Sp.fnc s k) := hlt
   unfold Sp.later; rw [if_pos hlt]; rfl
  ·have hge : Sp.plc (Sp.memOf s k) (Sp.fnc s k) ≤ Sp.plV s (Sp.ofC x) k := hge
   unfold Sp.later; rw [if_neg (by omega)]; rfl
 ·have hk3 : k = 3 := by have hk : k ≤ 3 := hk; have hg : (3 : Int) ≤ (k : Int) := hg; omega
  subst hk3
  have hf : (Sp.opX s x).1 = 4 := hf
  refine ⟨?_, Sp.st_eq rfl ?_ ?_ ?_ ?_ ?_ ?_⟩
  ·show ((s.2.2.2.2.2.2.2.1.length + 1 : Nat) : Int) ≤ maxNew; omega
  ·unfold Sp.nMem; rw [if_pos (.inl hf)]
  ·unfold Sp.nVw; rw [if_pos hf]
  ·unfold Sp.nFe; rw [if_pos hf]; exact Sp.feN_three _ _
  ·unfold Sp.nR; rw [if_pos (.inl hf)]
  ·unfold Sp.nFr; rw [if_pos (.inl hf)]
  ·unfold Sp.nFo; rw [if_pos hf]
 ·have hf : ¬ (Sp.opX s x).1 = 4 := hf
  obtain ⟨_, k0, k1, _⟩ := X.idx hf
  obtain ⟨m1, m2⟩ := hs.mem (Sp.plX s x) (by have := X.pl0; have := X.pl1; unfold Sp.plX; omega)
  have iM : inN x.2.1 (Sp.memOf s (Sp.plX s x)).length := ⟨k0, by omega⟩
  have iE : inN (Sp.evt s x.1) s.2.2.2.2.2.1.length := ⟨hev.1, by omega⟩
  have iF : inN (Sp.evt s x.1) s.2.2.2.2.2.2.1.length := ⟨hev.1, by omega⟩
  have iK : inK .i64 (x.2.1 + 1) := inK_mid (by omega) (by omega)
  have hw0 : win 0 (x.2.1 + 1) (Sp.memOf s (Sp.plX s x)) = (Sp.memOf s (Sp.plX s x)).take (x.2.1.toNat + 1) := by
   rw [win_take' (by omega), show (x.2.1 + 1).toNat = x.2.1.toNat + 1 from by omega]
  have hw1 : win (x.2.1 + 1) ((Sp.memOf s (Sp.plX s x)).length : Int) (Sp.memOf s (Sp.plX s x)) = (Sp.memOf s (Sp.plX s x)).drop (x.2.1.toNat + 1) := by
   rw [win_drop' (by omega), show (x.2.1 + 1).toNat = x.2.1.toNat + 1 from by omega]
  have hchk : ∀ mm : Sp.Msg, inK .i64 (x.2.1 + 1) ∧ winI 0 (x.2.1 + 1) (Sp.memOf s (Sp.plX s x)).length ∧ ((0 + (win 0 (x.2.1 + 1) (Sp.memOf s (Sp.plX s x))).length : Nat) : Int) ≤ maxNew ∧
    (((win 0 (x.2.1 + 1) (Sp.memOf s (Sp.plX s x))).length + 1 : Nat) : Int) ≤ maxNew ∧ inK .i64 (x.2.1 + 1) ∧ winI (x.2.1 + 1) ((Sp.memOf s (Sp.plX s x)).length : Int) (Sp.memOf s (Sp.plX s x)).length ∧
    (((win 0 (x.2.1 + 1) (Sp.memOf s (Sp.plX s x)) ++ [mm]).length + (win (x.2.1 + 1) ((Sp.memOf s (Sp.plX s x)).length : Int) (Sp.memOf s (Sp.plX s x))).length : Nat) : Int) ≤ maxNew ∧ inN (Sp.opX s x).2.1 s.2.2.1.length := by
   intro mm
   refine ⟨iK, ⟨by omega, by omega, by omega⟩, ?_, ?_, iK, ⟨by omega, by omega, by omega⟩, ?_, iOm⟩
   ·rw [hw0, List.length_take, hmx]; omega
   ·rw [hw0, List.length_take, hmx]; omega
   ·rw [hw0, hw1, List.length_append, List.length_take, List.length_drop, hmx]; simp only [List.length_singleton]; omega
  have hvw : ∀ v, s.2.2.2.1.set x.1.toNat ((s.2.2.2.1.getD x.1.toNat []).set (Sp.plX s x) v) = s.2.2.2.1.set (Sp.ofC x) ((Sp.rowOf s (Sp.ofC x)).set (Sp.plX s x) v) := fun v => rfl
  have hnM : ¬ (Sp.opX s x).1 = 1 → ∀ mm, mm = Sp.newM s x → s.2.2.1.set (Sp.plX s x) (win 0 (x.2.1 + 1) (Sp.memOf s (Sp.plX s x)) ++ [mm] ++ win (x.2.1 + 1) ((Sp.memOf s (Sp.plX s x)).length : Int) (Sp.memOf s (Sp.plX s x))) = Sp.nMem s x := by
   rintro h1 mm rfl
   unfold Sp.nMem
   rw [if_neg (fun h => h.elim hf h1), hw0, hw1]
  have hnF : Sp.nFe s x = s.2.2.2.2.1 := by unfold Sp.nFe; rw [if_neg hf]
  have hnO : Sp.nFo s x = s.2.2.2.2.2.2.2.1 := by unfold Sp.nFo; rw [if_neg hf]
  have hnV : ¬ (Sp.opX s x).1 = 1 → s.2.2.2.1.set x.1.toNat ((s.2.2.2.1.getD x.1.toNat []).set (Sp.plX s x) (Sp.evt s x.1)) = Sp.nVw s x := by
   intro h1; unfold Sp.nVw; rw [if_neg hf, if_neg h1, hvw]
  have hmm3 : (Sp.opX s x).1 = 3 → ((Sp.evt s x.1, IntKind.i64.wrap ((Sp.msgX s x).2.1 + (Sp.opX s x).2.2.1), ((Sp.opX s x).1 == 3), ()) : Sp.Msg) = Sp.newM s x := by
   intro h3; unfold Sp.newM; rw [if_pos h3, h3]; rfl
  have hmmn : ¬ (Sp.opX s x).1 = 3 → ((Sp.evt s x.1, (Sp.opX s x).2.2.1, ((Sp.opX s x).1 == 3), ()) : Sp.Msg) = Sp.newM s x := by
   intro h3; unfold Sp.newM; rw [if_neg h3, show ((Sp.opX s x).1 == 3) = false from by simpa using h3]
  refine ⟨iOm, iM, fun h2 => ?_, fun h2 => ?_⟩
  ·have h2 : ¬ (Sp.opX s x).1 = 2 := h2
   have hnR : Sp.nR s x = s.2.2.2.2.2.1.set (Sp.evt s x.1).toNat (Sp.msgX s x).2.1 := by unfold Sp.nR; rw [if_neg (fun h => h.elim hf h2)]
   have hnFr : Sp.nFr s x = s.2.2.2.2.2.2.1.set (Sp.evt s x.1).toNat (Sp.msgX s x).1 := by unfold Sp.nFr; rw [if_neg (fun h => h.elim hf h2)]
   refine ⟨iE, iF, fun h1 => ⟨⟨iV, iOr⟩, Sp.st_eq rfl ?_ ?_ hnF.symm hnR.symm hnFr.symm hnO.symm⟩, fun h1 => ⟨fun h3 => ⟨hchk _, ⟨iV, iOr⟩, Sp.st_eq rfl (hnM h1 _ (hmm3 h3)) (hnV h1) hnF.symm hnR.symm hnFr.symm hnO.symm⟩, fun h3 => ⟨hchk _, ⟨iV, iOr⟩, Sp.st_eq rfl (hnM h1 _ (hmmn h3)) (hnV h1) hnF.symm hnR.symm hnFr.symm hnO.symm⟩⟩⟩
   ·have h1 : (Sp.opX s x).1 = 1 := h1
    unfold Sp.nMem; rw [if_pos (.inr h1)]
   ·have h1 : (Sp.opX s x).1 = 1 := h1
    unfold Sp.nVw; rw [if_neg hf, if_pos h1]
    exact hvw _
  ·have h2 : (Sp.opX s x).1 = 2 := h2
   have hn1 : ¬ (Sp.opX s x).1 = 1 := by omega
   have hn3 : ¬ (Sp.opX s x).1 = 3 := by omega
   have hnR : Sp.nR s x = s.2.2.2.2.2.1 := by unfold Sp.nR; rw [if_pos (.inr h2)]
   have hnFr : Sp.nFr s x = s.2.2.2.2.2.2.1 := by unfold Sp.nFr; rw [if_pos (.inr h2)]
   refine ⟨fun h1 => absurd h1 hn1, fun h1 => ⟨fun h3 => absurd h3 hn3, fun h3 => ⟨hchk _, ⟨iV, iOr⟩, Sp.st_eq rfl (hnM hn1 _ (hmmn hn3)) (hnV hn1) hnF.symm hnR.symm hnFr.symm hnO.symm⟩⟩⟩
end Go.User
