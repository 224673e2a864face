/- A body in two parts: in the second one a slot is known to point at a chosen block. Functions that are handed over a value with what it owns: by value. Small facts under short names. The types of the seat, and that the program has them. The laws of the caches: arguments. Caches: the small functions: what they compute. Caches: plain facts about lists. Written by gen.py: what is left to show of each function. Caches: the small functions compute what they should. A slice of one element: what is stored there may be owned where it was shared. Operations one by one: for bodies that are walked by hand. slices.Delete on words: what it does to a slice that is handed over. Caches: loads, stores, atomic operations, evictions, flushes: what they compute. -/
import Derived.Test.YtohcfjfnmgkadaaLfg
import Derived.KernelRfl
import Derived.Test.YtohcfjfnmgkadaaProg
import Derived.Test.YtohcfjfnmgkadaaRows
set_option linter.unusedVariables false
set_option linter.unusedSimpArgs false
namespace Go.Lf

/-- The first part of a body by one context, the rest by another one, in which the slot s points at the block q. The bools lead to the rest. -/
def wpJ (C1 : Ctx) (stp1 : St → Oper → Option (Prop × St)) (C2 : Nat → Ctx) (stp2 : Nat → St → Oper → Option (Prop × St)) (s : Nat) (L1 : List LoopI) (L2 : Nat → List LoopI) :
    List Bool → Code → Nat → St → (St → Prop) → (Nat → St → Prop) → (St → Prop) → Prop
  | true :: fl, .seq a b, k, st, Qn, Qx, Qr => wpI C1 stp1 L1 a k st (fun st' => wpJ C1 stp1 C2 stp2 s L1 L2 fl b (k + nl a) st' Qn Qx Qr) Qx Qr
  | false :: fl, .block id b, k, st, Qn, Qx, Qr => wpJ C1 stp1 C2 stp2 s L1 L2 fl b k st Qn (fun i st' => bif Nat.beq i id then Qn st' else Qx i st') Qr
  | [], c, k, st, Qn, Qx, Qr => match st s with
    | .box _ _ _ => ∀ q, wpI (C2 q) (stp2 q) (L2 q) c k st Qn Qx Qr
    | _ => False
  | _, _, _, _, _, _, _ => False

/-- The proposition for a function's body in two parts. -/
def funJ (C1 : Ctx) (stp1 : St → Oper → Option (Prop × St)) (C2 : Nat → Ctx) (stp2 : Nat → St → Oper → Option (Prop × St)) (t : Nat) (fl : List Bool) (s : FSpec) (L1 : kdens s.args → List LoopI) (L2 : Nat → kdens s.args → List LoopI) (fn : Func) : Prop :=
  match fn.body with
  | some c => ∀ x, s.pre x → factsK s.args x → wpJ C1 stp1 C2 stp2 t (L1 x) (fun q => L2 q x) fl c 0 (ofL (argsEnt s.args x 0)) (retP C1 fn.results.toList s (s.fn x)) (fun _ _ => False) (retP C1 fn.results.toList s (s.fn x))
  | none => False

section
variable {P : Program} {C : Ctx} {N : NP} {w0 : World} {F0 H : NSet} {env : St} {a : Act} {w : World} {F : NSet} {S : Nat → NSet} {d : Nat}

theorem Inv0.rebase (hi : Inv0 P N w0 F0 H env a w F S) {s : Nat} {τ : Ty} {m : Md} {x : τ.den} (hs : env s = .box τ m x) :
    ∃ q, Inv0 P ⟨N.n, some s, q⟩ w F (fun b => ∃ t, S t b) env a w F S := by
  have h := hi.ent s
  rw [hs] at h
  obtain ⟨pl, S0, cs, hr⟩ := h
  obtain ⟨_, _, b, _, _, hv, _⟩ := hr.box_inj
  refine ⟨b, rfl, rfl, rfl, Nat.le_refl _, fun _ _ _ => rfl, hi.fb, fun _ h => h, fun b h1 h2 => absurd h1 h2, fun t b h => ⟨.inr ⟨t, h⟩, (hi.sb t b h).2.1, (hi.sb t b h).2.2⟩, hi.sd, hi.ent, hi.defers, ⟨hi.slots.size, ?_⟩⟩
  intro s' hs'
  injection hs' with hs'
  subst hs'
  exact hv

theorem Inv0.unbase (hi : Inv0 P N w0 F0 H env a w F S) (hN : N.p = none) {p : Option Nat} {q : Nat} {env2 : St} {a2 : Act} {w2 : World} {F2 : NSet} {S2 : Nat → NSet}
    (hi2 : Inv0 P ⟨N.n, p, q⟩ w F (fun b => ∃ t, S t b) env2 a2 w2 F2 S2) : Inv0 P N w0 F0 H env2 a2 w2 F2 S2 := by
  have h0 := hi.size
  have hH : ∀ b, (w.heap.size ≤ b ∨ ∃ t, S t b) → w0.heap.size ≤ b ∨ H b := by
    rintro b (h | ⟨t, h⟩)
    · exact .inl (by omega)
    · exact (hi.sb t b h).1
  refine ⟨hi2.os.trans hi.os, hi2.tape.trans hi.tape, hi2.output.trans hi.output, Nat.le_trans h0 hi2.size, ?_, hi2.fb, fun b hb => hi2.f0 b (hi.f0 b hb), ?_, fun t b h => ⟨hH b (hi2.sb t b h).1, (hi2.sb t b h).2⟩, hi2.sd, hi2.ent, hi2.defers, ⟨hi2.slots.size, fun s h => by rw [hN] at h; cases h⟩⟩
  · intro k hk hn
    rw [hi2.block k (by omega) ?_]
    · exact hi.block k hk hn
    · rintro ⟨t, ht⟩
      rcases (hi.sb t k ht).1 with h | h
      · omega
      · exact hn h
  · intro b h1 h2
    by_cases hF : F b
    · exact hi.fn b hF h2
    · exact hH b (hi2.fn b h1 hF)

theorem wpJ_ok {C1 : Ctx} {C2 : Nat → Ctx} {stp1 : St → Oper → Option (Prop × St)} {stp2 : Nat → St → Oper → Option (Prop × St)} {s : Nat} (hC1 : CtxOK P C1) (hstp1 : StpOK P C1 stp1) (hC2 : ∀ q, CtxOK P (C2 q)) (hstp2 : ∀ q, StpOK P (C2 q) (stp2 q))
    (hp : C1.pin = none) (hnp : ∀ q, (C2 q).np = ⟨C1.N, some s, q⟩) {L1 : List LoopI} {L2 : Nat → List LoopI} :
    ∀ (fl : List Bool) (c : Code) {k : Nat} {st : St} {Qn : St → Prop} {Qx : Nat → St → Prop} {Qr : St → Prop} {Q : Exit → Act → World → Prop} {a : Act} {w : World}, wpJ C1 stp1 C2 stp2 s L1 L2 fl c k st Qn Qx Qr → Inv P C1.np w0 F0 H st a w →
      (∀ st a w, Qn st → Inv P C1.np w0 F0 H st a w → Q .normal a w) → (∀ i st a w, Qx i st → Inv P C1.np w0 F0 H st a w → Q (.exit i) a w) → (∀ st a w, Qr st → Inv P C1.np w0 F0 H st a w → Q .ret a w) → c.wp P Q a w
  | true :: fl, .seq x y, k, st, Qn, Qx, Qr, Q, a, w, h, hi, hn, hx, hr => by
    simp only [wpJ] at h
    refine wp_seq (wpI_ok hC1 hstp1 x h hi ?_ ?_ ?_)
    · intro st1 a1 w1 h1 hi1
      exact wpJ_ok hC1 hstp1 hC2 hstp2 hp hnp fl y h1 hi1 hn hx hr
    · exact hx
    · exact hr
  | false :: fl, .block id b, k, st, Qn, Qx, Qr, Q, a, w, h, hi, hn, hx, hr => by
    simp only [wpJ] at h
    refine wp_block (wpJ_ok hC1 hstp1 hC2 hstp2 hp hnp fl b h hi hn ?_ hr)
    intro i st1 a1 w1 h1 hi1
    simp only [Exit.inBlock]
    cases hb : Nat.beq i id
    · rw [hb] at h1
      have : i ≠ id := fun e => by subst e; rw [Nat.beq_refl] at hb; cases hb
      rw [if_neg this]
      exact hx _ _ _ _ h1 hi1
    · rw [hb] at h1
      rw [if_pos (nbeq_iff.1 hb)]
      exact hn _ _ _ h1 hi1
  | [], c, k, st, Qn, Qx, Qr, Q, a, w, h, hi, hn, hx, hr => by
    simp only [wpJ] at h
    split at h
    · rename_i τ m x hs
      obtain ⟨F, S, hi⟩ := hi
      obtain ⟨q, hq⟩ := hi.rebase hs
      have hN : C1.np.p = none := hp
      have e1 : (C2 q).np = ⟨C1.np.n, some s, q⟩ := hnp q
      have back : ∀ st2 a2 w2, Inv P (C2 q).np w F (fun b => ∃ t, S t b) st2 a2 w2 → Inv P C1.np w0 F0 H st2 a2 w2 := by
        rintro st2 a2 w2 ⟨F2, S2, h2⟩
        rw [e1] at h2
        exact ⟨F2, S2, hi.unbase hN h2⟩
      refine wpI_ok (hC2 q) (hstp2 q) c (h q) ⟨F, S, by rw [e1]; exact hq⟩ ?_ ?_ ?_
      · intro st2 a2 w2 h2 hi2; exact hn _ _ _ h2 (back _ _ _ hi2)
      · intro i st2 a2 w2 h2 hi2; exact hx _ _ _ _ h2 (back _ _ _ hi2)
      · intro st2 a2 w2 h2 hi2; exact hr _ _ _ h2 (back _ _ _ hi2)
    · cases h
  | true :: _, .skip, _, _, _, _, _, _, _, _, h, _, _, _, _ => by simp [wpJ] at h
  | true :: _, .region _ _ _, _, _, _, _, _, _, _, _, h, _, _, _, _ => by simp [wpJ] at h
  | true :: _, .cond _ _ _, _, _, _, _, _, _, _, _, h, _, _, _, _ => by simp [wpJ] at h
  | true :: _, .block _ _, _, _, _, _, _, _, _, _, h, _, _, _, _ => by simp [wpJ] at h
  | true :: _, .loop _, _, _, _, _, _, _, _, _, h, _, _, _, _ => by simp [wpJ] at h
  | true :: _, .rangeFunc _ _ _ _, _, _, _, _, _, _, _, _, h, _, _, _, _ => by simp [wpJ] at h
  | true :: _, .exit _, _, _, _, _, _, _, _, _, h, _, _, _, _ => by simp [wpJ] at h
  | true :: _, .scope _, _, _, _, _, _, _, _, _, h, _, _, _, _ => by simp [wpJ] at h
  | true :: _, .label _, _, _, _, _, _, _, _, _, h, _, _, _, _ => by simp [wpJ] at h
  | true :: _, .goto _, _, _, _, _, _, _, _, _, h, _, _, _, _ => by simp [wpJ] at h
  | true :: _, .ret, _, _, _, _, _, _, _, _, h, _, _, _, _ => by simp [wpJ] at h
  | true :: _, .refuse _, _, _, _, _, _, _, _, _, h, _, _, _, _ => by simp [wpJ] at h
  | false :: _, .skip, _, _, _, _, _, _, _, _, h, _, _, _, _ => by simp [wpJ] at h
  | false :: _, .region _ _ _, _, _, _, _, _, _, _, _, h, _, _, _, _ => by simp [wpJ] at h
  | false :: _, .seq _ _, _, _, _, _, _, _, _, _, h, _, _, _, _ => by simp [wpJ] at h
  | false :: _, .cond _ _ _, _, _, _, _, _, _, _, _, h, _, _, _, _ => by simp [wpJ] at h
  | false :: _, .loop _, _, _, _, _, _, _, _, _, h, _, _, _, _ => by simp [wpJ] at h
  | false :: _, .rangeFunc _ _ _ _, _, _, _, _, _, _, _, _, h, _, _, _, _ => by simp [wpJ] at h
  | false :: _, .exit _, _, _, _, _, _, _, _, _, h, _, _, _, _ => by simp [wpJ] at h
  | false :: _, .scope _, _, _, _, _, _, _, _, _, h, _, _, _, _ => by simp [wpJ] at h
  | false :: _, .label _, _, _, _, _, _, _, _, _, h, _, _, _, _ => by simp [wpJ] at h
  | false :: _, .goto _, _, _, _, _, _, _, _, _, h, _, _, _, _ => by simp [wpJ] at h
  | false :: _, .ret, _, _, _, _, _, _, _, _, h, _, _, _, _ => by simp [wpJ] at h
  | false :: _, .refuse _, _, _, _, _, _, _, _, _, h, _, _, _, _ => by simp [wpJ] at h

/-- A function computes what its specification says, if its body's proposition holds, in two parts. -/
theorem FOk.introJ {C1 : Ctx} {C2 : Nat → Ctx} {stp1 : St → Oper → Option (Prop × St)} {stp2 : Nat → St → Oper → Option (Prop × St)} {t : Nat} {fl : List Bool} (hC1 : CtxOK P C1) (hstp1 : StpOK P C1 stp1) (hC2 : ∀ q, CtxOK P (C2 q)) (hstp2 : ∀ q, StpOK P (C2 q) (stp2 q))
    {f : FuncId} {s : FSpec} {fn : Func} (hdef : FnDef P f) (hf : P.funcs[f]? = some fn) (hN : C1.np = ⟨fn.ntmps, none, 0⟩) (hnp : ∀ q, (C2 q).np = ⟨fn.ntmps, some t, q⟩)
    (hlen : Nat.ble s.args.length fn.ntmps = true) (L1 : kdens s.args → List LoopI) (L2 : Nat → kdens s.args → List LoopI) (h : funJ C1 stp1 C2 stp2 t fl s L1 L2 fn) : FOk P f s := by
  refine ⟨hdef, ?_⟩
  intro w F vs xs hF ha hp
  unfold funJ at h
  split at h
  · rename_i c hb
    have hl := ArgsOK.len ha
    have hlen' : s.args.length ≤ fn.ntmps := Nat.le_of_ble_eq_true hlen
    have hst := Inv0.start (P := P) (N := C1.np) hF ha (by rw [hN]; show vs.length ≤ fn.ntmps; omega) (by rw [hN])
    have e1 : C1.N = fn.ntmps := by have : C1.np.n = fn.ntmps := by rw [hN]
                                    exact this
    have e2 : C1.pin = none := by have : C1.np.p = none := by rw [hN]
                                  exact this
    refine calls_of_wp hf hb ?_
    rw [show C1.np.n = fn.ntmps by rw [hN]] at hst
    refine wpJ_ok hC1 hstp1 hC2 hstp2 e2 (fun q => by rw [hnp, e1]) fl c (h xs hp (factsK_ok ha)) ⟨F, _, by simpa using hst⟩ ?_ (fun _ _ _ _ h => h.elim) ?_
    · intro st a w' hq hi
      obtain ⟨v, h1, h2⟩ := retP_ok hC1 hq hi
      obtain ⟨_, _, hi⟩ := hi
      exact ⟨hi.defers, v, h1, h2⟩
    · intro st a w' hq hi
      obtain ⟨v, h1, h2⟩ := retP_ok hC1 hq hi
      obtain ⟨_, _, hi⟩ := hi
      exact ⟨hi.defers, v, h1, h2⟩
  · cases h
end
end Go.Lf
namespace Go.Lf

/-- A call of such a function on an owner's value. -/
def inC (C : Ctx) (st : St) (o : Oper) (q : Call) : Option (Prop × St) :=
  match q.callee, q.args.toList, o.dst with
  | .value (.func f), .tmp t :: zs, some d => match look C.ins f, st t with
    | some s, .own τ m x => bif wrB C d && decide (m = s.m) then (match castD (τ := τ) (σ := s.τ) x, argsE s.args (zs.map (viewO (drop st t))) with
      | some x, some (y, true) => some (s.pre x y, put (drop st t) d (mkE C d s.res s.rm (s.out x y)))
      | _, _ => none) else none
    | _, _ => none
  | _, _, _ => none

section
variable {P : Program} {C : Ctx} {N : NP} {w0 : World} {F0 H : NSet} {env : St} {a : Act} {w : World} {F : NSet} {S : Nat → NSet} {d : Nat}

/-- The memory changes where nothing is known of it. -/
theorem Inv0.worldZ (hi : Inv0 P N w0 F0 H env a w F S) {w' : World} {F' Z : NSet}
    (h1 : w'.os = w.os) (h2 : w'.tape = w.tape) (h3 : w'.output = w.output) (h4 : w.heap.size ≤ w'.heap.size) (h5 : ∀ k, k < w.heap.size → ¬ Z k → w'.heap[k]? = w.heap[k]?)
    (hZ : ∀ k, Z k → (w0.heap.size ≤ k ∨ H k) ∧ ¬ F k ∧ ∀ t, ¬ S t k)
    (hFF : Sub F F') (hFb : ∀ b, F' b → b < w'.heap.size) (hFn : ∀ b, F' b → ¬ F b → w.heap.size ≤ b ∨ Z b) :
    Inv0 P N w0 F0 H env a w' F' S := by
  have hFx : ∀ b, F b → w'.heap[b]? = w.heap[b]? := fun b hb => h5 b (hi.fb b hb) fun h => (hZ b h).2.1 hb
  have hSx : ∀ t b, S t b → w'.heap[b]? = w.heap[b]? := fun t b hb => h5 b (hi.sb t b hb).2.1 fun h => (hZ b h).2.2 t hb
  have hnF : ∀ t b, F' b → ¬ F b → ¬ S t b := by
    intro t b g1 g2 g3
    rcases hFn b g1 g2 with h | h
    · have := (hi.sb t b g3).2.1; omega
    · exact (hZ b h).2.2 t g3
  refine ⟨h1.trans hi.os, h2.trans hi.tape, h3.trans hi.output, Nat.le_trans hi.size h4, ?_, hFb, fun b hb => hFF b (hi.f0 b hb), ?_, ?_, hi.sd, ?_, hi.defers, hi.slots⟩
  · intro k hk hH
    refine (h5 k (Nat.lt_of_lt_of_le hk hi.size) fun h => ?_).trans (hi.block k hk hH)
    rcases (hZ k h).1 with h | h
    · omega
    · exact hH h
  · intro b hb h0
    by_cases hF : F b
    · exact hi.fn b hF h0
    · rcases hFn b hb hF with h | h
      · exact .inl (Nat.le_trans hi.size h)
      · exact (hZ b h).1
  · intro t b ht
    obtain ⟨g1, g2, g3⟩ := hi.sb t b ht
    refine ⟨g1, Nat.lt_of_lt_of_le g2 h4, fun hF => ?_⟩
    by_cases hF' : F b
    · exact g3 hF'
    · exact hnF t b hF hF' ht
  · intro t
    refine EntOK.keep hFF hFx rfl ?_ ?_ (hi.ent t)
    · intro q hq
      exact ⟨fun _ => rfl, fun _ => rfl, rfl, fun b hb => hSx q b hb, fun b g1 g2 => hnF q b g1 g2, fun b hb => (hi.sb q b hb).2.2⟩
    · intro _
      exact ⟨rfl, fun b hb => hSx t b hb, fun b g1 g2 => hnF t b g1 g2⟩

theorem inC_ok (hC : CtxOK P C) (hi : Inv0 P C.np w0 F0 H env a w F S) {q : Call} {o : Oper} (ho : o.op = .call q) {c : Prop} {env' : St} (h : inC C env o q = some (c, env')) (hc : c) {K : Act → World → Prop} {Q : Exit → Act → World → Prop}
    (hK : ∀ a' w', Inv P C.np w0 F0 H env' a' w' → K a' w') : o.wp P a w K Q := by
  obtain ⟨callee, args, tys⟩ := q
  unfold inC at h
  simp only at h
  split at h
  · rename_i f t zs d h3 h4
    split at h
    · rename_i s τ m x hs ht
      cases hb : (wrB C d && decide (m = s.m))
      · rw [hb] at h; cases h
      rw [hb] at h
      simp only [cond_true] at h
      simp only [Bool.and_eq_true, decide_eq_true_eq] at hb
      obtain ⟨hd, hm⟩ := hb
      have hd := wrB_iff hd
      split at h
      · rename_i x1 y hx hy
        have := castD_some hx
        injection this with e1 e2
        subst e1; cases e2
        simp only [Option.some.injEq, Prod.mk.injEq] at h
        obtain ⟨rfl, rfl⟩ := h
        have ht1 := hi.ent t
        rw [ht] at ht1
        obtain ⟨pl, S0, cs, hr⟩ := ht1
        obtain ⟨_, _, e3, e4, e5⟩ := hr.own_inj
        subst e4
        have hO : OwnV F w s.τ m (S t) (a.tmps.getD t undef) x1 := ⟨cs, e5, hr.2.2⟩
        rw [hm] at hO
        have hi1 := hi.drop t
        have hsh : ArgsOK P F w s.args (zs.map a.eval) y := argsE_ok hi1 (VsOK_map (f := viewO (Go.Lf.drop env t)) (fun z' _ => viewO_ok hi1 z')) hy
        obtain ⟨k1, k2⟩ := hC.ins f s hs
        have hcall := k2 w F (S t) (a.tmps.getD t undef) x1 _ y hi.fb (fun k hk => ⟨(hi.sb t k hk).2.1, (hi.sb t k hk).2.2⟩) hO hsh hc
        have hrun : (execOp a.eval o).run P w = .ok (.enter f (a.tmps.getD t undef :: zs.map a.eval).toArray) w := by
          simp only [execOp, ho, resolve, Sem.run_bind, Act.eval, Deferred.ofValue, Sem.run_pure, Result.andThen, invoke]
          have := k1 ((a.tmps.getD t undef :: zs.map a.eval).toArray) w
          rw [← this]
          congr 1
          congr 1
          apply Array.ext'
          simp [h3, Act.eval]
        unfold Oper.wp
        rw [hrun, Oper.upon_enter]
        refine hcall.mono ?_
        intro e w' hpost
        obtain ⟨v, F', Sr, rfl, q1, q2, q3, q4, q5, q6, q7, q8, q9, q10⟩ := hpost
        have hnt : ∀ k, S t k → ∀ u, ¬ (fun u => if u = t then none' else S u) u k := by
          intro k hk u hu
          by_cases hut : u = t
          · simp only [hut, if_true] at hu; exact hu
          · simp only [hut, if_false] at hu; exact hi.sd u t hut k hu hk
        have hi2 := hi1.worldZ (Z := S t) q1 q2 q3 q4 q5 (fun k hk => ⟨(hi.sb t k hk).1, (hi.sb t k hk).2.2, hnt k hk⟩) q6 (fun b hb => q8 b (.inl hb)) q7
        obtain ⟨F2, S2, hh⟩ := hi2.putNew (C := C) (d := d) hd (RowKit.Below.refl _ _) (fun _ h => h) (fun k hk => q8 k (.inl hk)) (fun k g1 g2 => absurd g1 g2) (by
          intro b hb
          obtain ⟨g1, g2⟩ := q9 b hb
          refine ⟨?_, q8 b (.inr hb), g2, ?_⟩
          · rcases g1 with g1 | g1
            · exact .inl (Nat.le_trans hi.size g1)
            · exact (hi.sb t b g1).1
          · intro u hu
            rcases g1 with g1 | g1
            · have := (hi1.sb u b hu).2.1; omega
            · exact hnt b g1 u hu) q10
        rw [h4]
        exact hK _ _ ⟨F2, S2, hh⟩
      · cases h
    · cases h
  · cases h

/-- All of a region's tail. -/
def stpQ (C : Ctx) (st : St) (o : Oper) : Option (Prop × St) :=
  match o.op with
  | .call q => match inC C st o q with
    | some r => some r
    | none => stpP C st o
  | _ => stpP C st o

theorem stpQ_ok (hC : CtxOK P C) : StpOK P C (stpQ C) := by
  intro w0 F0 H env env' a w o c hi h hc K Q hK
  unfold stpQ at h
  split at h
  · rename_i q hop
    split at h
    · rename_i r hr
      simp only [Option.some.injEq] at h
      subst h
      obtain ⟨F, S, hi⟩ := hi
      exact inC_ok hC hi hop hr hc hK
    · exact stpP_ok hC hi h hc K Q hK
  · exact stpP_ok hC hi h hc K Q hK
end
end Go.Lf
namespace Go.Lf
theorem z1 : ∀ (p : Prop), (True ∧ p) = p := @true_and
theorem z2 : ∀ (p : Prop), (p ∧ True) = p := @and_true
theorem z3.{u_1} : ∀ {α : Sort u_1} (a : α), (a = a) = True := @eq_self
theorem z4.{u_1} : ∀ {b : Prop} (α : Sort u_1) [i : Nonempty α], (∀ (a : α), b) ↔ b := @forall_const
theorem z5 : ∀ {p : Prop} [inst : Decidable p], (decide p = Bool.true) = p := @decide_eq_true_eq
theorem z6 : ∀ {p : Prop} {x : Decidable p}, decide p = Bool.false ↔ ¬p := @decide_eq_false_iff_not
theorem z7 : ∀ {a b : Int}, ¬a < b ↔ b ≤ a := @Int.not_lt
theorem z8 : ∀ {a b : Int}, ¬a ≤ b ↔ b < a := @Int.not_le
theorem z9 : ∀ (a b : Bool), ((a && b) = Bool.true) = (a = Bool.true ∧ b = Bool.true) := @Bool.and_eq_true
theorem z10 : ∀ (p : Prop), (True → p) = p := @true_implies
theorem z11.{u_1} : ∀ (α : Sort u_1), (∀ (a : α), True) = True := @implies_true
theorem z12 : ∀ (b : Bool), ((!b) = Bool.true) = (b = Bool.false) := @Bool.not_eq_true'
theorem z13 : ∀ (b : Bool), ((!b) = Bool.false) = (b = Bool.true) := @Bool.not_eq_false'
theorem z14 : ∀ (p : Prop), (False → p) = True := @false_implies
theorem z15 : (Bool.false = Bool.true) = False := @Bool.false_eq_true
theorem z16 : (Bool.true = Bool.false) = False := @Bool.true_eq_false
theorem z17 : ∀ (p : Prop), (p ∧ p) = p := @and_self
theorem z18.{u_1} : ∀ {α : Type u_1} [inst : BEq α] [LawfulBEq α] {a b : α}, (a == b) = Bool.true ↔ a = b := @beq_iff_eq
theorem z19.{u_1} : ∀ {α : Type u_1} [inst : BEq α] [LawfulBEq α] {a b : α}, (a == b) = Bool.false ↔ a ≠ b := @beq_eq_false_iff_ne
theorem z20.{u_1} : ∀ {α : Sort u_1} (a b : α), (a ≠ b) = ¬a = b := @ne_eq
theorem z21 : ∀ (n : Nat), ((n : Int)).toNat = n := @Int.toNat_natCast
theorem z22 : ∀ (c t : Bool), (bif c then t else Bool.false) = (c && t) := @Bool.cond_false_right
theorem z23 : ∀ (c f : Bool), (bif c then Bool.true else f) = (c || f) := @Bool.cond_true_left
theorem z24 : ∀ {b a : Prop}, (∃ _h : a, b) ↔ a ∧ b := @exists_prop
theorem z25.{u_1} : ∀ {α : Type u_1} [inst : LE α] {x y : α}, x ≥ y ↔ y ≤ x := @ge_iff_le
theorem z26.{u_1} : ∀ {α : Type u_1} [inst : LT α] {x y : α}, x > y ↔ y < x := @gt_iff_lt
theorem z27.{u_1} : ∀ {α : Type u_1} {a : α}, [a].length = 1 := @List.length_singleton
theorem z28.{u_1} : ∀ {α : Type u_1}, ([] : List α).length = 0 := @List.length_nil
theorem z29.{u_1} : ∀ {α : Type u_1} (l0 : List α), [] ++ l0 = l0 := @List.nil_append
theorem z30.{u_1} : ∀ {α : Type u_1} {l0 l1 : List α}, l0.append l1 = l0 ++ l1 := @List.append_eq
theorem z31 : ∀ (c f : Bool), (bif c then Bool.false else f) = (!c && f) := @Bool.cond_false_left
theorem z32 : ∀ (c t : Bool), (bif c then t else Bool.true) = (!c || t) := @Bool.cond_true_right
theorem z33 : ∀ (b : Bool), (b || Bool.false) = b := @Bool.or_false
theorem z34 : ∀ (b : Bool), (b && Bool.true) = b := @Bool.and_true
theorem z35 : ∀ {x y : Bool}, (x || y) = Bool.false ↔ x = Bool.false ∧ y = Bool.false := @Bool.or_eq_false_iff
theorem z36 : ∀ (b : Bool), (¬b = Bool.true) = (b = Bool.false) := @Bool.not_eq_true
theorem z37.{u_1} : ∀ {α : Type u_1} [inst : BEq α] [LawfulBEq α] {a b : α}, (a != b) = Bool.true ↔ a ≠ b := @bne_iff_ne
theorem z38.{u_1} : ∀ {α : Type u_1} [inst : BEq α] [LawfulBEq α] {a b : α}, (a != b) = Bool.false ↔ a = b := @bne_eq_false_iff_eq
end Go.Lf
namespace Sp
abbrev LOp := Int × Int × Int × Unit
abbrev LEv := Int × LOp × Int × Unit
abbrev Lit := List (List LOp) × Unit
abbrev Gr := List LEv × List Int × List (List Int) × List Int × Unit
abbrev Rel := List (List Bool)
abbrev Word := Int × Int × Int × Bool × Unit
abbrev World := List (List Word) × List (List Int) × Unit
abbrev Acc := Int × Int × Int × Int × Unit
abbrev Core := Int × Int × List Word × List (List Int) × Unit
abbrev Mach := Lit × List Core × List (List Int) × Gr × Unit
end Sp
namespace Go.User
open Go.Lf Go.Proofs
abbrev tI : Ty := .int .i64
abbrev tLOp : Ty := .prod tI (.prod tI (.prod tI .unit))
abbrev tLEv : Ty := .prod tI (.prod tLOp (.prod tI .unit))
abbrev tLit : Ty := .prod (.slice (.slice tLOp)) .unit
abbrev tGr : Ty := .prod (.slice tLEv) (.prod (.slice tI) (.prod (.slice (.slice tI)) (.prod (.slice tI) .unit)))
abbrev tRow : Ty := .arr 6 .bool
abbrev tRel : Ty := .arr 6 tRow
abbrev tPl : Ty := .prod tI (.prod tI .unit)
abbrev tW : Ty := .prod tI (.prod tI (.prod (.int .i32) (.prod .bool .unit)))
abbrev tMem : Ty := .slice (.slice (.int .i32))
abbrev tWorld : Ty := .prod (.slice (.slice tW)) (.prod tMem .unit)
abbrev tAcc : Ty := .prod (.int .u8) (.prod (.int .u8) (.prod (.int .u8) (.prod (.int .i32) .unit)))
abbrev tCore : Ty := .prod tI (.prod tI (.prod (.slice tW) (.prod (.arr 3 (.slice tI)) .unit)))
abbrev tMach : Ty := .prod tLit (.prod (.slice tCore) (.prod tMem (.prod tGr .unit)))
def tys : List (TypeId × Ty) := [(2, tI), (3, tI), (4, .bool), (5, .int .u8), (21, .int .i32), (22, .slice tAcc), (24, .slice (.slice tW)), (25, tMem), (26, tMem), (28, tWorld), (32, tAcc), (36, .slice (.int .i32)), (38, .slice tW), (41, tW),
  (44, .slice (.int .u8)), (45, .slice tI), (46, .slice (.slice tLOp)), (48, tLit), (50, .slice tLOp), (51, .slice tLEv), (52, .slice (.slice tI)), (54, tGr), (59, tLOp), (63, tLEv), (71, .slice tCore), (73, tMach), (74, .arr 3 (.slice tI)),
  (76, tCore), (85, tRow), (87, tRel), (90, tPl), (98, tI), (105, .slice .bool)]
/-- With the pointer to the machine at the block q. -/
def tysQ (q : Nat) : List (TypeId × Ty) := (70, .abs .ptr) :: (1, .abs .thk) :: (77, .slice (.abs .thk)) :: tys
def eqs : List TypeId := [59, 63]

theorem tysQ_ok (q : Nat) : ∀ T τ, Lf.look (tysQ q) T = some τ → RowOK Try.prog (tysQ q) T τ := by
  have hall : ∀ (l : List (TypeId × Ty)), (∀ x ∈ l, RowOK Try.prog (tysQ q) x.1 x.2) → ∀ T τ, Lf.look l T = some τ → RowOK Try.prog (tysQ q) T τ := by
    intro l
    induction l with
    | nil => intro _ T τ h; cases h
    | cons x l ih =>
      intro h T τ hl
      simp only [Lf.look] at hl
      cases hb : Nat.beq x.1 T
      · rw [hb] at hl; exact ih (fun y hy => h y (by simp [hy])) T τ hl
      · rw [hb] at hl
        have := Nat.eq_of_beq_eq_true hb
        simp only [cond_true, Option.some.injEq] at hl
        rw [← this, ← hl]; exact h x (by simp)
  refine hall (tysQ q) ?_
  intro x hx
  simp only [tysQ, tys, List.mem_cons, List.not_mem_nil, or_false] at hx
  rcases hx with rfl | rfl | rfl | rfl | rfl | rfl | rfl | rfl | rfl | rfl | rfl | rfl | rfl | rfl | rfl | rfl | rfl | rfl | rfl | rfl | rfl | rfl | rfl | rfl | rfl | rfl | rfl | rfl | rfl | rfl | rfl | rfl | rfl | rfl | rfl | rfl
  · exact ⟨Try.t70, _, by kernel_rfl, Try.underlying70, by kernel_rfl, by decide, by kernel_rfl, by kernel_rfl⟩
  · exact ⟨Try.t1, _, by kernel_rfl, Try.underlying1, by kernel_rfl, by decide, by kernel_rfl, by kernel_rfl⟩
  · refine ⟨Try.t77, _, by kernel_rfl, Try.underlying77, by kernel_rfl, by decide, by kernel_rfl, ?_⟩
    simp [descB, tysQ, Lf.look, Ty.size]
    exact ⟨rfl, rfl⟩
  · exact ⟨Try.t2, _, by kernel_rfl, Try.underlying2, by kernel_rfl, by decide, by kernel_rfl, by kernel_rfl⟩
  · exact ⟨Try.t3, _, by kernel_rfl, Try.underlying3, by kernel_rfl, by decide, by kernel_rfl, by kernel_rfl⟩
  · exact ⟨Try.t4, _, by kernel_rfl, Try.underlying4, by kernel_rfl, by decide, by kernel_rfl, by kernel_rfl⟩
  · exact ⟨Try.t5, _, by kernel_rfl, Try.underlying5, by kernel_rfl, by decide, by kernel_rfl, by kernel_rfl⟩
  · exact ⟨Try.t21, _, by kernel_rfl, Try.underlying21, by kernel_rfl, by decide, by kernel_rfl, by kernel_rfl⟩
  · exact ⟨Try.t22, _, by kernel_rfl, Try.underlying22, by kernel_rfl, by decide, by kernel_rfl, by kernel_rfl⟩
  · exact ⟨Try.t24, _, by kernel_rfl, Try.underlying24, by kernel_rfl, by decide, by kernel_rfl, by kernel_rfl⟩
  · exact ⟨Try.t25, _, by kernel_rfl, Try.underlying25, by kernel_rfl, by decide, by kernel_rfl, by kernel_rfl⟩
  · exact ⟨Try.t26, _, by kernel_rfl, Try.underlying26, by kernel_rfl, by decide, by kernel_rfl, by kernel_rfl⟩
  · exact ⟨Try.t28, _, by kernel_rfl, Try.underlying28, by kernel_rfl, by decide, by kernel_rfl, by kernel_rfl⟩
  · exact ⟨Try.t32, _, by kernel_rfl, Try.underlying32, by kernel_rfl, by decide, by kernel_rfl, by kernel_rfl⟩
  · exact ⟨Try.t36, _, by kernel_rfl, Try.underlying36, by kernel_rfl, by decide, by kernel_rfl, by kernel_rfl⟩
  · exact ⟨Try.t38, _, by kernel_rfl, Try.underlying38, by kernel_rfl, by decide, by kernel_rfl, by kernel_rfl⟩
  · exact ⟨Try.t41, _, by kernel_rfl, Try.underlying41, by kernel_rfl, by decide, by kernel_rfl, by kernel_rfl⟩
  · exact ⟨Try.t44, _, by kernel_rfl, Try.underlying44, by kernel_rfl, by decide, by kernel_rfl, by kernel_rfl⟩
  · exact ⟨Try.t45, _, by kernel_rfl, Try.underlying45, by kernel_rfl, by decide, by kernel_rfl, by kernel_rfl⟩
  · exact ⟨Try.t46, _, by kernel_rfl, Try.underlying46, by kernel_rfl, by decide, by kernel_rfl, by kernel_rfl⟩
  · exact ⟨Try.t48, _, by kernel_rfl, Try.underlying48, by kernel_rfl, by decide, by kernel_rfl, by kernel_rfl⟩
  · exact ⟨Try.t50, _, by kernel_rfl, Try.underlying50, by kernel_rfl, by decide, by kernel_rfl, by kernel_rfl⟩
  · exact ⟨Try.t51, _, by kernel_rfl, Try.underlying51, by kernel_rfl, by decide, by kernel_rfl, by kernel_rfl⟩
  · exact ⟨Try.t52, _, by kernel_rfl, Try.underlying52, by kernel_rfl, by decide, by kernel_rfl, by kernel_rfl⟩
  · exact ⟨Try.t54, _, by kernel_rfl, Try.underlying54, by kernel_rfl, by decide, by kernel_rfl, by kernel_rfl⟩
  · exact ⟨Try.t59, _, by kernel_rfl, Try.underlying59, by kernel_rfl, by decide, by kernel_rfl, by kernel_rfl⟩
  · exact ⟨Try.t63, _, by kernel_rfl, Try.underlying63, by kernel_rfl, by decide, by kernel_rfl, by kernel_rfl⟩
  · exact ⟨Try.t71, _, by kernel_rfl, Try.underlying71, by kernel_rfl, by decide, by kernel_rfl, by kernel_rfl⟩
  · exact ⟨Try.t73, _, by kernel_rfl, Try.underlying73, by kernel_rfl, by decide, by kernel_rfl, by kernel_rfl⟩
  · exact ⟨Try.t74, _, by kernel_rfl, Try.underlying74, by kernel_rfl, by decide, by kernel_rfl, by kernel_rfl⟩
  · exact ⟨Try.t76, _, by kernel_rfl, Try.underlying76, by kernel_rfl, by decide, by kernel_rfl, by kernel_rfl⟩
  · exact ⟨Try.t85, _, by kernel_rfl, Try.underlying85, by kernel_rfl, by decide, by kernel_rfl, by kernel_rfl⟩
  · exact ⟨Try.t87, _, by kernel_rfl, Try.underlying87, by kernel_rfl, by decide, by kernel_rfl, by kernel_rfl⟩
  · exact ⟨Try.t90, _, by kernel_rfl, Try.underlying90, by kernel_rfl, by decide, by kernel_rfl, by kernel_rfl⟩
  · exact ⟨Try.t98, _, by kernel_rfl, Try.underlying98, by kernel_rfl, by decide, by kernel_rfl, by kernel_rfl⟩
  · exact ⟨Try.t105, _, by kernel_rfl, Try.underlying105, by kernel_rfl, by decide, by kernel_rfl, by kernel_rfl⟩

theorem look_flat (q : Nat) {T : TypeId} {τ : Ty} (h : Lf.look (tysQ q) T = some τ) (h3 : T = 3) : τ.isAgg = false := by
  subst h3
  have e : Lf.look (tysQ q) 3 = some tI := by kernel_rfl
  rw [e] at h
  injection h with h
  rw [← h]; rfl
theorem eqs_ok (q : Nat) : ∀ T, T ∈ eqs → EqRow Try.prog (tysQ q) eqs T := by
  have key : ∀ fs : List Field, (∀ f ∈ fs, f.name ≠ "_" ∧ (f.type = 3 ∨ f.type ∈ eqs)) → ∀ f ∈ fs, f.name ≠ "_" ∧ ∀ τ, Lf.look (tysQ q) f.type = some τ → τ.isAgg = true → f.type ∈ eqs := by
    intro fs h f hf
    refine ⟨(h f hf).1, fun τ h1 h2 => ?_⟩
    rcases (h f hf).2 with h3 | h3
    · rw [look_flat q h1 h3] at h2; cases h2
    · exact h3
  intro T hT
  simp only [eqs, List.mem_cons, List.not_mem_nil, or_false] at hT
  rcases hT with rfl | rfl
  · refine ⟨by kernel_rfl, by kernel_rfl, ?_⟩
    rw [Try.underlying59]
    exact key _ (by decide)
  · refine ⟨by kernel_rfl, by kernel_rfl, ?_⟩
    rw [Try.underlying63]
    exact key _ (by decide)
theorem mixed_ok : Try.prog.follows .mixedOrders = true := by kernel_rfl
theorem ctx_okQ {C : Ctx} (q : Nat) (h1 : C.tys = tysQ q) (h2 : C.eqs = eqs) (h3 : ∀ f s, Lf.look C.fns f = some s → FOk Try.prog f s)
    (h4 : ∀ f s, Lf.look C.ptrs f = some s → ∃ o, POk Try.prog f s o ∧ ∀ q, o = some q → C.pin.isSome = true ∧ q = C.q) (h5 : ∀ t, C.thk = some t → TOk Try.prog C.q t) (h6 : ∀ t, C.clo = some t → ClOk Try.prog t)
    (h7 : ∀ f s, Lf.look C.ins f = some s → IOk Try.prog f s) : CtxOK Try.prog C :=
  ⟨by rw [h1]; exact tysQ_ok q, h3, mixed_ok, by rw [h1, h2]; exact eqs_ok q, h4, h5, h6, h7⟩
theorem ins_nil {P : Program} : ∀ f s, Lf.look ([] : List (FuncId × ISpec)) f = some s → IOk P f s := fun _ _ h => by cases h
theorem ptrs_nil {P : Program} {C : Ctx} : ∀ f s, Lf.look ([] : List (FuncId × PSpec)) f = some s → ∃ o, POk P f s o ∧ ∀ q, o = some q → C.pin.isSome = true ∧ q = C.q := fun _ _ h => by cases h
theorem fns_nil {P : Program} : ∀ f s, Lf.look ([] : List (FuncId × FSpec)) f = some s → FOk P f s := fun _ _ h => by cases h
theorem fns_cons {P : Program} {g : FuncId} {t : FSpec} {l : List (FuncId × FSpec)} (h : FOk P g t) (hl : ∀ f s, Lf.look l f = some s → FOk P f s) : ∀ f s, Lf.look ((g, t) :: l) f = some s → FOk P f s := by
  intro f s hs
  simp only [Lf.look] at hs
  cases hb : Nat.beq g f
  · rw [hb] at hs; exact hl f s hs
  · rw [hb] at hs
    have := Nat.eq_of_beq_eq_true hb
    simp only [cond_true, Option.some.injEq] at hs
    rw [← this, ← hs]; exact h
end Go.User
namespace Go.Proofs.Ytohcfjfnmgkadaa
open Go.ChangeShapes Go.WideShapes Go.ChangeAt Go.RowKit Go.Proofs Go.Lf
theorem Try.own : ownKnob Try.prog.godebug = none := by kernel_rfl
theorem Try.laidOut : laidOutB Try.prog = true := by kernel_rfl
theorem Try.bytes32 : Try.prog.bytesOf 32 = 8 := by kernel_rfl
set_option maxRecDepth 100000 in
theorem arg_acc {H : Type} {enc : TypeId × Value → H} {W : World} {base : Nat} {v : Value} {d : DataW H} {p : List MemPlace} (hval : Value.okWide Try.prog W .any base 22 v) (h : DataW.Trod enc Try.prog W 0 (fun _ => true) true 22 v d p) (hlt : ∀ x ∈ p, x.block < W.heap.size)
    (hsz : ∀ xs ys, d = .slice xs ys → xs.length ≤ lim) : ∃ xs : List Sp.Acc, OwnV (fun b => b < W.heap.size) W (.slice Go.User.tAcc) .shr none' v xs :=
  argOK_rows (τ := Go.User.tAcc) Try.underlying22 Try.underlying32 (by kernel_rfl) rfl (by decide) (fun i l h => by
    match i, h with
    | 0, h => cases h; exact ⟨_, rfl, rfl, by kernel_rfl, Try.underlying5⟩
    | 1, h => cases h; exact ⟨_, rfl, rfl, by kernel_rfl, Try.underlying5⟩
    | 2, h => cases h; exact ⟨_, rfl, rfl, by kernel_rfl, Try.underlying5⟩
    | 3, h => cases h; exact ⟨_, rfl, rfl, by kernel_rfl, Try.underlying21⟩) hval h hlt hsz
theorem sz_acc {H : Type} {ts : List TypeId} {ds : List (DataW H)} (hsz : (DataW.weightsEach Try.prog ts ds).all (· ≤ reachBytes) = true) {j : Nat} (h1 : ts[j]? = some 22) {d : DataW H} (h2 : ds[j]? = some d) : ∀ xs ys, d = .slice xs ys → xs.length ≤ lim := by
  intro xs ys e
  have := sized_slice hsz h1 (h2.trans (congrArg some e)) Try.underlying22
  rw [Try.bytes32] at this
  simp only [reachBytes] at this
  unfold lim
  omega
end Go.Proofs.Ytohcfjfnmgkadaa
namespace Sp
abbrev Memo := List (List Int)
def wd0 : Word := (0, 0, 0, false, ())
def wd (c : List Word) (k : Int) : Word := c.getD k.toNat wd0
def atW (a i : Int) (w : Word) : Bool := decide (w.1 = a) && decide (w.2.1 = i)
def cloW (z : Nat × List Int) (w : Word) : Bool := atW (z.2.getD 0 0) (z.2.getD 1 0) w
def findW (p : Word → Bool) (l : List Word) : Int := match l.findIdx? p with
  | some i => i
  | none => -1
def quoP (a b : Int) : Int × Int × Unit := if b = 0 then (0, a, ()) else (Go.IntKind.wrap .i32 (Go.IntKind.wrap .i64 (a.tdiv b)), Go.IntKind.wrap .i32 (a.tmod b), ())
def sameW (a b : List Int) : Bool := decide (a = b)
def sameM (a b : Memo) : Bool := decide (a = b)
def ramp (first : Int) (n : Nat) : List Int := (List.range n).map fun (i : Nat) => Go.IntKind.wrap .i32 (first + Go.IntKind.wrap .i32 (i : Int))
def begin (first : Int) : World := ([[], [], []], [ramp first 8], ())
def whole (m : Memo) : Bool := decide (m.length = 1) && decide ((m.getD 0 []).length = 8)
end Sp
namespace Go.User
open Go.Lf
/-- What the closures compute that accept a word. -/
def tClo : CSpec := { A := [tW], R := .bool, pre := fun z _ => z.1 = 55 ∧ z.2.length = 2, fn := fun z x => Sp.cloW z x.1 }
def mkC (n : Nat) (fns : List (FuncId × FSpec)) : Ctx := { N := n, tys := tysQ 0, fns := fns, eqs := eqs, clo := some tClo }
def isClo (z : Option (FuncId × List Int)) : Prop := z.isSome = true ∧ (z.getD (0, [])).1 = 55 ∧ (z.getD (0, [])).2.length = 2
-- Clone
def S42 : FSpec := { args := [.val (.slice tW)], multi := false, res := .slice tW, mode := .own .shr, pre := fun x => List.length x.1 ≤ 1000000, fn := fun x => x.1 }
def C42 : Ctx := mkC 8 []
def L42 (x : kdens S42.args) : List LoopI := []
def S60 : FSpec := { args := [.val tMem], multi := false, res := tMem, mode := .own .shr, pre := fun x => List.length x.1 ≤ 1000000, fn := fun x => x.1 }
def C60 : Ctx := mkC 8 []
def L60 (x : kdens S60.args) : List LoopI := []
def S61 : FSpec := { args := [.val (.slice (.int .i32))], multi := false, res := .slice (.int .i32), mode := .own .shr, pre := fun x => List.length x.1 ≤ 1000000, fn := fun x => x.1 }
def C61 : Ctx := mkC 8 []
def L61 (x : kdens S61.args) : List LoopI := []
-- Delete
def S56 : ISpec := { τ := .slice tW, m := .own .shr, args := [.val tI, .val tI], res := .slice tW, rm := .own .shr, pre := fun x y => 0 ≤ y.1 ∧ y.1 < y.2.1 ∧ y.2.1 ≤ (List.length x : Int) ∧ List.length x ≤ 1000000, out := fun x y => List.take (Int.toNat y.1) x ++ List.drop (Int.toNat y.2.1) x }
-- IndexFunc, at$1, at, find
def S54 : FSpec := { args := [.val (.slice tW), .val (.abs .clo)], multi := false, res := tI, mode := .shr, pre := fun x => isClo x.2.1, fn := fun x => Sp.findW (Sp.cloW (x.2.1.getD (0, []))) x.1 }
def C54 : Ctx := mkC 19 []
def L54 (x : kdens S54.args) : List LoopI := [
  { ι := Nat, inv := fun i => i ≤ List.length x.1 ∧ ∀ e ∈ List.take i x.1, Sp.cloW (x.2.1.getD (0, [])) e = false, dec := fun i => List.length x.1 - i, ovr := fun i => [(8, .shr tI (i : Int))], keep := [0, 1, 7] }]
def S55 : FSpec := { args := [.val tW, .sptr tI, .sptr tI], multi := false, res := .bool, mode := .shr, pre := fun _ => True, fn := fun x => Sp.atW x.2.1 x.2.2.1 x.1 }
def C55 : Ctx := { mkC 15 [] with clo := none }
def L55 (x : kdens S55.args) : List LoopI := []
def S41 : FSpec := { args := [.val tI, .val tI], multi := false, res := .abs .clo, mode := .shr, pre := fun _ => True, fn := fun x => some (55, [x.1, x.2.1]) }
def C41 : Ctx := mkC 6 []
def L41 (x : kdens S41.args) : List LoopI := []
def S40 : FSpec := { args := [.val (.slice tW), .val (.abs .clo)], multi := true, res := .prod tI (.prod .bool .unit), mode := .shr, pre := fun x => isClo x.2.1, fn := fun x => (Sp.findW (Sp.cloW (x.2.1.getD (0, []))) x.1, decide (0 ≤ Sp.findW (Sp.cloW (x.2.1.getD (0, []))) x.1), ()) }
def C40 : Ctx := mkC 13 [(54, S54)]
def L40 (x : kdens S40.args) : List LoopI := []
-- quotient, Bin (additions alone)
def S57 : FSpec := { args := [.val (.int .i32), .val (.int .i32)], multi := true, res := .prod (.int .i32) (.prod (.int .i32) .unit), mode := .shr, pre := fun _ => True, fn := fun x => Sp.quoP x.1 x.2.1 }
def C57 : Ctx := { mkC 23 [] with wrp := [17, 21] }
def L57 (x : kdens S57.args) : List LoopI := []
def S44 : FSpec := { args := [.val tI, .val (.int .i32), .val (.int .i32)], multi := true, res := .prod (.int .i32) (.prod tI .unit), mode := .shr, pre := fun x => x.1 = 10, fn := fun x => (IntKind.wrap .i32 (x.2.1 + x.2.2.1), 0, ()) }
def C44 : Ctx := mkC 103 [(57, S57)]
def L44 (x : kdens S44.args) : List LoopI := []
-- SameWords, Same, Copy, whole, begin
def S24 : FSpec := { args := [.val (.slice (.int .i32)), .val (.slice (.int .i32))], multi := false, res := .bool, mode := .shr, pre := fun _ => True, fn := fun x => Sp.sameW x.1 x.2.1 }
def C24 : Ctx := mkC 26 []
def L24 (x : kdens S24.args) : List LoopI := [
  { ι := Nat, inv := fun i => List.length x.1 = List.length x.2.1 ∧ i ≤ List.length x.1 ∧ List.take i x.1 = List.take i x.2.1, dec := fun i => List.length x.1 - i, ovr := fun i => [(5, .shr tI (i : Int))], keep := [0, 1] }]
def S14 : FSpec := { args := [.val tMem, .val tMem], multi := false, res := .bool, mode := .shr, pre := fun _ => True, fn := fun x => Sp.sameM x.1 x.2.1 }
def C14 : Ctx := mkC 27 [(24, S24)]
def L14 (x : kdens S14.args) : List LoopI := [
  { ι := Nat, inv := fun i => List.length x.1 = List.length x.2.1 ∧ i ≤ List.length x.1 ∧ List.take i x.1 = List.take i x.2.1, dec := fun i => List.length x.1 - i, ovr := fun i => [(5, .shr tI (i : Int))], keep := [0, 1] }]
def S11 : FSpec := { args := [.val tMem], multi := false, res := tMem, mode := .own (.own .shr), pre := fun x => List.length x.1 ≤ 1000000 ∧ ∀ l ∈ x.1, List.length l ≤ 1000000, fn := fun x => x.1 }
def C11 : Ctx := { mkC 22 [] with mds := [(5, .own (.own .shr)), (19, .own (.own .shr))] }
def L11 (x : kdens S11.args) : List LoopI := [
  { ι := Nat, inv := fun i => i ≤ List.length x.1, dec := fun i => List.length x.1 - i, ovr := fun i => [(4, .shr tI (i : Int)), (3, .own tMem (.own (.own .shr)) (List.take i x.1))], keep := [0] }]
def S13 : FSpec := { args := [.val tMem], multi := false, res := .bool, mode := .shr, pre := fun _ => True, fn := fun x => Sp.whole x.1 }
def C13 : Ctx := mkC 13 []
def L13 (x : kdens S13.args) : List LoopI := []
def S10 : FSpec := { args := [.val (.int .i32)], multi := false, res := tWorld, mode := .shr, pre := fun _ => True, fn := fun x => Sp.begin x.1 }
def C10 : Ctx := { mkC 26 [] with mds := [(6, .own (.own .shr)), (2, .pair .shr (.pair .shr .shr))], frz := [20, 21, 22, 23], fzs := [3] }
def L10 (x : kdens S10.args) : List LoopI := [
  { ι := Nat, inv := fun i => i ≤ 8, dec := fun i => 8 - i, ovr := fun i => [(4, .shr tI (i : Int)), (3, .own tMem (.own (.own .shr)) [Sp.ramp x.1 i ++ List.replicate (8 - i) 0])], keep := [0, 2] }]
end Go.User
namespace Sp
theorem take_all {α : Type} {l : List α} {i : Nat} (h1 : i ≤ l.length) (h2 : (l.length : Int) ≤ (i : Int)) : l.take i = l := List.take_of_length_le (by omega)
theorem getD_at {α : Type} {l : List α} {i : Nat} (h : i < l.length) (d : α) : l.getD i d = l[i] := by rw [List.getD_eq_getElem?_getD, List.getElem?_eq_getElem h]; rfl
theorem take_succ {α : Type} {l : List α} {i : Nat} (h : i < l.length) (d : α) : l.take (i + 1) = l.take i ++ [l.getD i d] := by rw [List.take_succ_eq_append_getElem h, getD_at h]
theorem findW_at {l : List Word} {p : Word → Bool} {i : Nat} {d : Word} (h : ∀ e ∈ l.take i, p e = false) (hi : i < l.length) (hp : p (l.getD i d) = true) : (i : Int) = findW p l := by
  rw [getD_at hi] at hp
  unfold findW
  have : l.findIdx? p = some i := by
    rw [List.findIdx?_eq_some_iff_getElem]
    refine ⟨hi, hp, fun j hj => ?_⟩
    have := h l[j] (List.mem_take_iff_getElem.2 ⟨j, by omega, rfl⟩)
    rw [this]; simp
  rw [this]
theorem findW_none {l : List Word} {p : Word → Bool} (h : ∀ e ∈ l, p e = false) : (-1 : Int) = findW p l := by
  unfold findW
  have : l.findIdx? p = none := by
    rw [List.findIdx?_eq_none_iff]; exact h
  rw [this]
/-- What find finds. -/
theorem findW_cases (p : Word → Bool) (l : List Word) : (findW p l = -1 ∧ ∀ e ∈ l, p e = false) ∨ ∃ k : Nat, findW p l = k ∧ k < l.length ∧ (∀ e ∈ l.take k, p e = false) ∧ p (wd l k) = true := by
  cases h : l.findIdx? p with
  | none =>
    refine .inl ⟨by unfold findW; rw [h], ?_⟩
    rw [List.findIdx?_eq_none_iff] at h
    exact h
  | some i =>
    refine .inr ⟨i, by unfold findW; rw [h], ?_⟩
    rw [List.findIdx?_eq_some_iff_getElem] at h
    obtain ⟨hi, hp, hn⟩ := h
    refine ⟨hi, ?_, ?_⟩
    · intro e he
      obtain ⟨j, hj, rfl⟩ := List.mem_take_iff_getElem.1 he
      have := hn j (by omega)
      simpa using this
    · unfold wd
      rw [Int.toNat_natCast, getD_at hi]; exact hp
theorem ramp_len (f : Int) (n : Nat) : (ramp f n).length = n := by simp [ramp]
theorem ramp_succ (f : Int) (n : Nat) : ramp f (n + 1) = ramp f n ++ [Go.IntKind.wrap .i32 (f + Go.IntKind.wrap .i32 (n : Int))] := by
  simp [ramp, List.range_succ]
theorem ne_of_take {α : Type} {a b : List α} {i : Nat} {d : α} (h : ¬ a.getD i d = b.getD i d) : a ≠ b := fun e => h (by rw [e])
theorem eq_of_len {α : Type} {a b : List α} {i : Nat} (hl : a.length = b.length) (h1 : i ≤ a.length) (h2 : (a.length : Int) ≤ (i : Int)) (h : a.take i = b.take i) : a = b := by
  rw [take_all h1 h2, List.take_of_length_le (by omega)] at h; exact h
end Sp
namespace Go.User
open Go.Lf
theorem lim_eq : lim = 140737488355328 := rfl
theorem maxNew_eq : maxNew = 2147483648 := rfl
theorem inK_of {z : Int} (h1 : -9223372036854775808 ≤ z) (h2 : z ≤ 9223372036854775807) : inK .i64 z := ⟨h1, h2⟩
theorem inK_nat {n m : Nat} (h1 : n ≤ m) (h2 : m ≤ lim) : inK .i64 (n : Int) := by rw [lim_eq] at h2; exact inK_of (by omega) (by omega)
/-- A counter below a length may go on. -/
theorem inK_succ {i n : Nat} (h : (i : Int) < (n : Int)) (hn : n ≤ lim) : inK .i64 ((i : Int) + 1) := by rw [lim_eq] at hn; exact inK_of (by omega) (by omega)
theorem inN_of {i n : Nat} (h : (i : Int) < (n : Int)) : inN (i : Int) n := ⟨by omega, h⟩
end Go.User
namespace Go.User
open Go.Proofs Go.Lf
set_option maxRecDepth 100000
theorem vc42 : (funI C42 (stpQ C42) S42 L42 Try.f42) = (
let q0 : Prop := (True ∧ True) ∧ True;
∀ (x : List (Int × Int × Int × Bool × Unit) × Unit),
  let q1 : Nat := x.1.length;
  q1 ≤ (1000000 : Nat) → dFact ((Ty.int IntKind.i64).prod ((Ty.int IntKind.i64).prod ((Ty.int IntKind.i32).prod (Ty.bool.prod Ty.unit)))).slice x.1 ∧ True → q0 ∧ ((True ∧ True ∧ True) ∧ True) ∧ (x.1 = ([] : List tW.den) → q0 ∧ ([] : List tW.den) = x.1) ∧ (True → ((True ∧ True ∧ (↑((0 : Nat) + q1) : Int) ≤ maxNew ∧ True) ∧ True ∧ True) ∧ x.1 = x.1)) := by kernel_rfl
theorem vc60 : (funI C60 (stpQ C60) S60 L60 Try.f60) = (
let q0 : Prop := (True ∧ True) ∧ True;
let q1 : List (List Int) := ([] : List (Ty.int IntKind.i32).slice.den);
∀ (x : List (List Int) × Unit),
  let q2 : Nat := x.1.length;
  q2 ≤ (1000000 : Nat) → dFact (Ty.int IntKind.i32).slice.slice x.1 ∧ True → q0 ∧ ((True ∧ True ∧ True) ∧ True) ∧ (x.1 = q1 → q0 ∧ q1 = x.1) ∧ (True → ((True ∧ True ∧ (↑((0 : Nat) + q2) : Int) ≤ maxNew ∧ True) ∧ True ∧ True) ∧ x.1 = x.1)) := by kernel_rfl
theorem vc61 : (funI C61 (stpQ C61) S61 L61 Try.f61) = (
let q0 : Prop := (True ∧ True) ∧ True;
let q1 : List Int := ([] : List (Ty.int IntKind.i32).den);
∀ (x : List Int × Unit),
  let q2 : Nat := x.1.length;
  q2 ≤ (1000000 : Nat) → dFact (Ty.int IntKind.i32).slice x.1 ∧ True → q0 ∧ ((True ∧ True ∧ True) ∧ True) ∧ (x.1 = q1 → q0 ∧ q1 = x.1) ∧ (True → ((True ∧ True ∧ (↑((0 : Nat) + q2) : Int) ≤ maxNew ∧ True) ∧ True ∧ True) ∧ x.1 = x.1)) := by kernel_rfl
theorem vc54 : (funI C54 (stpQ C54) S54 L54 Try.f54) = (
let q0 : Nat × List Int := ((0 : Go.FuncId), ([] : List Int));
let q1 : Nat := (55 : Go.FuncId);
let q2 : Nat := (2 : Nat);
let q3 : Prop := (True ∧ True) ∧ True;
let q4 : Prop := True ∧ True ∧ True;
let q5 : Int := (0 : Int);
let q6 : Prop := q4 ∧ True;
let q7 : Int := (1 : Int);
∀ (x : List (Int × Int × Int × Bool × Unit) × Option (Nat × List Int) × Unit),
  let q8 : Nat × List Int := Option.rec q0 (fun (val : Go.FuncId × List Int) => (fun (x : Go.FuncId × List Int) => x) val) x.2.1;
  let q9 : Prop := x.2.1.isSome = true ∧ q8.1 = q1 ∧ q8.2.length = q2;
  let q10 : Nat := x.1.length;
  let q11 : Int := (↑q10 : Int);
  let q12 : Prop := x.1 = x.1 ∧ x.2.1 = x.2.1 ∧ q11 = q11 ∧ True;
  let q13 : Int := Sp.findW (Sp.cloW q8) x.1;
  q9 →
    dFact ((Ty.int IntKind.i64).prod ((Ty.int IntKind.i64).prod ((Ty.int IntKind.i32).prod (Ty.bool.prod Ty.unit)))).slice x.1 ∧ dFact (Ty.abs Abs.clo) x.2.1 ∧ True →
      q3 ∧
        ((True ∧ q4) ∧ True) ∧
          (∃ (x_1 : Nat), (x_1 ≤ q10 ∧ ∀ (e : Int × Int × Int × Bool × Unit), e ∈ List.take x_1 x.1 → Sp.cloW q8 e = false) ∧ q5 = (↑x_1 : Int) ∧ q12) ∧
            ∀ (x_1 : Nat),
              let q14 : Bool := decide ((↑x_1 : Int) < q11);
              let q15 : Bool := Sp.cloW q8 (x.1.getD (↑x_1 : Int).toNat (q5, q5, q5, false, ()));
              let q16 : Int := (↑x_1 : Int) + q7;
              (x_1 ≤ q10 ∧ ∀ (e : Int × Int × Int × Bool × Unit), e ∈ List.take x_1 x.1 → Sp.cloW q8 e = false) → dFact (Ty.int IntKind.i64) (↑x_1 : Int) ∧ True → q3 ∧ (q14 = true → q6 ∧ ((True ∧ True ∧ True ∧ inN (↑x_1 : Int) q10 ∧ True ∧ q9 ∧ True) ∧ True) ∧ (q15 = true → q6 ∧ (↑x_1 : Int) = q13) ∧ (q15 = false → ((inK IntKind.i64 q16 ∧ True ∧ True) ∧ True) ∧ ∃ (y : Nat), (y ≤ q10 ∧ ∀ (e : Int × Int × Int × Bool × Unit), e ∈ List.take y x.1 → Sp.cloW q8 e = false) ∧ q10 - y < q10 - x_1 ∧ q16 = (↑y : Int) ∧ q12)) ∧ (q14 = false → q3 ∧ -q7 = q13)) := by kernel_rfl
theorem vc55 : (funI C55 (stpQ C55) S55 L55 Try.f55) = (
let q0 : Prop := True ∧ True ∧ True;
∀ (x : (Int × Int × Int × Bool × Unit) × Int × Int × Unit),
  let q1 : Bool := x.1.1 == x.2.1;
  let q2 : Prop := (true && bif q1 then true else false) = true → True;
  True → dFact ((Ty.int IntKind.i64).prod ((Ty.int IntKind.i64).prod ((Ty.int IntKind.i32).prod (Ty.bool.prod Ty.unit)))) x.1 ∧ dFact (Ty.int IntKind.i64) x.2.1 ∧ dFact (Ty.int IntKind.i64) x.2.2.1 ∧ True → (q0 ∧ True) ∧ ((True ∧ True ∧ True ∧ True ∧ True ∧ q2 ∧ q2 ∧ q2 ∧ q2 ∧ q0) ∧ True) ∧ (bif q1 then x.1.2.1 == x.2.2.1 else false) = Sp.atW x.2.1 x.2.2.1 x.1) := by kernel_rfl
theorem vc41 : (funI C41 (stpQ C41) S41 L41 Try.f41) = (
let q0 : Prop := True ∧ True ∧ True ∧ True;
∀ (x : Int × Int × Unit),
  let q1 : List Int := x.1 :: x.2.1 :: ([] : List Int);
  True → dFact (Ty.int IntKind.i64) x.1 ∧ dFact (Ty.int IntKind.i64) x.2.1 ∧ True → (q0 ∧ True) ∧ q0 ∧ Option.some ((55 : Nat), q1) = Option.some ((55 : Go.FuncId), q1)) := by kernel_rfl
theorem vc40 : (funI C40 (stpQ C40) S40 L40 Try.f40) = (
let q0 : Nat × List Int := ((0 : Go.FuncId), ([] : List Int));
let q1 : Nat := (55 : Go.FuncId);
let q2 : Nat := (2 : Nat);
let q3 : Prop := True ∧ True ∧ True;
let q4 : Int := (0 : Int);
∀ (x : List (Int × Int × Int × Bool × Unit) × Option (Nat × List Int) × Unit),
  let q5 : Nat × List Int := Option.rec q0 (fun (val : Go.FuncId × List Int) => (fun (x : Go.FuncId × List Int) => x) val) x.2.1;
  let q6 : Prop := x.2.1.isSome = true ∧ q5.1 = q1 ∧ q5.2.length = q2;
  let q7 : Int := Sp.findW (Sp.cloW q5) x.1;
  q6 → dFact ((Ty.int IntKind.i64).prod ((Ty.int IntKind.i64).prod ((Ty.int IntKind.i32).prod (Ty.bool.prod Ty.unit)))).slice x.1 ∧ dFact (Ty.abs Abs.clo) x.2.1 ∧ True → (q3 ∧ True) ∧ ((True ∧ True ∧ q6 ∧ True ∧ True) ∧ True) ∧ ((True ∧ True ∧ True ∧ q3) ∧ True) ∧ (q7, decide (q7 ≥ q4), ()) = (q7, decide (q4 ≤ q7), ())) := by kernel_rfl
theorem vc57 : (funI C57 (stpQ C57) S57 L57 Try.f57) = (
let q0 : Prop := True ∧ True ∧ True;
let q1 : Prop := q0 ∧ True;
let q2 : Int := (0 : Int);
let q3 : Prop := True ∧ q0;
∀ (x : Int × Int × Unit),
  let q4 : Bool := x.2.1 == q2;
  let q5 : Int × Int × Unit := Sp.quoP x.1 x.2.1;
  let q6 : Prop := x.2.1 ≠ q2;
  True → dFact (Ty.int IntKind.i32) x.1 ∧ dFact (Ty.int IntKind.i32) x.2.1 ∧ True → q1 ∧ q1 ∧ (q4 = true → (q3 ∧ True) ∧ (q2, x.1, ()) = q5) ∧ (q4 = false → ((True ∧ True ∧ True ∧ q3) ∧ True) ∧ ((True ∧ True ∧ (q6 ∧ True) ∧ True ∧ True ∧ True ∧ q6 ∧ q3) ∧ True) ∧ (IntKind.i32.wrap (IntKind.i64.wrap (x.1.tdiv x.2.1)), IntKind.i32.wrap (x.1.tmod x.2.1), ()) = q5)) := by kernel_rfl
theorem vc44 : (funI C44 (stpQ C44) S44 L44 Try.f44) = (
let q0 : Prop := True ∧ True ∧ True;
let q1 : Prop := q0 ∧ True;
let q2 : Prop := True ∧ q0;
let q3 : Prop := True ∧ True ∧ q2;
let q4 : Prop := True ∧ q3;
let q5 : Prop := q3 ∧ True;
let q6 : Int := (0 : Int);
let q7 : Int × Unit := (q6, ());
let q8 : Int × Unit := ((0 : tI.den), ());
let q9 : Prop := q2 ∧ True;
let q10 : Int := (16 : Int);
let q11 : Nat := (32 : Nat);
∀ (x : Int × Int × Int × Unit),
  let q12 : Bool := x.1 == (10 : Int);
  let q13 : Int × Int × Unit := (IntKind.i32.wrap (x.2.1 + x.2.2.1), q8);
  let q14 : Bool := x.1 == (11 : Int);
  let q15 : Bool := x.1 == (12 : Int);
  let q16 : Int := x.2.1 * x.2.2.1;
  let q17 : Bool := x.1 == (13 : Int);
  let q18 : Int × Int × Unit := Sp.quoP x.2.1 x.2.2.1;
  let q19 : Bool := x.1 == (14 : Int);
  let q20 : Bool := x.1 == (15 : Int);
  let q21 : Bool := x.1 == q10;
  let q22 : Bool := x.2.2.1 == q6;
  let q23 : Bool := x.1 == (17 : Int);
  let q24 : Bool := x.1 == (18 : Int);
  let q25 : Bool := x.1 == (19 : Int);
  let q26 : Bool := x.1 == (20 : Int);
  let q27 : Int := IntKind.i32.wrap (↑(BitVec.ofInt q11 x.2.2.1 &&& BitVec.ofInt q11 (31 : Int)).toNat : Int);
  let q28 : Prop := (True ∧ True ∧ True ∧ q6 ≤ q27 ∧ q0) ∧ True;
  let q29 : Nat := shiftN IntKind.i32 q27;
  let q30 : Bool := x.1 == (21 : Int);
  let q31 : Bool := x.1 == (22 : Int);
  let q32 : Bool := x.1 == (23 : Int);
  x.1 = (10 : (AK.val tI).den) → dFact (Ty.int IntKind.i64) x.1 ∧ dFact (Ty.int IntKind.i32) x.2.1 ∧ dFact (Ty.int IntKind.i32) x.2.2.1 ∧ True → q1 ∧ (q4 ∧ True) ∧ ((True ∧ True ∧ q4) ∧ True) ∧ ((True ∧ True) ∧ True) ∧ q1 ∧ (q12 = true → q5 ∧ (IntKind.i32.wrap (x.2.1 + x.2.2.1), q7) = q13) ∧ (q12 = false → q1 ∧ (q14 = true → q5 ∧ (IntKind.i32.wrap (x.2.1 - x.2.2.1), q7) = q13) ∧ (q14 = false → q1 ∧ (q15 = true → q5 ∧ (IntKind.i32.wrap q16, q7) = q13) ∧ (q15 = false → q1 ∧ (q17 = true → q9 ∧ (q18.1, q7) = q13) ∧ (q17 = false → q1 ∧ (q19 = true → q9 ∧ (q18.2.1, q7) = q13) ∧ (q19 = false → q1 ∧ (q20 = true → ((True ∧ True ∧ inK IntKind.i64 q16 ∧ q6 ≤ q10 ∧ q2) ∧ True) ∧ (IntKind.i32.wrap (q16 / (2 : (Ty.int IntKind.i64).den) ^ shiftN IntKind.i64 q10), q7) = q13) ∧ (q20 = false → q1 ∧ (q21 = true → q1 ∧ (q22 = true → q1 ∧ (q6, q7) = q13) ∧ (q22 = false → False)) ∧ (q21 = false → q1 ∧ (q23 = true → q5 ∧ (IntKind.i32.wrap (↑(BitVec.ofInt q11 x.2.1 &&& BitVec.ofInt q11 x.2.2.1).toNat : Int), q7) = q13) ∧ (q23 = false → q1 ∧ (q24 = true → q5 ∧ (IntKind.i32.wrap (↑(BitVec.ofInt q11 x.2.1 ||| BitVec.ofInt q11 x.2.2.1).toNat : Int), q7) = q13) ∧ (q24 = false → q1 ∧ (q25 = true → q5 ∧ (IntKind.i32.wrap (↑(BitVec.ofInt q11 x.2.1 ^^^ BitVec.ofInt q11 x.2.2.1).toNat : Int), q7) = q13) ∧ (q25 = false → q1 ∧ (q26 = true → q28 ∧ (IntKind.i32.wrap (x.2.1 * (2 : Int) ^ q29), q7) = q13) ∧ (q26 = false → q1 ∧ (q30 = true → q28 ∧ (x.2.1 / (2 : (Ty.int IntKind.i32).den) ^ q29, q7) = q13) ∧ (q30 = false → q1 ∧ (q31 = true → q5 ∧ (Min.min x.2.1 x.2.2.1, q7) = q13) ∧ (q31 = false → q1 ∧ (q32 = true → q5 ∧ (Max.max x.2.1 x.2.2.1, q7) = q13) ∧ (q32 = false → False))))))))))))))) := by kernel_rfl
theorem vc24 : (funI C24 (stpQ C24) S24 L24 Try.f24) = (
let q0 : Prop := (True ∧ True) ∧ True;
let q1 : Prop := True ∧ True ∧ True;
let q2 : Prop := True ∧ True ∧ q1;
let q3 : Int := (0 : Int);
let q4 : Int := (1 : Int);
∀ (x : List Int × List Int × Unit),
  let q5 : Nat := x.1.length;
  let q6 : Int := (↑q5 : Int);
  let q7 : Nat := x.2.1.length;
  let q8 : Bool := q6 != (↑q7 : Int);
  let q9 : Bool := Sp.sameW x.1 x.2.1;
  let q10 : Prop := q0 ∧ false = q9;
  let q11 : Prop := x.1 = x.1 ∧ x.2.1 = x.2.1 ∧ True;
  True →
    dFact (Ty.int IntKind.i32).slice x.1 ∧ dFact (Ty.int IntKind.i32).slice x.2.1 ∧ True →
      q0 ∧
        ((True ∧ q2) ∧ True) ∧
          (q8 = true → q10) ∧
            (q8 = false →
              q0 ∧
                (∃ (x_1 : Nat), (q5 = q7 ∧ x_1 ≤ q5 ∧ List.take x_1 x.1 = List.take x_1 x.2.1) ∧ q3 = (↑x_1 : Int) ∧ q11) ∧
                  ∀ (x_1 : Nat),
                    let q12 : Bool := decide ((↑x_1 : Int) < q6);
                    let q13 : Nat := (↑x_1 : Int).toNat;
                    let q14 : Bool := x.1.getD q13 q3 != x.2.1.getD q13 q3;
                    let q15 : Int := (↑x_1 : Int) + q4;
                    q5 = q7 ∧ x_1 ≤ q5 ∧ List.take x_1 x.1 = List.take x_1 x.2.1 → dFact (Ty.int IntKind.i64) (↑x_1 : Int) ∧ True → (q2 ∧ True) ∧ (q12 = true → ((True ∧ True ∧ inN (↑x_1 : Int) q5 ∧ True ∧ True ∧ True ∧ inN (↑x_1 : Int) q7 ∧ q1) ∧ True) ∧ (q14 = true → q10) ∧ (q14 = false → ((True ∧ inK IntKind.i64 q15 ∧ True ∧ True) ∧ True) ∧ ∃ (y : Nat), (q5 = q7 ∧ y ≤ q5 ∧ List.take y x.1 = List.take y x.2.1) ∧ q5 - y < q5 - x_1 ∧ q15 = (↑y : Int) ∧ q11)) ∧ (q12 = false → q0 ∧ true = q9))) := by kernel_rfl
theorem vc14 : (funI C14 (stpQ C14) S14 L14 Try.f14) = (
let q0 : Prop := (True ∧ True) ∧ True;
let q1 : Prop := True ∧ True ∧ True ∧ True;
let q2 : Prop := True ∧ q1;
let q3 : List Int := ([] : List (Ty.int IntKind.i32).den);
let q4 : Int := (1 : Int);
∀ (x : List (List Int) × List (List Int) × Unit),
  let q5 : Nat := x.1.length;
  let q6 : Int := (↑q5 : Int);
  let q7 : Nat := x.2.1.length;
  let q8 : Bool := q6 != (↑q7 : Int);
  let q9 : Bool := Sp.sameM x.1 x.2.1;
  let q10 : Prop := q0 ∧ false = q9;
  let q11 : Prop := x.1 = x.1 ∧ x.2.1 = x.2.1 ∧ True;
  True →
    dFact (Ty.int IntKind.i32).slice.slice x.1 ∧ dFact (Ty.int IntKind.i32).slice.slice x.2.1 ∧ True →
      q0 ∧
        ((True ∧ q2) ∧ True) ∧
          (q8 = true → q10) ∧
            (q8 = false →
              q0 ∧
                (∃ (x_1 : Nat), (q5 = q7 ∧ x_1 ≤ q5 ∧ List.take x_1 x.1 = List.take x_1 x.2.1) ∧ (0 : Int) = (↑x_1 : Int) ∧ q11) ∧
                  ∀ (x_1 : Nat),
                    let q12 : Bool := decide ((↑x_1 : Int) < q6);
                    let q13 : Nat := (↑x_1 : Int).toNat;
                    let q14 : Bool := !Sp.sameW (x.1.getD q13 q3) (x.2.1.getD q13 q3);
                    let q15 : Int := (↑x_1 : Int) + q4;
                    q5 = q7 ∧ x_1 ≤ q5 ∧ List.take x_1 x.1 = List.take x_1 x.2.1 → dFact (Ty.int IntKind.i64) (↑x_1 : Int) ∧ True → (q2 ∧ True) ∧ (q12 = true → ((True ∧ True ∧ inN (↑x_1 : Int) q5 ∧ True ∧ True ∧ True ∧ inN (↑x_1 : Int) q7 ∧ q1) ∧ True) ∧ (q14 = true → q10) ∧ (q14 = false → ((True ∧ inK IntKind.i64 q15 ∧ True ∧ True) ∧ True) ∧ ∃ (y : Nat), (q5 = q7 ∧ y ≤ q5 ∧ List.take y x.1 = List.take y x.2.1) ∧ q5 - y < q5 - x_1 ∧ q15 = (↑y : Int) ∧ q11)) ∧ (q12 = false → q0 ∧ true = q9))) := by kernel_rfl
theorem vc11 : (funI C11 (stpQ C11) S11 L11 Try.f11) = (
let q0 : Nat := (1000000 : Nat);
let q1 : Prop := (True ∧ True) ∧ True;
let q2 : List (List Int) := ([] : List (Ty.int IntKind.i32).slice.den);
let q3 : Prop := True ∧ True ∧ True;
let q4 : List Int := ([] : List (Ty.int IntKind.i32).den);
let q5 : Int := (1 : Int);
∀ (x : List (List Int) × Unit),
  let q6 : Nat := x.1.length;
  let q7 : Prop := x.1 = x.1 ∧ True;
  (q6 ≤ q0 ∧ ∀ (l : List Int), l ∈ x.1 → l.length ≤ q0) →
    dFact (Ty.int IntKind.i32).slice.slice x.1 ∧ True →
      q1 ∧
        ((True ∧ True) ∧ True ∧ True) ∧
          q1 ∧
            (∃ (x_1 : Nat), x_1 ≤ q6 ∧ (0 : Int) = (↑x_1 : Int) ∧ q2 = List.take x_1 x.1 ∧ q7) ∧
              ∀ (x_1 : Nat),
                let q8 : List (List Int) := List.take x_1 x.1;
                let q9 : Bool := decide ((↑x_1 : Int) < (↑q6 : Int));
                let q10 : List Int := x.1.getD (↑x_1 : Int).toNat q4;
                let q11 : List (List Int) := q10 :: q2;
                let q12 : Int := (↑x_1 : Int) + q5;
                x_1 ≤ q6 → dFact (Ty.int IntKind.i64) (↑x_1 : Int) ∧ dFact (Ty.int IntKind.i32).slice.slice q8 ∧ True → ((True ∧ True ∧ q3) ∧ True) ∧ (q9 = true → ((True ∧ True ∧ True ∧ True ∧ inN (↑x_1 : Int) q6 ∧ True ∧ (↑((0 : Nat) + q10.length) : Int) ≤ maxNew ∧ True ∧ True) ∧ (↑(q8.length + q11.length) : Int) ≤ maxNew ∧ True ∧ True) ∧ ((True ∧ inK IntKind.i64 q12 ∧ True ∧ True) ∧ True) ∧ ∃ (y : Nat), y ≤ q6 ∧ q6 - y < q6 - x_1 ∧ q12 = (↑y : Int) ∧ q8 ++ q11 = List.take y x.1 ∧ q7) ∧ (q9 = false → (q3 ∧ True) ∧ q8 = x.1)) := by kernel_rfl
theorem vc13 : (funI C13 (stpQ C13) S13 L13 Try.f13) = (
let q0 : Int := (0 : Int);
∀ (x : List (List Int) × Unit),
  let q1 : Nat := x.1.length;
  let q2 : Bool := (↑q1 : Int) == (1 : Int);
  let q3 : Prop := (true && bif q2 then true else false) = true;
  let q4 : Prop := q3 → True;
  True → dFact (Ty.int IntKind.i32).slice.slice x.1 ∧ True → ((True ∧ True) ∧ True) ∧ ((True ∧ True ∧ True ∧ True ∧ q4 ∧ (q3 → inN q0 q1) ∧ q4 ∧ q4 ∧ q4 ∧ True ∧ True ∧ True) ∧ True) ∧ (bif q2 then (↑(List.length (x.1.getD q0.toNat (([] : List (Ty.int IntKind.i32).den)))) : Int) == (8 : Int) else false) = Sp.whole x.1) := by kernel_rfl
theorem vc10 : (funI C10 (stpQ C10) S10 L10 Try.f10) = (
let q0 : Prop := (True ∧ True) ∧ True;
let q1 : Int := (8 : Int);
let q2 : Nat := (8 : Nat);
let q3 : Int := (0 : Int);
let q4 : List (List Int) := ([] : List (Ty.int IntKind.i32).slice.den);
let q5 : List (List (Int × Int × Int × Bool × Unit)) := ([] : List tW.slice.den);
let q6 : List (List (Int × Int × Int × Bool × Unit)) × List (List Int) × Unit := (q5, q4, ());
let q7 : Prop := q6 = q6 ∧ True;
let q8 : Prop := True ∧ True ∧ True;
let q9 : Nat := q3.toNat;
let q10 : List Int := ([] : List (Ty.int IntKind.i32).den);
let q11 : Int := (1 : Int);
∀ (x : Int × Unit),
  let q12 : Prop := x.1 = x.1 ∧ q7;
  True →
    dFact (Ty.int IntKind.i32) x.1 ∧ True →
      q0 ∧
        ((((0 : (Ty.int IntKind.i64).den) ≤ q1 ∧ q1 ≤ q1 ∧ q1 ≤ maxNew) ∧ True ∧ True) ∧ True ∧ True) ∧
          q0 ∧
            (∃ (x_1 : Nat), x_1 ≤ q2 ∧ q3 = (↑x_1 : Int) ∧ List.replicate q1.toNat q3 :: q4 = (Sp.ramp x.1 x_1 ++ List.replicate (q2 - x_1) q3) :: q4 ∧ q12) ∧
              ∀ (x_1 : Nat),
                let q13 : Nat := q2 - x_1;
                let q14 : List (List Int) := (Sp.ramp x.1 x_1 ++ List.replicate q13 q3) :: q4;
                let q15 : Bool := decide ((↑x_1 : Int) < q1);
                let q16 : List Int := q14.getD q9 q10;
                let q17 : Int := (↑x_1 : Int) + q11;
                x_1 ≤ q2 →
                  dFact (Ty.int IntKind.i64) (↑x_1 : Int) ∧ dFact (Ty.int IntKind.i32).slice.slice q14 ∧ True →
                    (q8 ∧ True) ∧
                      (q15 = true →
                          ((True ∧ inN q3 q14.length ∧ True ∧ True ∧ True ∧ True ∧ True ∧ True ∧ inN (↑x_1 : Int) q16.length ∧ True) ∧ True ∧ True) ∧
                            ((True ∧ inK IntKind.i64 q17 ∧ True ∧ True) ∧ True) ∧
                              ∃ (y : Nat),
                                let q18 : Nat := q2 - y;
                                y ≤ q2 ∧ q18 < q13 ∧ q17 = (↑y : Int) ∧ q14.set q9 (q16.set (↑x_1 : Int).toNat (IntKind.i32.wrap (x.1 + IntKind.i32.wrap (↑x_1 : Int)))) = (Sp.ramp x.1 y ++ List.replicate q18 q3) :: q4 ∧ q12) ∧
                        (q15 = false → ((True ∧ True ∧ True ∧ True ∧ q8) ∧ True ∧ True) ∧ (([] : List tW.den) :: ([] : List tW.den) :: ([] : List tW.den) :: q5, q14, ()) = Sp.begin x.1)) := by kernel_rfl
end Go.User
namespace Go.User
open Go.Lf Go.Proofs

theorem okA0 {n : Nat} {fns : List (FuncId × FSpec)} (h : ∀ f s, Lf.look fns f = some s → FOk Try.prog f s) : CtxOK Try.prog { mkC n fns with clo := none } :=
  ctx_okQ 0 rfl rfl h ptrs_nil (fun _ h => by cases h) (fun _ h => by cases h) ins_nil
theorem ok55 : FOk Try.prog 55 S55 := by
  have hC : CtxOK Try.prog C55 := okA0 fns_nil
  refine FOk.intro hC (stpQ_ok hC) Try.call55 Try.func55 (by kernel_rfl) (by kernel_rfl) L55 (vc55.mpr ?_)
  simp only [z1, z2, z3, z4, z5, z6, z7, z8, z9, z10, z11, z12, z13, z14, z15, z16, z17, z18, z19, z20, z21, z22, z23, z24, z25, z26, z27, z28, z29, z30, z31, z32, z33, z34, z35, z36, z37, z38]
  intro x hx
  simp only [Sp.atW]
  rfl
theorem clo_ok : ClOk Try.prog tClo := by
  rintro ⟨f, l⟩ w F caps vs xs hF hc hv ⟨hf, hl⟩
  simp only at hf hl hc
  subst hf
  refine ⟨ok55.1, ?_⟩
  match l, hl with
  | [a, b], _ =>
    match caps, hc with
    | v1 :: r1, ⟨n1, s1, e1, q1, g1, g1', q2⟩ =>
      injection e1 with e1 e2
      subst e1; subst e2
      match r1, q2 with
      | v2 :: r2, ⟨n2, s2, e1, p1, g2, g2', p2⟩ =>
        injection e1 with e1 e2
        subst e1; subst e2
        match r2, p2 with
        | v3 :: r3, ⟨_, _, e1, _⟩ => cases e1
        | [], _ =>
          obtain ⟨v, r, rfl, h1, h2⟩ := hv
          have h2 : r = [] := h2
          subst h2
          have hS : ∀ {v : Value} {n : Int}, CellAt F w v (.int .i64 n) → IntKind.i64.min ≤ n → n ≤ IntKind.i64.max → SAddr F w v tI n := by
            rintro v n ⟨b, off, row, T, fr, k1, k2, k3, k4⟩ k5 k6
            have hlt : off < row.size := (Array.getElem?_eq_some_iff.1 k4).1
            refine ⟨b, off, row, T, fr, k1, k2, k3, hlt, ?_, k5, k6⟩
            have : row[off] = .int .i64 n := (Array.getElem?_eq_some_iff.1 k4).2
            simp only [seg, Ty.size]
            rw [List.drop_eq_getElem_cons (by simpa using hlt)]
            simp [this]
          have := ok55.2 w F [v, v1, v2] (xs.1, a, b, ()) hF ⟨v, _, rfl, h1, v1, _, rfl, hS q1 g1 g1', v2, _, rfl, hS p1 g2 g2', rfl⟩ trivial
          exact this
    | [], hc => cases hc
theorem okA {n : Nat} {fns : List (FuncId × FSpec)} (h : ∀ f s, Lf.look fns f = some s → FOk Try.prog f s) : CtxOK Try.prog (mkC n fns) :=
  ctx_okQ 0 rfl rfl h ptrs_nil (fun _ h => by cases h) (fun t h => by injection h with h; subst h; exact clo_ok) ins_nil
theorem okC {C : Ctx} (h : ∀ f s, Lf.look C.fns f = some s → FOk Try.prog f s) (h1 : C.tys = tysQ 0) (h2 : C.eqs = eqs) (h3 : C.ptrs = []) (h4 : C.thk = none) (h5 : C.clo = some tClo) (h6 : C.ins = []) : CtxOK Try.prog C :=
  ctx_okQ 0 h1 h2 h (by rw [h3]; exact ptrs_nil) (fun _ h => by rw [h4] at h; cases h) (fun t h => by rw [h5] at h; injection h with h; subst h; exact clo_ok) (by rw [h6]; exact ins_nil)
theorem ok42 : FOk Try.prog 42 S42 := by
  have hC : CtxOK Try.prog C42 := okA fns_nil
  refine FOk.intro hC (stpQ_ok hC) Try.call42 Try.func42 (by kernel_rfl) (by kernel_rfl) L42 (vc42.mpr ?_)
  simp only [z1, z2, z3, z4, z5, z6, z7, z8, z9, z10, z11, z12, z13, z14, z15, z16, z17, z18, z19, z20, z21, z22, z23, z24, z25, z26, z27, z28, z29, z30, z31, z32, z33, z34, z35, z36, z37, z38]
  intro x hp hx
  refine ⟨fun h => h.symm, ?_⟩
  rw [maxNew_eq]; omega
theorem ok60 : FOk Try.prog 60 S60 := by
  have hC : CtxOK Try.prog C60 := okA fns_nil
  refine FOk.intro hC (stpQ_ok hC) Try.call60 Try.func60 (by kernel_rfl) (by kernel_rfl) L60 (vc60.mpr ?_)
  simp only [z1, z2, z3, z4, z5, z6, z7, z8, z9, z10, z11, z12, z13, z14, z15, z16, z17, z18, z19, z20, z21, z22, z23, z24, z25, z26, z27, z28, z29, z30, z31, z32, z33, z34, z35, z36, z37, z38]
  intro x hp hx
  refine ⟨fun h => h.symm, ?_⟩
  rw [maxNew_eq]; omega
theorem ok61 : FOk Try.prog 61 S61 := by
  have hC : CtxOK Try.prog C61 := okA fns_nil
  refine FOk.intro hC (stpQ_ok hC) Try.call61 Try.func61 (by kernel_rfl) (by kernel_rfl) L61 (vc61.mpr ?_)
  simp only [z1, z2, z3, z4, z5, z6, z7, z8, z9, z10, z11, z12, z13, z14, z15, z16, z17, z18, z19, z20, z21, z22, z23, z24, z25, z26, z27, z28, z29, z30, z31, z32, z33, z34, z35, z36, z37, z38]
  intro x hp hx
  refine ⟨fun h => h.symm, ?_⟩
  rw [maxNew_eq]; omega
theorem ok54 : FOk Try.prog 54 S54 := by
  have hC : CtxOK Try.prog C54 := okA fns_nil
  refine FOk.intro hC (stpQ_ok hC) Try.call54 Try.func54 (by kernel_rfl) (by kernel_rfl) L54 (vc54.mpr ?_)
  simp only [z1, z2, z3, z4, z5, z6, z7, z8, z9, z10, z11, z12, z13, z14, z15, z16, z17, z18, z19, z20, z21, z22, z23, z24, z25, z26, z27, z28, z29, z30, z31, z32, z33, z34, z35, z36, z37, z38]
  intro x hp hx
  refine ⟨⟨0, ⟨Nat.zero_le _, by simp⟩, rfl⟩, ?_⟩
  intro i hi hk
  refine ⟨fun hlt => ⟨⟨inN_of hlt, hp⟩, fun h => Sp.findW_at hi.2 (by omega) h, fun h => ⟨inK_succ hlt hx.1.1, i + 1, ⟨by omega, ?_⟩, by omega, by omega⟩⟩, fun hge => ?_⟩
  · rw [Sp.take_succ (by omega) (0, 0, 0, false, ())]
    intro e he
    rcases List.mem_append.1 he with he | he
    · exact hi.2 e he
    · rw [List.mem_singleton] at he; rw [he]; exact h
  · have := hi.2
    rw [Sp.take_all hi.1 hge] at this
    exact Sp.findW_none this
theorem ok41 : FOk Try.prog 41 S41 := by
  have hC : CtxOK Try.prog C41 := okA fns_nil
  refine FOk.intro hC (stpQ_ok hC) Try.call41 Try.func41 (by kernel_rfl) (by kernel_rfl) L41 (vc41.mpr ?_)
  simp only [z1, z2, z3, z4, z5, z6, z7, z8, z9, z10, z11, z12, z13, z14, z15, z16, z17, z18, z19, z20, z21, z22, z23, z24, z25, z26, z27, z28, z29, z30, z31, z32, z33, z34, z35, z36, z37, z38]
theorem ok40 : FOk Try.prog 40 S40 := by
  have hC : CtxOK Try.prog C40 := okA (fns_cons ok54 fns_nil)
  refine FOk.intro hC (stpQ_ok hC) Try.call40 Try.func40 (by kernel_rfl) (by kernel_rfl) L40 (vc40.mpr ?_)
  simp only [z1, z2, z3, z4, z5, z6, z7, z8, z9, z10, z11, z12, z13, z14, z15, z16, z17, z18, z19, z20, z21, z22, z23, z24, z25, z26, z27, z28, z29, z30, z31, z32, z33, z34, z35, z36, z37, z38]
  intro x hp hx
  exact hp
theorem ok57 : FOk Try.prog 57 S57 := by
  have hC : CtxOK Try.prog C57 := okC fns_nil rfl rfl rfl rfl rfl rfl
  refine FOk.intro hC (stpQ_ok hC) Try.call57 Try.func57 (by kernel_rfl) (by kernel_rfl) L57 (vc57.mpr ?_)
  simp only [z1, z2, z3, z4, z5, z6, z7, z8, z9, z10, z11, z12, z13, z14, z15, z16, z17, z18, z19, z20, z21, z22, z23, z24, z25, z26, z27, z28, z29, z30, z31, z32, z33, z34, z35, z36, z37, z38]
  intro x hx
  refine ⟨fun h => ?_, fun h => ?_⟩
  · unfold Sp.quoP; rw [if_pos h]
  · unfold Sp.quoP; rw [if_neg h]
    exact ⟨h, rfl⟩
theorem ok44 : FOk Try.prog 44 S44 := by
  have hC : CtxOK Try.prog C44 := okA (fns_cons ok57 fns_nil)
  refine FOk.intro hC (stpQ_ok hC) Try.call44 Try.func44 (by kernel_rfl) (by kernel_rfl) L44 (vc44.mpr ?_)
  simp only [z1, z2, z3, z4, z5, z6, z7, z8, z9, z10, z11, z12, z13, z14, z15, z16, z17, z18, z19, z20, z21, z22, z23, z24, z25, z26, z27, z28, z29, z30, z31, z32, z33, z34, z35, z36, z37, z38]
  intro x hp hx
  exact fun h => absurd hp h
theorem ok24 : FOk Try.prog 24 S24 := by
  have hC : CtxOK Try.prog C24 := okA fns_nil
  refine FOk.intro hC (stpQ_ok hC) Try.call24 Try.func24 (by kernel_rfl) (by kernel_rfl) L24 (vc24.mpr ?_)
  simp only [z1, z2, z3, z4, z5, z6, z7, z8, z9, z10, z11, z12, z13, z14, z15, z16, z17, z18, z19, z20, z21, z22, z23, z24, z25, z26, z27, z28, z29, z30, z31, z32, z33, z34, z35, z36, z37, z38]
  intro x hx
  refine ⟨fun h => ?_, fun h => ⟨⟨0, ⟨by omega, Nat.zero_le _, by simp⟩, rfl⟩, ?_⟩⟩
  · unfold Sp.sameW
    rw [decide_eq_false (fun e => h (by rw [e]))]
  · intro i hi hk
    refine ⟨fun hlt => ⟨⟨inN_of hlt, inN_of (by omega)⟩, fun h => ?_, fun h => ⟨inK_succ hlt hx.1.1, i + 1, ⟨hi.1, by omega, ?_⟩, by omega, by omega⟩⟩, fun hge => ?_⟩
    · unfold Sp.sameW
      rw [decide_eq_false (Sp.ne_of_take h)]
    · rw [Sp.take_succ (by omega) 0, Sp.take_succ (by omega) 0, hi.2.2, h]
    · unfold Sp.sameW
      rw [decide_eq_true (Sp.eq_of_len hi.1 hi.2.1 hge hi.2.2)]
theorem ok14 : FOk Try.prog 14 S14 := by
  have hC : CtxOK Try.prog C14 := okA (fns_cons ok24 fns_nil)
  refine FOk.intro hC (stpQ_ok hC) Try.call14 Try.func14 (by kernel_rfl) (by kernel_rfl) L14 (vc14.mpr ?_)
  simp only [z1, z2, z3, z4, z5, z6, z7, z8, z9, z10, z11, z12, z13, z14, z15, z16, z17, z18, z19, z20, z21, z22, z23, z24, z25, z26, z27, z28, z29, z30, z31, z32, z33, z34, z35, z36, z37, z38]
  intro x hx
  refine ⟨fun h => ?_, fun h => ⟨⟨0, ⟨by omega, Nat.zero_le _, by simp⟩, rfl⟩, ?_⟩⟩
  · unfold Sp.sameM
    rw [decide_eq_false (fun e => h (by rw [e]))]
  · intro i hi hk
    refine ⟨fun hlt => ⟨⟨inN_of hlt, inN_of (by omega)⟩, fun h => ?_, fun h => ⟨inK_succ hlt hx.1.1, i + 1, ⟨hi.1, by omega, ?_⟩, by omega, by omega⟩⟩, fun hge => ?_⟩
    · unfold Sp.sameM
      unfold Sp.sameW at h
      rw [decide_eq_false (Sp.ne_of_take (of_decide_eq_false h))]
    · unfold Sp.sameW at h
      rw [Sp.take_succ (by omega) [], Sp.take_succ (by omega) [], hi.2.2, of_decide_eq_true h]
    · unfold Sp.sameM
      rw [decide_eq_true (Sp.eq_of_len hi.1 hi.2.1 hge hi.2.2)]
theorem ok11 : FOk Try.prog 11 S11 := by
  have hC : CtxOK Try.prog C11 := okC fns_nil rfl rfl rfl rfl rfl rfl
  refine FOk.intro hC (stpQ_ok hC) Try.call11 Try.func11 (by kernel_rfl) (by kernel_rfl) L11 (vc11.mpr ?_)
  simp only [z1, z2, z3, z4, z5, z6, z7, z8, z9, z10, z11, z12, z13, z14, z15, z16, z17, z18, z19, z20, z21, z22, z23, z24, z25, z26, z27, z28, z29, z30, z31, z32, z33, z34, z35, z36, z37, z38]
  intro x hp hx
  refine ⟨⟨0, Nat.zero_le _, rfl, by simp⟩, ?_⟩
  intro i hi hk
  refine ⟨fun hlt => ⟨⟨⟨inN_of hlt, ?_⟩, ?_⟩, inK_succ hlt hx.1, i + 1, by omega, by omega, by omega, ?_⟩, fun hge => Sp.take_all hi hge⟩
  · have := hp.2 (x.1.getD i []) (by rw [Sp.getD_at (by omega)]; exact List.getElem_mem _)
    rw [maxNew_eq]; omega
  · have : (x.1.take i).length ≤ i := by rw [List.length_take]; omega
    rw [maxNew_eq]; omega
  · rw [Sp.take_succ (by omega) []]
theorem ok13 : FOk Try.prog 13 S13 := by
  have hC : CtxOK Try.prog C13 := okA fns_nil
  refine FOk.intro hC (stpQ_ok hC) Try.call13 Try.func13 (by kernel_rfl) (by kernel_rfl) L13 (vc13.mpr ?_)
  simp only [z1, z2, z3, z4, z5, z6, z7, z8, z9, z10, z11, z12, z13, z14, z15, z16, z17, z18, z19, z20, z21, z22, z23, z24, z25, z26, z27, z28, z29, z30, z31, z32, z33, z34, z35, z36, z37, z38]
  intro x hx
  refine ⟨fun h => ⟨by omega, by omega⟩, ?_⟩
  unfold Sp.whole
  rw [Bool.eq_iff_iff]
  simp only [Bool.and_eq_true, beq_iff_eq, decide_eq_true_eq]
  constructor
  · rintro ⟨h1, h2⟩; exact ⟨by omega, by simpa using (by omega : (x.1.getD (Int.toNat 0) []).length = 8)⟩
  · rintro ⟨h1, h2⟩; exact ⟨by omega, by have : (x.1.getD (Int.toNat 0) []).length = 8 := h2
                                         omega⟩
theorem ok10 : FOk Try.prog 10 S10 := by
  have hC : CtxOK Try.prog C10 := okC fns_nil rfl rfl rfl rfl rfl rfl
  refine FOk.intro hC (stpQ_ok hC) Try.call10 Try.func10 (by kernel_rfl) (by kernel_rfl) L10 (vc10.mpr ?_)
  simp only [z1, z2, z3, z4, z5, z6, z7, z8, z9, z10, z11, z12, z13, z14, z15, z16, z17, z18, z19, z20, z21, z22, z23, z24, z25, z26, z27, z28, z29, z30, z31, z32, z33, z34, z35, z36, z37, z38]
  intro x hx
  refine ⟨⟨by decide, by decide, by rw [maxNew_eq]; decide⟩, ⟨0, Nat.zero_le _, rfl, rfl⟩, ?_⟩
  intro i hi hk
  have hl : (Sp.ramp x.1 i ++ List.replicate (8 - i) 0).length = 8 := by rw [List.length_append, Sp.ramp_len, List.length_replicate]; omega
  refine ⟨fun hlt => ⟨⟨⟨by decide, by decide⟩, ?_⟩, inK_of (by omega) (by omega), i + 1, by omega, by omega, by omega, ?_⟩, fun hge => ?_⟩
  · show inN (i : Int) (Sp.ramp x.1 i ++ List.replicate (8 - i) 0).length
    rw [hl]; exact ⟨by omega, by omega⟩
  · show [List.set (Sp.ramp x.1 i ++ List.replicate (8 - i) 0) i _] = _
    rw [List.set_append_right _ _ (by rw [Sp.ramp_len]; omega), Sp.ramp_len, Nat.sub_self, show 8 - i = (8 - (i + 1)) + 1 by omega, List.replicate_succ, List.set_cons_zero, Sp.ramp_succ, List.append_assoc]
    rfl
  · have : i = 8 := by omega
    subst this
    unfold Sp.begin
    simp
end Go.User
namespace Go.Lf

def storeO (C : Ctx) (st : St) (T : TypeId) (va vv : View) : Option (Prop × St) :=
  match va.e, vv.e, vv.s with
  | .addr r [.idx i], .own σ μ' y, some t => (match st r with
    | .own (.slice e) (.own _) xs => (match castD (τ := σ) (σ := e) y with
      | some y => bif decide (look C.tys T = some e) && !Nat.beq t r then some (List.length xs = 1, upd (kill (drop st t) r) r (.own (.slice e) (.own μ') [y])) else none
      | none => none)
    | _ => none)
  | _, _, _ => none

/-- A part of an owner that is given up goes into a variable. -/
def storeT (C : Ctx) (st : St) (T : TypeId) (va vv : View) : Option (Prop × St) :=
  match vv.sub?, va.addr? with
  | some al, some l => match getP al.p al.τ al.x, getM al.p al.τ al.m, getP l.p l.τ l.x, getM l.p l.τ l.m with
    | some ⟨σ', y⟩, some μ', some ⟨σ, _⟩, some μ => (match castD (τ := σ') (σ := σ) y with
      | some y => bif decide (look C.tys T = some σ) && memN C.take al.r && nodupN [l.r, al.r] then (match setP l.p l.τ l.x σ y, modeS l μ μ' with
        | some x', some m' => some (True, upd (keepAS (dropAll st [al.r]) l.r l.p) l.r (reown (st l.r) l.τ m' x'))
        | _, _ => none) else none
      | none => none)
    | _, _, _, _ => none
  | _, _ => none

section
variable {P : Program} {C : Ctx} {N : NP} {w0 : World} {F0 H : NSet} {env : St} {a : Act} {w : World} {F : NSet} {S : Nat → NSet} {d : Nat}

theorem storeO_ok (hC : CtxOK P C) (hi : Inv0 P C.np w0 F0 H env a w F S) {T : TypeId} {x z : Operand} {o : Oper} (ho : o.op = .store T x z) (hod : o.dst = none)
    {c : Prop} {st' : St} (h : storeO C env T (viewO env x) (viewO env z) = some (c, st')) (hc : c) {K : Act → World → Prop} {Q : Exit → Act → World → Prop} (hK : ∀ a' w', Inv P C.np w0 F0 H st' a' w' → K a' w') : o.wp P a w K Q := by
  have hx := viewO_ok hi x
  have hz := viewO_ok hi z
  unfold storeO at h
  split at h
  · rename_i r i σ μ' y t hxe hze hzs
    split at h
    · rename_i e μ0 xs hr
      split at h
      · rename_i y' hcast
        cases hb : (decide (look C.tys T = some e) && !Nat.beq t r)
        · rw [hb] at h; cases h
        rw [hb] at h
        simp only [cond_true, Option.some.injEq, Prod.mk.injEq] at h
        obtain ⟨rfl, rfl⟩ := h
        simp only [Bool.and_eq_true, decide_eq_true_eq, Bool.not_eq_true'] at hb
        obtain ⟨hT, htr⟩ := hb
        have htr : t ≠ r := fun e => by rw [nbeq_iff.2 e] at htr; cases htr
        have hcd := castD_some hcast
        injection hcd with e1 e2
        subst e1; cases e2
        have hown := ownAs_ok (e := σ) (m := μ') (x := y) (l := [t]) hi hz (by unfold View.ownAs; rw [hze, hzs]; simp [castD])
        rcases hown with ⟨h, _⟩ | ⟨t', h, hown⟩
        · cases h
        injection h with h _
        subst h
        have hroot : (viewO env x).r = env r := by rw [hx.root, hxe]; rfl
        obtain ⟨σ1, y1, μ1, pl, S0, cs, b, off, hA, hv⟩ := addr?_ok (l := ⟨r, [.idx i], .slice σ, .own μ0, xs⟩) hi hx (by unfold View.addr?; rw [hxe, hroot, hr]; rfl)
        have hR := hA.root
        simp only at hR
        rw [hr] at hR
        obtain ⟨_, _, hpl, hS0, hV⟩ := hR.own_inj
        subst hS0; subst hpl
        have hO := hR.2.2
        obtain ⟨ao, cap, hcs, hcap, hlim, hm⟩ := hO
        have hir := hA.inr
        simp only [inR] at hir
        have hi0 : i = 0 := by have := hir.1; omega
        subst hi0
        rcases hm with ⟨_, h⟩ | ⟨b1, off1, row, T1, Si, rfl, hb1, hrow, hsz, s, nb, dd, he⟩
        · omega
        have hloc := hA.loc
        rw [hcs] at hloc
        simp only [loc, Place.read] at hloc
        rw [if_pos (by omega)] at hloc
        simp only [Option.some.injEq, Prod.mk.injEq, Place.mem.injEq] at hloc
        obtain ⟨rfl, rfl, rfl⟩ := hloc
        obtain ⟨c', hc', hvo⟩ := hown
        have hsize : off1 + 0 * σ.size + σ.size ≤ row.size := by
          have : 1 * σ.size ≤ cap * σ.size := Nat.mul_le_mul_right _ (by omega)
          omega
        obtain ⟨w', k1, k2, k3, k4, k5, k6, k7⟩ := (hC.types T _ hT).storeVar (P := P) hrow hsize hvo.len hvo.one
        have hF : ∀ k, F k → w'.heap[k]? = w.heap[k]? := fun k hk => k3 k (fun e => (hi.sb r b1 hb1).2.2 (e ▸ hk))
        have hSt : ∀ u, u ≠ r → ∀ k, S u k → w'.heap[k]? = w.heap[k]? := fun u hu k hk => k3 k (fun e => hi.sd u r hu k hk (e ▸ hb1))
        have hvo' : Own F w' σ μ' (S t) c' y := hvo.congr hF (hSt t htr)
        have hi2 := hi.drop t
        have hdr : Go.Lf.drop env t r = env r := by
          unfold Go.Lf.drop
          rw [upd_ne _ _ (fun e => htr e.symm)]
          unfold kill killE
          rw [hr]; rfl
        have hnew : Own F w' (.slice σ) (.own μ') (fun k => k = b1 ∨ S t k) [.slice (some ⟨b1, off1, none⟩) 1 cap] [y] := by
          obtain ⟨g1, row0, row1, T0, g2, g3, g4, g5⟩ := k2
          rw [hrow] at g2
          injection g2 with g2
          injection g2 with g2 _ _
          subst g2
          refine ⟨_, cap, rfl, by rw [hc] at hcap; exact hcap, by simp [lim], .inr ⟨b1, off1, row1, T0, fun i => if i = 0 then S t else none', rfl, .inl rfl, g3, ?_, ?_, ?_, ?_, ?_⟩⟩
          · have : row1.size = row.size := by
              have := congrArg List.length g5
              simp only [Array.length_toList, List.length_append, List.length_take, List.length_drop, g1] at this
              omega
            rw [this]; exact hsz
          · intro i b hb
            by_cases h : i = 0
            · rw [if_pos h] at hb; exact .inr hb
            · rw [if_neg h] at hb; exact hb.elim
          · intro i hb
            by_cases h : i = 0
            · rw [if_pos h] at hb; exact hi.sd t r htr b1 hb hb1
            · rw [if_neg h] at hb; exact hb.elim
          · intro i j hij b h1 h2
            by_cases h : i = 0
            · by_cases h' : j = 0
              · exact hij (h.trans h'.symm)
              · rw [if_neg h'] at h2; exact h2.elim
            · rw [if_neg h] at h1; exact h1.elim
          · intro i x hix
            cases i with
            | succ i => simp at hix
            | zero =>
              simp only [List.getElem?_cons_zero, Option.some.injEq] at hix
              subst hix
              simp only [if_true]
              have : seg row1.toList (off1 + 0 * σ.size) σ.size = c' := by
                rw [g5]
                unfold seg
                rw [List.append_assoc, List.drop_append, List.drop_eq_nil_of_le (by rw [List.length_take]; omega), List.nil_append, List.length_take, Array.length_toList, Nat.min_eq_left (by omega), Nat.sub_self, List.drop_zero, List.take_append, List.take_of_length_le (by omega), g1, Nat.sub_self, List.take_zero, List.append_nil]
              rw [this]; exact hvo'
        have hset2 := hi2.setRoot (r := r) (by rw [hdr, hr]; rfl) (w' := w') (Sr := fun k => k = b1 ∨ S t k) (E := .own (.slice σ) (.own μ') [y]) rfl
          k5 k6 k7 (by omega) (fun k hk hH => k3 k (fun e => by subst e; exact (hi.sb r k hb1).1.elim (fun h => by omega) hH))
          (by
            rintro k (hk | ⟨u, hu, hk⟩)
            · exact hF k hk
            · by_cases h : u = t
              · simp [h] at hk; exact hk.elim
              · simp only [h, if_false] at hk; exact hSt u hu k hk)
          (by
            intro k hk
            have hk2 : ∃ u, (u = r ∨ u = t) ∧ S u k := by
              rcases hk with rfl | hk
              · exact ⟨r, .inl rfl, hb1⟩
              · exact ⟨t, .inr rfl, hk⟩
            obtain ⟨u, hu, hk2⟩ := hk2
            obtain ⟨q1, q2, q3⟩ := hi.sb u k hk2
            refine ⟨q1, by omega, q3, fun v hv hk3 => ?_⟩
            by_cases h : v = t
            · simp [h] at hk3; exact hk3
            · simp only [h, if_false] at hk3
              exact hi.sd v u (fun e => by rcases hu with rfl | rfl <;> contradiction) k hk3 hk2)
          (by
            simp only [EntOK, if_true]
            refine ⟨.val cs, _, cs, .inl ⟨rfl, rfl, rfl, hV⟩, rfl, ?_⟩
            rw [hcs, hc]; exact hnew)
        unfold Oper.wp
        have fin : (execOp a.eval o).run P w = .ok .skip w' := by
          simp [execOp, ho, Instr.storeAt, hv, Instr.sureAddr]
          rw [hc', show off1 = off1 + 0 * σ.size by omega, k1]; rfl
        rw [fin, Oper.upon_skip, hod]
        exact hK a w' ⟨F, _, hset2⟩
      · cases h
    · cases h
  · cases h

theorem storeT_ok (hC : CtxOK P C) (hi : Inv0 P C.np w0 F0 H env a w F S) {T : TypeId} {x z : Operand} {o : Oper} (ho : o.op = .store T x z) (hod : o.dst = none)
    {c : Prop} {st' : St} (h : storeT C env T (viewO env x) (viewO env z) = some (c, st')) {K : Act → World → Prop} {Q : Exit → Act → World → Prop} (hK : ∀ a' w', Inv P C.np w0 F0 H st' a' w' → K a' w') : o.wp P a w K Q := by
  have hx := viewO_ok hi x
  have hz := viewO_ok hi z
  unfold storeT at h
  split at h
  · rename_i al l hal hl
    obtain ⟨σ1, y1, μ1, pl1, S1, cs1, pl1', cs1', hB, hrd, hvz⟩ := sub?_ok hi hz hal
    obtain ⟨σ2, y2, μ2, pl, S0, cs, b, off, hA, hv⟩ := addr?_ok hi hx hl
    rw [hB.get, hB.mode, hA.get, hA.mode] at h
    simp only at h
    split at h
    · rename_i y hcast
      have hcd := castD_some hcast
      injection hcd with e1 e2
      subst e1; cases e2
      cases hb : (decide (look C.tys T = some σ1) && memN C.take al.r && nodupN [l.r, al.r])
      · rw [hb] at h; cases h
      rw [hb] at h
      simp only [Bool.and_eq_true, decide_eq_true_eq] at hb
      obtain ⟨⟨hT, _⟩, hn⟩ := hb
      simp only [cond_true] at h
      split at h
      · rename_i x' m' hset hmode
        simp only [Option.some.injEq, Prod.mk.injEq] at h
        obtain ⟨_, rfl⟩ := h
        have hm : μ1 = μ2 ∧ m' = l.m ∨ setM l.p l.τ l.m μ1 = some m' := by
          unfold modeS at hmode
          cases hd : decide (μ1 = μ2)
          · rw [hd] at hmode; exact .inr hmode
          · rw [hd] at hmode
            simp only [cond_true, Option.some.injEq] at hmode
            exact .inl ⟨of_decide_eq_true hd, hmode.symm⟩
        obtain ⟨cs2, S', f⟩ := hA.focus (fun b hb => (hi.sb _ b hb).2.2)
        obtain ⟨q1, q2, row, T0, q3, q4, q5⟩ := f.ok
        have hbS : S l.r b := (f.blk b rfl).elim (hA.root.sub b) hA.root.isB
        obtain ⟨cs3, S3, f3⟩ := hB.focus (fun b hb => (hi.sb _ b hb).2.2)
        have e3 := f3.ok.read.symm.trans hrd
        simp only [Option.some.injEq] at e3; subst e3
        have hown : OwnV F w σ1 μ1 S3 (a.eval z) y1 := ⟨_, hvz, f3.own⟩
        have hS3 : ∀ k, S3 k → S al.r k := fun k hk => hB.root.sub k (f3.sub k hk)
        obtain ⟨hnr, _⟩ := nodup_cons hn
        have hne : al.r ≠ l.r := fun e => hnr (by simp [e])
        have hdis : ∀ k, S3 k → ¬ S l.r k := fun k hk hr => hi.sd al.r l.r hne k (hS3 k hk) hr
        obtain ⟨w', g1, g2⟩ := store_core hC hi hT hA.root f.toPlug ⟨row, T0, q3, q4⟩ hown hn (fun k hk => ⟨fun h => hdis k hk (hA.root.sub k h.1), fun h => hdis k hk (hA.root.isB h), .inr ⟨al.r, by simp, hS3 k hk⟩, fun e => hdis k hk (e ▸ hbS)⟩) hset hm hA.get hA.mode hA.inr
        unfold Oper.wp
        have fin : (execOp a.eval o).run P w = .ok .skip w' := by
          simp [execOp, ho, Instr.storeAt, hv, Instr.sureAddr, g1]
        rw [fin, Oper.upon_skip, hod]
        exact hK a w' g2
      · cases h
    · cases h
  · cases h

/-- All of a region's tail. -/
def stpR (C : Ctx) (st : St) (o : Oper) : Option (Prop × St) :=
  match stpQ C st o with
  | some r => some r
  | none => match o.op with
    | .store T x v => bif isNone o.dst then (match storeO C st T (viewO st x) (viewO st v) with
      | some r => some r
      | none => storeT C st T (viewO st x) (viewO st v)) else none
    | _ => none

theorem stpR_ok (hC : CtxOK P C) : StpOK P C (stpR C) := by
  intro w0 F0 H env env' a w o c hi h hc K Q hK
  unfold stpR at h
  split at h
  · rename_i r hr
    simp only [Option.some.injEq] at h
    subst h
    exact stpQ_ok hC hi hr hc K Q hK
  · split at h
    · rename_i T x v hop
      obtain ⟨F, S, hi⟩ := hi
      cases hd : isNone o.dst
      · rw [hd] at h; cases h
      · rw [hd] at h
        simp only [cond_true] at h
        split at h
        · rename_i r hr
          simp only [Option.some.injEq] at h
          subst h
          exact storeO_ok hC hi hop (isNone_iff.1 hd) hr hc hK
        · exact storeT_ok hC hi hop (isNone_iff.1 hd) h hK
    · cases h
end
end Go.Lf
namespace Go.Lf
section
variable {P : Program} {C : Ctx} {ops : Array Oper} {Q : Exit → Act → World → Prop} {a : Act} {w w' : World} {o : Oper} {v : Value} {i : Nat} {rest : List Nat}

theorem ev_put {d : Nat} {t : Nat} (h : d < a.tmps.size) : (a.put (some d) v).eval (.tmp t) = if t = d then v else a.eval (.tmp t) := Act.getD_put h
theorem mv_run {x : Operand} (h : o.op = .move x ∨ o.op = .assign x) : (execOp a.eval o).run P w = .ok (.value (a.eval x)) w := by
  rcases h with h | h <;> simp [execOp, h]
theorem mv_eq {x : Operand} {u : Value} (h : o.op = .move x ∨ o.op = .assign x) (e : a.eval x = u) : (execOp a.eval o).run P w = .ok (.value u) w := by rw [mv_run h, e]
theorem ops_value (ho : ops[i]? = some o) (hg : o.guard = none) (hrun : (execOp a.eval o).run P w = .ok (.value v) w') (hK : wpOps P ops Q rest (a.put o.dst v) w') : wpOps P ops Q (i :: rest) a w := by
  rw [wpOps_cons]
  unfold wpOp
  have hw : Region.wanted o (yielded ops a.tmps) = true := by simp [Region.wanted, hg]
  simp only [ho, hw, if_true]
  refine .inl ?_
  unfold Oper.wp
  rw [hrun, Oper.upon_value]
  exact hK
theorem ops_skip (ho : ops[i]? = some o) (hg : o.guard = none) (hrun : (execOp a.eval o).run P w = .ok .skip w') (hd : o.dst = none) (hK : wpOps P ops Q rest a w') : wpOps P ops Q (i :: rest) a w := by
  rw [wpOps_cons]
  unfold wpOp
  have hw : Region.wanted o (yielded ops a.tmps) = true := by simp [Region.wanted, hg]
  simp only [ho, hw, if_true]
  refine .inl ?_
  unfold Oper.wp
  rw [hrun, Oper.upon_skip, hd]
  exact hK
theorem ops_nil (h : Q .normal a w) : wpOps P ops Q [] a w := by simpa [wpOps] using h
theorem run_cut (hC : CtxOK P C) {T : TypeId} {e : Ty} (hT : look C.tys T = some (.slice e)) {ao : Option Addr} {n cap : Nat} {lo hi mx : Option Value} {l h m : Int} (hl : lo = none ∧ l = 0 ∨ ∃ k, lo = some (.int k l)) (hh : hi = none ∧ mx = none ∧ h = n ∨ ∃ k, hi = some (.int k h))
    (hm : mx = none ∧ m = cap ∨ ∃ k, mx = some (.int k m)) (h0 : 0 ≤ l) (h1 : l ≤ h) (h2 : h ≤ m) (h3 : m ≤ cap) (w : World) :
    (Instr.sliceAt T (.slice ao n cap) lo hi mx).run P w = .ok (.slice (if m.toNat = l.toNat then ao else ao.map (·.add (l.toNat * e.size))) (h.toNat - l.toNat) (m.toNat - l.toNat)) w := by
  obtain ⟨E, t1, t2, t3⟩ := (hC.types T _ hT).slice
  have hs := (hC.types E _ t2).run_size w
  have hb := run_sliceBounds (P := P) (w := w) n cap lo hi mx l h m hl hh hm h0 h1 h2 h3
  simp [Instr.sliceAt, Instr.slice, run_underlying t1, hb, hs]
/-- Cells are stored in a row. -/
theorem run_cells {b off : Nat} {row : Array Value} {T0 : TypeId} (hr : w.heap[b]? = some (.cells row T0 (0, 0))) {cs : List Value} (ho : off + cs.length ≤ row.size) (h1 : ∀ v ∈ cs, v.oneCell' = true) :
    ∃ w', (storeCells ⟨b, off, none⟩ cs).run P w = .ok () w' ∧ w'.heap[b]? = some (.cells (row.toList.take off ++ cs ++ row.toList.drop (off + cs.length)).toArray T0 (0, 0)) ∧ (∀ k, k ≠ b → w'.heap[k]? = w.heap[k]?) ∧
      w'.heap.size = w.heap.size ∧ w'.os = w.os ∧ w'.tape = w.tape ∧ w'.output = w.output := by
  have hs := run_storeCells_at (P := P) b off T0 cs 0 row w hr (by omega) h1
  refine ⟨w.setRow b (row.toList.take (off + 0) ++ cs ++ row.toList.drop (off + 0 + cs.length)).toArray, ?_, ?_, ?_, ?_, rfl, rfl, rfl⟩
  · simpa using hs
  · simp [World.setRow, Array.getElem?_modify, hr]
  · intro k hk
    simp only [World.setRow, Array.getElem?_modify]
    rw [if_neg (Ne.symm hk)]
  · simp [World.setRow]
theorem run_len (hC : CtxOK P C) {T : TypeId} {e : Ty} (hT : look C.tys T = some (.slice e)) {x : Operand} (ho : o.op = .call { callee := .builtin .len, args := #[x], argTypes := #[T] }) {ao : Option Addr} {n cap : Nat} (hx : a.eval x = .slice ao n cap) (w : World) :
    (execOp a.eval o).run P w = .ok (.value (.int .i64 n)) w := by
  obtain ⟨E, t1, t2, t3⟩ := (hC.types T _ hT).slice
  have hv : (Builtin.len_ #[T] o.type #[a.eval x]).run P w = .ok (.int .i64 n) w := by rw [hx]; simp [Builtin.len_, run_underlying t1, goInt]
  simp only [execOp, ho, resolve, invoke, builtin, Sem.run_bind, Sem.run_pure, Result.andThen, List.map_toArray, List.map_cons, List.map_nil]
  rw [hv]
theorem run_sliceOp {T : TypeId} {x : Operand} {lo hi mx : Option Operand} (ho : o.op = .slice T x lo hi mx) {V : Value} (hV : a.eval x = V) {l h m : Option Value} (hl : lo.map a.eval = l) (hh : hi.map a.eval = h) (hm : mx.map a.eval = m)
    (hr : (Instr.sliceAt T V l h m).run P w = .ok v w) : (execOp a.eval o).run P w = .ok (.value v) w := by
  subst hl; subst hh; subst hm; subst hV
  simp [execOp, ho, hr]
theorem run_appendOp {T T2 : TypeId} {x y : Operand} (ho : o.op = .call { callee := .builtin .append, args := #[x, y], argTypes := #[T, T2] }) {X Y : Value} (hx : a.eval x = X) (hy : a.eval y = Y)
    (hr : (Builtin.append_ #[T, T2] o.type #[X, Y]).run P w = .ok v w') : (execOp a.eval o).run P w = .ok (.value v) w' := by
  subst hx; subst hy
  simp only [execOp, ho, resolve, invoke, builtin, Sem.run_bind, Sem.run_pure, Result.andThen, List.map_toArray, List.map_cons, List.map_nil]
  rw [hr]
theorem run_clearOp {T : TypeId} {x : Operand} (ho : o.op = .call { callee := .builtin .clear, args := #[x], argTypes := #[T] }) {X : Value} (hx : a.eval x = X)
    (hr : (Builtin.clear_ #[T] o.type #[X]).run P w = .ok v w') : (execOp a.eval o).run P w = .ok (.value v) w' := by
  subst hx
  simp only [execOp, ho, resolve, invoke, builtin, Sem.run_bind, Sem.run_pure, Result.andThen, List.map_toArray, List.map_cons, List.map_nil]
  rw [hr]
theorem zeros_one {e : Ty} (n : Nat) : ∀ v ∈ (Builtin.zeroCells e.zero.toArray n).toList, v.oneCell' = true := by
  intro v hv
  have hz := Own.zero none' (default : World) e .shr none'
  simp only [Builtin.zeroCells, Array.toList_map, List.mem_map] at hv
  obtain ⟨i, hi, rfl⟩ := hv
  by_cases h : e.zero.length = 0
  · have : e.zero = [] := List.length_eq_zero_iff.1 h
    rw [this] at hi ⊢
    simp at hi
  · refine hz.one _ ?_
    have hlt : i % e.zero.toArray.size < e.zero.toArray.size := Nat.mod_lt _ (by simp; omega)
    rw [getElem!_pos e.zero.toArray _ hlt]
    simp
theorem run_clear (hC : CtxOK P C) {T ty : TypeId} {e : Ty} (hT : look C.tys T = some (.slice e)) {b off n cap : Nat} {row : Array Value} {T0 : TypeId} (hr : w.heap[b]? = some (.cells row T0 (0, 0))) (ho : off + n * e.size ≤ row.size) (hn : 0 < n) :
    ∃ w' zs, (Builtin.clear_ #[T] ty #[.slice (some ⟨b, off, none⟩) n cap]).run P w = .ok (.tuple #[]) w' ∧ w'.heap[b]? = some (.cells (row.toList.take off ++ zs ++ row.toList.drop (off + zs.length)).toArray T0 (0, 0)) ∧ zs.length = n * e.size ∧
      (∀ k, k ≠ b → w'.heap[k]? = w.heap[k]?) ∧ w'.heap.size = w.heap.size ∧ w'.os = w.os ∧ w'.tape = w.tape ∧ w'.output = w.output := by
  obtain ⟨E, t1, t2, t3⟩ := (hC.types T _ hT).slice
  obtain ⟨i, dd, q1, q2, q3, q4, q5, q6⟩ := hC.types E _ t2
  have hz := Own.zero none' w e .shr none'
  have hzc := slotv_cells hz.len hz.one
  have hl : (Builtin.zeroCells e.zero.toArray n).toList.length = n * e.size := by simp [Builtin.zeroCells, hz.len]
  obtain ⟨w', k1, k2, k3, k4, k5, k6, k7⟩ := run_cells (P := P) (off := off) hr (cs := (Builtin.zeroCells e.zero.toArray n).toList) (by rw [hl]; exact ho) (zeros_one n)
  refine ⟨w', (Builtin.zeroCells e.zero.toArray n).toList, ?_, k2, hl, k3, k4, k5, k6, k7⟩
  obtain ⟨m, rfl⟩ : ∃ m, n = m + 1 := ⟨n - 1, by omega⟩
  simp only [Builtin.clear_, List.getElem?_toArray, List.getElem?_cons_zero, Sem.run_bind, run_underlying t1, Result.andThen, zeroValue, typeInfo, run_program, q1, q5, Sem.run_pure, hzc, k1]
theorem ret_one {fn : Func} {R : Ending → World → Prop} {t : Nat} (hf : fn.results.toList = [.tmp t]) (hd : a.defers = []) (hv : a.eval (.tmp t) = v) (hR : R (.returned v) w) : Code.ret.wp P (bodyPost P fn R) a w := by
  refine wp_ret ⟨hd, v, ?_, hR⟩
  rw [results_run (vs := [v])]
  · rfl
  · rw [hf]
    simp only [List.mapM_cons, List.mapM_nil, resG, Sem.run_bind, Sem.run_pure, Result.andThen]
    have hv : a.tmps.getD t undef = v := hv
    rw [hv]
theorem run_cell (hC : CtxOK P C) {F : NSet} {T : TypeId} {τ : Ty} (hT : look C.tys T = some τ) (hs : τ.size = 1) {x : Operand} (ho : o.op = .load T x) {u c : Value} (hx : a.eval x = u) (hc : CellAt F w u c) (hsl : slotv τ [c] = c) :
    (execOp a.eval o).run P w = .ok (.value c) w := by
  obtain ⟨b, off, row, T0, fr, rfl, h2, h3, h4⟩ := hc
  have hlt : off < row.size := (Array.getElem?_eq_some_iff.1 h4).1
  have hl := (hC.types T _ hT).loadVar (P := P) h3 (show off + τ.size ≤ row.size by rw [hs]; exact hlt)
  have e1 : seg row.toList off τ.size = [c] := by
    rw [hs]
    unfold seg
    rw [List.drop_eq_getElem_cons (by simpa using hlt)]
    have : row[off] = c := (Array.getElem?_eq_some_iff.1 h4).2
    simp [this]
  rw [e1, hsl] at hl
  simp [execOp, ho, Instr.loadAt, hx, Instr.sureAddr, hl]
theorem ops_call {R : Ending → World → Prop} {f : FuncId} {args : Array Value} (ho : ops[i]? = some o) (hg : o.guard = none) (hrun : (execOp a.eval o).run P w = .ok (.enter f args) w) (hcall : Calls P f args w R)
    (hK : ∀ e w', R e w' → ∃ v, e = .returned v ∧ wpOps P ops Q rest (a.put o.dst v) w') : wpOps P ops Q (i :: rest) a w := by
  rw [wpOps_cons]
  unfold wpOp
  have hw : Region.wanted o (yielded ops a.tmps) = true := by simp [Region.wanted, hg]
  simp only [ho, hw, if_true]
  refine .inl ?_
  unfold Oper.wp
  rw [hrun, Oper.upon_enter]
  refine hcall.mono ?_
  intro e w' h
  obtain ⟨v, rfl, hh⟩ := hK e w' h
  exact hh
theorem run_call {f : FuncId} {args : Array Operand} {ts : Array TypeId} (ho : o.op = .call { callee := .value (.func f), args, argTypes := ts }) (hf : FnDef P f) {vs : List Value} (hv : args.toList.map a.eval = vs) : (execOp a.eval o).run P w = .ok (.enter f vs.toArray) w := by
  simp only [execOp, ho, resolve, Sem.run_bind, Act.eval, Deferred.ofValue, Sem.run_pure, Result.andThen, invoke]
  have := hf vs.toArray w
  rw [← this]
  congr 1
  congr 1
  apply Array.ext'
  simp [← hv]
end
end Go.Lf
namespace Go.User
open Go.Lf Go.Proofs

theorem seg_mid {A B D : List Value} {o n k : Nat} (hA : A.length = k) (h : o + n ≤ k) : seg (A ++ B ++ D) o n = seg A o n := by
  unfold seg
  rw [List.append_assoc, List.drop_append_of_le_length (by omega), List.take_append_of_le_length (by rw [List.length_drop]; omega)]
theorem seg_take {A : List Value} {o n k : Nat} (h : o + n ≤ k) : seg (A.take k) o n = seg A o n := by
  unfold seg
  rw [List.drop_take, List.take_take, Nat.min_eq_left (by omega)]
theorem seg_in {A B D : List Value} {o n k : Nat} (hA : A.length = k) (h1 : k ≤ o) (h2 : o + n ≤ k + B.length) : seg (A ++ B ++ D) o n = seg B (o - k) n := by
  unfold seg
  rw [List.append_assoc, List.drop_append, List.drop_eq_nil_of_le (by omega), List.nil_append, hA, List.drop_append_of_le_length (by omega), List.take_append_of_le_length (by rw [List.length_drop]; omega)]
theorem seg_seg' {A : List Value} {o m p n : Nat} (h : p + n ≤ m) : seg (seg A o m) p n = seg A (o + p) n := by
  unfold seg
  rw [List.drop_take, List.take_take, Nat.min_eq_left (by omega), List.drop_drop]

theorem start_ev {vs : List Value} {k t : Nat} {v : Value} (h : vs[t]? = some v) : ({ tmps := vs.toArray ++ Array.replicate k undef, defers := [] } : Act).eval (.tmp t) = v := by
  have hlt : t < vs.length := (List.getElem?_eq_some_iff.1 h).1
  show (vs.toArray ++ Array.replicate k undef).getD t undef = v
  rw [Array.getD_eq_getD_getElem?, Array.getElem?_append_left (by simpa using hlt)]
  simp only [List.getElem?_toArray, h, Option.getD_some]

/-- A slice, two numbers in the first three slots. -/
structure DelAt (a : Act) (v : Value) (i j : Int) : Prop where
  size : a.tmps.size = 33
  dfs : a.defers = []
  e0 : a.eval (.tmp 0) = v
  e1 : a.eval (.tmp 1) = .int .i64 i
  e2 : a.eval (.tmp 2) = .int .i64 j
theorem DelAt.put {a : Act} {v : Value} {i j : Int} (h : DelAt a v i j) {d : Nat} (u : Value) (hd : d < 33) (hd3 : 3 ≤ d) : DelAt (a.put (some d) u) v i j := by
  have hs : d < a.tmps.size := by rw [h.size]; exact hd
  exact ⟨by rw [Act.size_put]; exact h.size, by rw [Act.defers_put]; exact h.dfs, by rw [ev_put hs, if_neg (by omega)]; exact h.e0, by rw [ev_put hs, if_neg (by omega)]; exact h.e1, by rw [ev_put hs, if_neg (by omega)]; exact h.e2⟩

theorem ev_none {a : Act} {v : Value} {x : Operand} : (a.put none v).eval x = a.eval x := rfl
theorem run_eqlOp {P : Program} {a : Act} {o : Oper} {x y : Operand} (ho : o.op = .binOp .eql 3 x y 3) {i j : Nat} (hx : a.eval x = .int .i64 i) (hy : a.eval y = .int .i64 j) (hn : i ≠ j) (w : World) : (execOp a.eval o).run P w = .ok (.value (.bool false)) w := by
  have : ¬ ((i : Int) = (j : Int)) := by omega
  simp [execOp, ho, hx, hy, eqGuard, binOp, Op.equal, Op.equalIn, Op.intCmp, this]
theorem AnyAt {P : Program} {ops : Array Oper} {Q : Exit → Act → World → Prop} {i : Nat} {o : Oper} {v : Value} {fuel : Nat} {listed : Array Bool} {a : Act} {w : World} (hi : ops[i]? = some o) (hg : o.guard = none)
    (hs : Region.noSelect ops = true) (hf : Region.free .any ops listed i = true) (hr : (Region.ready .any ops listed).contains i = true) (hQ : ∀ c a w, Q (.panic c) (a.put o.dst v) w → Q (.panic c) a w)
    (hv : ∀ w, (execOp a.eval o).run P w = .ok (.value v) w) (h : wpAny P .any ops Q fuel (listed.setIfInBounds i true) (a.put o.dst v) w) : wpAny P .any ops Q (fuel + 1) listed a w :=
  wpAny_take hi hs hf hr hQ (.inl ⟨by simp [Region.wanted, hg], hv⟩) h
theorem AnyOne {P : Program} {ops : Array Oper} {Q : Exit → Act → World → Prop} {i : Nat} {o : Oper} {v : Value} {fuel : Nat} {listed : Array Bool} {a : Act} {w w' : World} (hi : ops[i]? = some o) (hg : o.guard = none)
    (hr : Region.ready .any ops listed = [i]) (hv : (execOp a.eval o).run P w = .ok (.value v) w') (h : wpAny P .any ops Q fuel (listed.setIfInBounds i true) (a.put o.dst v) w') : wpAny P .any ops Q (fuel + 1) listed a w := by
  refine wpAny_all hr (by simp) ?_
  intro k hk
  rw [List.mem_singleton] at hk
  subst hk
  unfold wpOp
  have hw : Region.wanted o (yielded ops a.tmps) = true := by simp [Region.wanted, hg]
  simp only [hi, hw, if_true]
  refine .inl ?_
  unfold Oper.wp
  rw [hv, Oper.upon_value]
  exact h

set_option maxRecDepth 10000 in
theorem del_code {R : Ending → World → Prop} {a : Act} {w : World} {b off n cap i j : Nat} {row : Array Value} {T0 : TypeId} (h : DelAt a (.slice (some ⟨b, off, none⟩) n cap) i j) {c : Code} (hc : Try.f56.body = some c)
    (h1 : i < j) (h2 : j ≤ n) (h3 : n ≤ cap) (h4 : n ≤ 1000000) (hrow : w.heap[b]? = some (.cells row T0 (0, 0))) (hsz : off + cap * 4 ≤ row.size) (hone : ∀ v ∈ seg row.toList off (n * 4), v.oneCell' = true)
    (hR : ∀ (w' : World) (row' : Array Value), w'.os = w.os → w'.tape = w.tape → w'.output = w.output → w'.heap.size = w.heap.size → (∀ k, k ≠ b → w'.heap[k]? = w.heap[k]?) → w'.heap[b]? = some (.cells row' T0 (0, 0)) → row'.size = row.size →
      (∀ k, k < i + (n - j) → seg row'.toList (off + k * 4) 4 = seg row.toList (off + (if k < i then k else k - i + j) * 4) 4) → R (.returned (.slice (some ⟨b, off, none⟩) (i + (n - j)) cap)) w') : c.wp Try.prog (bodyPost Try.prog Try.f56 R) a w := by
  have hC : CtxOK Try.prog (mkC 33 []) := okA fns_nil
  have hT : Lf.look (mkC 33 []).tys 38 = some (.slice tW) := by kernel_rfl
  have hT41 : Lf.look (mkC 33 []).tys 41 = some tW := by kernel_rfl
  injection (show some _ = some c from hc) with hc
  subst hc
  have cutA : ∀ w, (Instr.sliceAt 38 (.slice (some ⟨b, off, none⟩) n cap) none (some (.int .i64 i)) none).run Try.prog w = .ok (.slice (some ⟨b, off, none⟩) i cap) w := by
    intro w
    have := run_cut (P := Try.prog) (ao := some ⟨b, off, none⟩) (n := n) (cap := cap) (lo := none) (hi := some (.int .i64 i)) (mx := none) (l := 0) (h := i) (m := cap) hC hT (.inl ⟨rfl, rfl⟩) (.inr ⟨_, rfl⟩) (.inl ⟨rfl, rfl⟩) (by omega) (by omega) (by omega) (by omega) w
    rw [this]
    have : cap ≠ 0 := by omega
    simp [add_mk, this]
  obtain ⟨W2, hW2, cutB⟩ : ∃ W2, (∃ ao, W2 = Value.slice (some ao) (n - j) (cap - j) ∧ ∃ o', ao = ⟨b, o', none⟩ ∧ (n - j = 0 ∨ o' = off + j * 4) ∧ o' ≤ off + cap * 4) ∧ ∀ w, (Instr.sliceAt 38 (.slice (some ⟨b, off, none⟩) n cap) (some (.int .i64 j)) none none).run Try.prog w = .ok W2 w := by
    refine ⟨_, ?_, fun w => run_cut (P := Try.prog) (ao := some ⟨b, off, none⟩) (n := n) (cap := cap) (lo := some (.int .i64 j)) (hi := none) (mx := none) (l := j) (h := n) (m := cap) hC hT (.inr ⟨_, rfl⟩) (.inl ⟨rfl, rfl, rfl⟩) (.inl ⟨rfl, rfl⟩) (by omega) (by omega) (by omega) (by omega) w⟩
    by_cases hcj : cap = j
    · refine ⟨⟨b, off, none⟩, ?_, off, rfl, .inl (by omega), by omega⟩
      simp [hcj]
    · refine ⟨⟨b, off + j * 4, none⟩, ?_, _, rfl, .inr rfl, by omega⟩
      have : (cap : Int).toNat ≠ (j : Int).toNat := by omega
      rw [if_neg this]
      simp [add_mk, show tW.size = 4 from rfl]
  -- region 0
  refine wp_seq (wp_region (ops_value rfl rfl (mv_run (.inr rfl)) (ops_nil ?_)))
  -- region 1
  refine wp_seq (wp_region ?_)
  refine ops_value (v := (.slice (some ⟨b, off, none⟩) n cap)) rfl rfl (mv_eq (.inl rfl) (by simp [ev_put, Act.size_put, h.size, h.e0, h.e1, h.e2])) ?_
  refine ops_value (v := (.int .i64 i)) rfl rfl (mv_eq (.inl rfl) (by simp [ev_put, Act.size_put, h.size, h.e0, h.e1, h.e2])) ?_
  refine ops_value (v := (.int .i64 j)) rfl rfl (mv_eq (.inl rfl) (by simp [ev_put, Act.size_put, h.size, h.e0, h.e1, h.e2])) ?_
  refine ops_value (v := (.slice (some ⟨b, off, none⟩) n cap)) rfl rfl (mv_eq (.inl rfl) (by simp [ev_put, Act.size_put, h.size, h.e0, h.e1, h.e2])) ?_
  refine ops_value rfl rfl (run_len (ao := some ⟨b, off, none⟩) (n := n) (cap := cap) hC hT rfl (by simp [ev_put, Act.size_put, h.size, h.e0, h.e1, h.e2]) _) ?_
  refine ops_value rfl rfl (run_sliceOp (V := (.slice (some ⟨b, off, none⟩) n cap)) (l := some (.int .i64 i)) (h := some (.int .i64 j)) (m := some (.int .i64 n)) rfl (by simp [ev_put, Act.size_put, h.size, h.e0, h.e1, h.e2]) (by simp [ev_put, Act.size_put, h.size, h.e0, h.e1, h.e2]) (by simp [ev_put, Act.size_put, h.size, h.e0, h.e1, h.e2]) (by simp [ev_put, Act.size_put, h.size, h.e0, h.e1, h.e2]) (run_cut (l := i) (h := j) (m := n) hC hT (.inr ⟨_, rfl⟩) (.inr ⟨_, rfl⟩) (.inr ⟨_, rfl⟩) (by omega) (by omega) (by omega) (by omega) _)) (ops_nil ?_)
  -- region 2
  refine wp_seq (wp_seq (wp_region ?_))
  refine ops_value (v := (.int .i64 i)) rfl rfl (mv_eq (.inl rfl) (by simp [ev_put, Act.size_put, h.size, h.e0, h.e1, h.e2])) ?_
  refine ops_value (v := (.int .i64 j)) rfl rfl (mv_eq (.inl rfl) (by simp [ev_put, Act.size_put, h.size, h.e0, h.e1, h.e2])) ?_
  refine ops_value (v := .bool false) rfl rfl (run_eqlOp (i := i) (j := j) rfl (by simp [ev_put, Act.size_put, h.size, h.e0, h.e1, h.e2]) (by simp [ev_put, Act.size_put, h.size, h.e0, h.e1, h.e2]) (by omega) _) (ops_nil ?_)
  refine wp_cond (t := false) (by simp [ev_put, Act.size_put, h.size, h.e0, h.e1, h.e2]) (wp_skip ?_)
  -- region 4
  refine wp_seq (wp_region ?_)
  refine ops_value (v := (.slice (some ⟨b, off, none⟩) n cap)) rfl rfl (mv_eq (.inl rfl) (by simp [ev_put, Act.size_put, h.size, h.e0, h.e1, h.e2])) ?_
  refine ops_value rfl rfl (run_len (ao := some ⟨b, off, none⟩) (n := n) (cap := cap) hC hT rfl (by simp [ev_put, Act.size_put, h.size, h.e0, h.e1, h.e2]) _) ?_
  refine ops_value (v := (.int .i64 n)) rfl rfl (mv_eq (.inr rfl) (by simp [ev_put, Act.size_put, h.size, h.e0, h.e1, h.e2])) (ops_nil ?_)
  -- region 5
  refine wp_seq (wp_region_any hC.mixed ?_)
  refine AnyAt (i := 0) (v := (.slice (some ⟨b, off, none⟩) n cap)) rfl rfl (by kernel_rfl) (by kernel_rfl) (by kernel_rfl) (fun _ _ _ h => h) (fun w => mv_eq (.inl rfl) (by simp [ev_put, Act.size_put, h.size, h.e0, h.e1, h.e2])) ?_
  refine AnyAt (i := 1) (v := (.int .i64 i)) rfl rfl (by kernel_rfl) (by kernel_rfl) (by kernel_rfl) (fun _ _ _ h => h) (fun w => mv_eq (.inl rfl) (by simp [ev_put, Act.size_put, h.size, h.e0, h.e1, h.e2])) ?_
  refine AnyAt (i := 2) (v := (.slice (some ⟨b, off, none⟩) i cap)) rfl rfl (by kernel_rfl) (by kernel_rfl) (by kernel_rfl) (fun _ _ _ h => h) (fun w => run_sliceOp (V := (.slice (some ⟨b, off, none⟩) n cap)) (l := none) (h := some (.int .i64 i)) (m := none) rfl (by simp [ev_put, Act.size_put, h.size, h.e0, h.e1, h.e2]) rfl (by simp [ev_put, Act.size_put, h.size, h.e0, h.e1, h.e2]) rfl (cutA w)) ?_
  refine AnyAt (i := 3) (v := (.slice (some ⟨b, off, none⟩) n cap)) rfl rfl (by kernel_rfl) (by kernel_rfl) (by kernel_rfl) (fun _ _ _ h => h) (fun w => mv_eq (.inl rfl) (by simp [ev_put, Act.size_put, h.size, h.e0, h.e1, h.e2])) ?_
  refine AnyAt (i := 4) (v := (.int .i64 j)) rfl rfl (by kernel_rfl) (by kernel_rfl) (by kernel_rfl) (fun _ _ _ h => h) (fun w => mv_eq (.inl rfl) (by simp [ev_put, Act.size_put, h.size, h.e0, h.e1, h.e2])) ?_
  refine AnyAt (i := 5) (v := W2) rfl rfl (by kernel_rfl) (by kernel_rfl) (by kernel_rfl) (fun _ _ _ h => h) (fun w => run_sliceOp (V := (.slice (some ⟨b, off, none⟩) n cap)) (l := some (.int .i64 j)) (h := none) (m := none) rfl (by simp [ev_put, Act.size_put, h.size, h.e0, h.e1, h.e2]) (by simp [ev_put, Act.size_put, h.size, h.e0, h.e1, h.e2]) rfl rfl (cutB w)) ?_
  obtain ⟨⟨b2, o2, f2⟩, hW, o', hao, ho', ho2⟩ := hW2
  injection hao with e1 e2 e3
  subst e1; subst e2; subst e3
  subst hW
  have hlt : off + i * 4 + (n - j) * 4 ≤ row.size := by
    have : (i + (n - j)) * 4 ≤ cap * 4 := Nat.mul_le_mul_right _ (by omega)
    omega
  have hsrc : o2 + (n - j) * 4 ≤ row.size := by
    rcases ho' with h0 | h0
    · rw [h0]; omega
    · have : (j + (n - j)) * 4 ≤ cap * 4 := Nat.mul_le_mul_right _ (by omega)
      omega
  have hap := (run_append_gen (P := Try.prog) (w := { w with drawn := w.drawn + 1 }) (ty := 38) hC hT hT (ao := some ⟨b2, off, none⟩) (sLen := i) (sCap := cap) (olds := seg row.toList off (i * 4)) (ax := some ⟨b2, o2, none⟩) (n := n - j) (cx := cap - j) (news := seg row.toList o2 ((n - j) * 4))
    (fun w' hw' => firstCells_row (by rw [hw']; exact hrow) (show off + i * 4 ≤ row.size by omega)) (fun w' hw' => firstCells_row (by rw [hw']; exact hrow) (show o2 + (n - j) * 4 ≤ row.size from hsrc)) (by rw [maxNew_eq]; omega)).1 (by omega)
  have hnl : (seg row.toList o2 ((n - j) * 4)).length = (n - j) * 4 := seg_len _ _ _ (by simpa using hsrc)
  have hn1 : ∀ v ∈ seg row.toList o2 ((n - j) * 4), v.oneCell' = true := by
    rcases ho' with h0 | h0
    · rw [h0]; intro v hv; simp [seg] at hv
    · subst h0
      have : seg row.toList (off + j * 4) ((n - j) * 4) = seg (seg row.toList off (n * 4)) (j * 4) ((n - j) * 4) := (seg_seg' (by omega)).symm
      rw [this]
      intro v hv
      exact hone v (List.mem_of_mem_drop (List.mem_of_mem_take hv))
  obtain ⟨w1, k1, k2, k3, k4, k5, k6, k7⟩ := run_cells (P := Try.prog) (w := { w with drawn := w.drawn + 1 }) (b := b2) (off := off + i * 4) (row := row) (T0 := T0) hrow (cs := seg row.toList o2 ((n - j) * 4)) (by rw [hnl]; exact hlt) hn1
  have hap2 : (Builtin.append_ #[38, 38] 38 #[.slice (some ⟨b2, off, none⟩) i cap, .slice (some ⟨b2, o2, none⟩) (n - j) (cap - j)]).run Try.prog { w with drawn := w.drawn + 1 } = .ok (.slice (some ⟨b2, off, none⟩) (i + (n - j)) cap) w1 := by
    rw [hap]
    unfold appFit
    simp only [add_mk]
    show ((storeCells ⟨b2, off + i * 4, none⟩ (seg row.toList o2 ((n - j) * 4))).run Try.prog { w with drawn := w.drawn + 1 }).andThen (fun _ w' => Result.ok (Value.slice (some ⟨b2, off, none⟩) (i + (n - j)) cap) w') = _
    rw [k1]; rfl
  refine AnyOne (i := 6) rfl rfl (by kernel_rfl) (run_appendOp rfl (by simp [ev_put, Act.size_put, h.size, h.e0, h.e1, h.e2]) (by simp [ev_put, Act.size_put, h.size, h.e0, h.e1, h.e2]) hap2) ?_
  refine AnyOne (i := 7) (v := (.slice (some ⟨b2, off, none⟩) (i + (n - j)) cap)) rfl rfl (by kernel_rfl) (mv_eq (.inr rfl) (by simp [ev_put, Act.size_put, h.size, h.e0, h.e1, h.e2])) ?_
  refine wpAny_done (by kernel_rfl) ?_ _
  -- region 6
  generalize hr1 : (row.toList.take (off + i * 4) ++ seg row.toList o2 ((n - j) * 4) ++ row.toList.drop (off + i * 4 + (seg row.toList o2 ((n - j) * 4)).length)).toArray = row1 at k2
  have hl1 : row1.size = row.size := by
    rw [← hr1]
    simp only [List.size_toArray, List.length_append, List.length_take, List.length_drop, Array.length_toList, hnl]
    omega
  have cutC : ∀ w, (Instr.sliceAt 38 (.slice (some ⟨b2, off, none⟩) (i + (n - j)) cap) (some (.int .i64 ((i + (n - j) : Nat) : Int))) (some (.int .i64 n)) none).run Try.prog w = .ok (.slice (some ⟨b2, off + (i + (n - j)) * 4, none⟩) (n - (i + (n - j))) (cap - (i + (n - j)))) w := by
    intro w
    have := run_cut (P := Try.prog) (ao := some ⟨b2, off, none⟩) (n := i + (n - j)) (cap := cap) (lo := some (.int .i64 ((i + (n - j) : Nat) : Int))) (hi := some (.int .i64 n)) (mx := none) (l := ((i + (n - j) : Nat) : Int)) (h := n) (m := cap) hC hT (.inr ⟨_, rfl⟩) (.inr ⟨_, rfl⟩) (.inl ⟨rfl, rfl⟩) (by omega) (by omega) (by omega) (by omega) w
    rw [this]
    have : ((cap : Nat) : Int).toNat ≠ ((i + (n - j) : Nat) : Int).toNat := by omega
    rw [if_neg this]
    simp only [Int.toNat_natCast, Option.map_some, add_mk]
    rfl
  refine wp_seq (wp_region ?_)
  refine ops_value (v := (.slice (some ⟨b2, off, none⟩) (i + (n - j)) cap)) rfl rfl (mv_eq (.inl rfl) (by simp [ev_put, Act.size_put, h.size, h.e0, h.e1, h.e2])) ?_
  refine ops_value (v := (.slice (some ⟨b2, off, none⟩) (i + (n - j)) cap)) rfl rfl (mv_eq (.inl rfl) (by simp [ev_put, Act.size_put, h.size, h.e0, h.e1, h.e2])) ?_
  refine ops_value rfl rfl (run_len (ao := some ⟨b2, off, none⟩) (n := i + (n - j)) (cap := cap) hC hT rfl (by simp [ev_put, Act.size_put, h.size, h.e0, h.e1, h.e2]) _) ?_
  refine ops_value (v := (.int .i64 n)) rfl rfl (mv_eq (.inl rfl) (by simp [ev_put, Act.size_put, h.size, h.e0, h.e1, h.e2])) ?_
  refine ops_value rfl rfl (run_sliceOp (V := (.slice (some ⟨b2, off, none⟩) (i + (n - j)) cap)) (l := some (.int .i64 ((i + (n - j) : Nat) : Int))) (h := some (.int .i64 n)) (m := none) rfl (by simp [ev_put, Act.size_put, h.size, h.e0, h.e1, h.e2]) (by simp [ev_put, Act.size_put, h.size, h.e0, h.e1, h.e2]) (by simp [ev_put, Act.size_put, h.size, h.e0, h.e1, h.e2]) rfl (cutC _)) ?_
  obtain ⟨w2, zs, m1, m2, m3, m4, m5, m6, m7, m8⟩ := run_clear (P := Try.prog) (w := w1) (ty := 0) hC hT (b := b2) (off := off + (i + (n - j)) * 4) (n := n - (i + (n - j))) (cap := cap - (i + (n - j))) (row := row1) (T0 := T0) k2 (by
    rw [hl1]
    show off + (i + (n - j)) * 4 + (n - (i + (n - j))) * 4 ≤ row.size
    have : n * 4 ≤ cap * 4 := Nat.mul_le_mul_right _ h3
    omega) (by omega)
  refine ops_value rfl rfl (run_clearOp rfl (by simp [ev_put, Act.size_put, h.size, h.e0, h.e1, h.e2]) m1) (ops_nil ?_)
  -- region 7
  refine wp_seq (wp_region ?_)
  refine ops_value (v := (.slice (some ⟨b2, off, none⟩) (i + (n - j)) cap)) rfl rfl (mv_eq (.inl rfl) (by simp [ev_put, ev_none, Act.size_put, h.size, h.e0, h.e1, h.e2])) ?_
  refine ops_value (v := (.slice (some ⟨b2, off, none⟩) (i + (n - j)) cap)) rfl rfl (mv_eq (.inr rfl) (by simp [ev_put, ev_none, Act.size_put, h.size, h.e0, h.e1, h.e2])) (ops_nil ?_)
  refine ret_one (t := 6) (v := (.slice (some ⟨b2, off, none⟩) (i + (n - j)) cap)) (by kernel_rfl) (by simp [Act.defers_put, h.dfs]) (by simp [ev_put, ev_none, Act.size_put, h.size, h.e0, h.e1, h.e2]) ?_
  · have hlen : off + (i + (n - j)) * 4 ≤ row.size := by
      have : (i + (n - j)) * 4 ≤ cap * 4 := Nat.mul_le_mul_right _ (by omega)
      omega
    have hzl : off + (i + (n - j)) * 4 + zs.length ≤ row.size := by
      rw [m3]
      show off + (i + (n - j)) * 4 + (n - (i + (n - j))) * 4 ≤ row.size
      have : n * 4 ≤ cap * 4 := Nat.mul_le_mul_right _ h3
      omega
    refine hR w2 _ (m6.trans k5) (m7.trans k6) (m8.trans k7) (m5.trans k4) (fun k hk => (m4 k hk).trans (k3 k hk)) m2 ?_ ?_
    · simp only [List.size_toArray, List.length_append, List.length_take, List.length_drop, Array.length_toList, hl1]
      omega
    · intro k hk
      have ek : off + k * 4 + 4 ≤ off + (i + (n - j)) * 4 := by
        have : (k + 1) * 4 ≤ (i + (n - j)) * 4 := Nat.mul_le_mul_right _ hk
        omega
      show seg (row1.toList.take (off + (i + (n - j)) * 4) ++ zs ++ _) (off + k * 4) 4 = _
      rw [seg_mid (k := off + (i + (n - j)) * 4) (by rw [List.length_take, Array.length_toList, hl1]; omega) ek, seg_take ek, ← hr1]
      show seg (row.toList.take (off + i * 4) ++ seg row.toList o2 ((n - j) * 4) ++ _) (off + k * 4) 4 = _
      by_cases hki : k < i
      · have ek2 : off + k * 4 + 4 ≤ off + i * 4 := by
          have : (k + 1) * 4 ≤ i * 4 := Nat.mul_le_mul_right _ hki
          omega
        rw [seg_mid (k := off + i * 4) (by rw [List.length_take, Array.length_toList]; omega) ek2, seg_take ek2, if_pos hki]
      · have ek3 : i * 4 ≤ k * 4 := Nat.mul_le_mul_right _ (by omega)
        rw [seg_in (k := off + i * 4) (by rw [List.length_take, Array.length_toList]; omega) (by omega) (by rw [hnl]; omega), seg_seg' (by omega), if_neg hki]
        have : o2 = off + j * 4 := by
          rcases ho' with h0 | h0
          · omega
          · exact h0
        rw [this]
        congr 1
        have : (k - i + j) * 4 = k * 4 - i * 4 + j * 4 := by rw [Nat.add_mul, Nat.sub_mul]
        omega

theorem ok56 : IOk Try.prog 56 S56 := by
  refine ⟨Try.call56, ?_⟩
  intro w F S0 v x vs y hF hS0 hv ha hp
  obtain ⟨i, j, u⟩ := y
  change Int at i
  change Int at j
  change List tW.den at x
  obtain ⟨cs, rfl, hown⟩ := hv
  obtain ⟨ao, cap, rfl, hcap, hlim, hm⟩ := hown
  obtain ⟨v1, r1, rfl, h1, v2, r2, rfl, h2, h3⟩ := ha
  have h3 : r2 = [] := h3
  subst h3
  obtain ⟨c1, rfl, h1⟩ := h1
  obtain ⟨rfl, g1, g1'⟩ : c1 = [.int .i64 i] ∧ IntKind.i64.min ≤ i ∧ i ≤ IntKind.i64.max := h1
  obtain ⟨c2, rfl, h2⟩ := h2
  obtain ⟨rfl, g2, g2'⟩ : c2 = [.int .i64 j] ∧ IntKind.i64.min ≤ j ∧ j ≤ IntKind.i64.max := h2
  obtain ⟨p1, p2, p3, p4⟩ : 0 ≤ i ∧ i < j ∧ j ≤ (List.length x : Int) ∧ List.length x ≤ 1000000 := hp
  obtain ⟨i', rfl⟩ : ∃ i' : Nat, i = (i' : Int) := ⟨i.toNat, by omega⟩
  obtain ⟨j', rfl⟩ : ∃ j' : Nat, j = (j' : Int) := ⟨j.toNat, by omega⟩
  have q1 : i' < j' := by omega
  have q2 : j' ≤ List.length x := by omega
  rcases hm with ⟨_, h⟩ | ⟨b, off, row, T0, Si, rfl, hb, hrow, hsz, s, nb, dd, he⟩
  · omega
  have hsz : off + cap * 4 ≤ row.size := hsz
  have hbF : ¬ F b := (hS0 b hb).2
  have hbw : b < w.heap.size := (hS0 b hb).1
  have ei : ∀ z, slotv tI [z] = z := fun _ => rfl
  have es : ∀ z, slotv S56.τ [z] = z := fun _ => rfl
  simp only [ei, es]
  have hD : DelAt { tmps := [Value.slice (some ⟨b, off, none⟩) (List.length x) cap, .int .i64 i', .int .i64 j'].toArray ++ Array.replicate (Try.f56.ntmps - [Value.slice (some ⟨b, off, none⟩) (List.length x) cap, .int .i64 i', .int .i64 j'].toArray.size) undef, defers := [] }
      (.slice (some ⟨b, off, none⟩) (List.length x) cap) i' j' := by
    refine ⟨?_, rfl, start_ev rfl, start_ev rfl, start_ev rfl⟩
    have : Try.f56.ntmps = 33 := by kernel_rfl
    rw [this]; simp
  obtain ⟨c, hc⟩ : ∃ c, Try.f56.body = some c := ⟨_, rfl⟩
  refine calls_of_wp Try.func56 hc (del_code hD hc q1 q2 hcap p4 hrow hsz ?_ ?_)
  · intro v hv
    obtain ⟨k, hk, rfl⟩ := List.mem_iff_getElem.1 hv
    have hlen : (seg row.toList off (List.length x * 4)).length = List.length x * 4 := seg_len _ _ _ (by
      have : List.length x * 4 ≤ cap * 4 := Nat.mul_le_mul_right _ hcap
      have e : row.toList.length = row.size := Array.length_toList
      omega)
    rw [hlen] at hk
    have hk4 : k / 4 < List.length x := by omega
    have hx := he (k / 4) _ (List.getElem?_eq_getElem hk4)
    refine hx.one _ ?_
    have hs4 : tW.size = 4 := rfl
    rw [hs4]
    simp only [seg, List.getElem_take, List.getElem_drop]
    refine List.mem_iff_getElem.2 ⟨k % 4, ?_, ?_⟩
    · rw [List.length_take, List.length_drop, Array.length_toList]
      have : List.length x * 4 ≤ cap * 4 := Nat.mul_le_mul_right _ hcap
      omega
    · simp only [List.getElem_take, List.getElem_drop]
      congr 1
      omega
  · intro w' row' w1 w2 w3 w4 w5 w6 w7 w8
    refine ⟨_, F, fun k => k = b, rfl, w1, w2, w3, by omega, fun k hk hn => w5 k (fun e => hn (e ▸ hb)), fun _ h => h, fun k h1 h2 => absurd h1 h2, ?_, ?_, ?_⟩
    · rintro k (h | rfl)
      · have := hF k h; omega
      · omega
    · rintro k rfl
      exact ⟨.inr hb, hbF⟩
    · have hol : (List.take i' x ++ List.drop j' x).length = i' + (List.length x - j') := by
        rw [List.length_append, List.length_take, List.length_drop]; omega
      refine ⟨[.slice (some ⟨b, off, none⟩) (i' + (List.length x - j')) cap], rfl, ?_⟩
      show Own F w' (.slice tW) (.own .shr) (fun k => k = b) [.slice (some ⟨b, off, none⟩) (i' + (List.length x - j')) cap] (List.take i' x ++ List.drop j' x)
      refine ⟨some ⟨b, off, none⟩, cap, by rw [hol], by rw [hol]; omega, by rw [hol]; have := hlim; omega, .inr ⟨b, off, row', T0, fun _ => none', rfl, rfl, w6, by rw [w7]; exact hsz, fun _ _ h => h.elim, fun _ h => h, fun _ _ _ _ h => h.elim, ?_⟩⟩
      intro k z hk
      have hkl : k < i' + (List.length x - j') := by rw [← hol]; exact (List.getElem?_eq_some_iff.1 hk).1
      have hz : x[if k < i' then k else k - i' + j']? = some z := by
        by_cases h : k < i'
        · rw [if_pos h]
          rw [List.getElem?_append_left (by rw [List.length_take]; omega), List.getElem?_take_of_lt h] at hk
          exact hk
        · rw [if_neg h]
          rw [List.getElem?_append_right (by rw [List.length_take]; omega), List.length_take, List.getElem?_drop] at hk
          rw [← hk]
          congr 1
          omega
      have hx := he _ _ hz
      have hs4 : tW.size = 4 := rfl
      rw [hs4] at hx ⊢
      rw [w8 k hkl]
      exact Own.flat rfl hx
end Go.User
namespace Sp
abbrev CM := List Word × Memo × Unit
def mget (m : Memo) (i : Int) : Int := (m.getD 0 []).getD i.toNat 0
def setM (m : Memo) (i : Int) (v : Int) : Memo := m.set 0 ((m.getD 0 []).set i.toNat v)
def fW (i : Int) (c : List Word) : Int := findW (cloW (55, [0, i])) c
/-- A memory of one array; the words of a cache lie in it. -/
def okM (m : Memo) : Prop := m.length = 1 ∧ (m.getD 0 []).length ≤ 1000
def okS (c : List Word) (m : Memo) : Prop := okM m ∧ c.length ≤ 1000 ∧ ∀ w ∈ c, w.1 = 0 ∧ 0 ≤ w.2.1 ∧ w.2.1 < (m.getD 0 []).length
def wback (w : Word) (m : Memo) : Memo := if w.2.2.2.1 = true then setM m w.2.1 w.2.2.1 else m
def evict (c : List Word) (m : Memo) (k : Int) : CM := (c.take k.toNat ++ c.drop (k + 1).toNat, wback (wd c k) m, ())
def load (c : List Word) (m : Memo) (i : Int) : Int × List Word × Unit := if 0 ≤ fW i c then ((wd c (fW i c)).2.2.1, c, ()) else (mget m i, c ++ [(0, i, mget m i, false, ())], ())
def store (c : List Word) (i v : Int) : List Word := if 0 ≤ fW i c then c.set (fW i c).toNat (0, i, v, true, ()) else c ++ [(0, i, v, true, ())]
def atom0 (c : List Word) (m : Memo) (i : Int) : CM := if 0 ≤ fW i c then evict c m (fW i c) else (c, m, ())
def atom (c : List Word) (m : Memo) (i v : Int) : CM := ((atom0 c m i).1, setM (atom0 c m i).2.1 i (Go.IntKind.wrap .i32 (mget (atom0 c m i).2.1 i + v)), ())
def evictAt (c : List Word) (m : Memo) (k : Int) : CM := if c.length = 0 then (c, m, ()) else evict c m ((k.tmod c.length + c.length).tmod c.length)
def fl : List Word → Memo → Memo
  | [], m => m
  | w :: c, m => fl c (wback w m)
def step (s : World) (n kind i v : Int) : World × Int × Unit :=
  if kind = 0 then ((s.1.set n.toNat (load (s.1.getD n.toNat []) s.2.1 i).2.1, s.2.1, ()), (load (s.1.getD n.toNat []) s.2.1 i).1, ())
  else if kind = 1 then ((s.1.set n.toNat (store (s.1.getD n.toNat []) i v), s.2.1, ()), 0, ())
  else if kind = 2 then ((s.1.set n.toNat (atom (s.1.getD n.toNat []) s.2.1 i v).1, (atom (s.1.getD n.toNat []) s.2.1 i v).2.1, ()), 0, ())
  else if kind = 3 then ((s.1.set n.toNat (evictAt (s.1.getD n.toNat []) s.2.1 i).1, (evictAt (s.1.getD n.toNat []) s.2.1 i).2.1, ()), 0, ())
  else ((s.1.set n.toNat [], fl (s.1.getD n.toNat []) s.2.1, ()), 0, ())
def okW (s : World) : Prop := okM s.2.1 ∧ s.1.length = 3 ∧ ∀ c ∈ s.1, okS c s.2.1
end Sp
namespace Go.User
open Go.Lf
def mkD (n : Nat) (fns : List (FuncId × FSpec)) : Ctx := { N := n, tys := tysQ 0, fns := fns, eqs := eqs, clo := some tClo, ins := [(56, S56)] }
def S45 : FSpec := { args := [.val tMem, .val tI, .val tI, .val (.int .i32)], multi := false, res := tMem, mode := .shr, pre := fun x => Sp.okM x.1 ∧ x.2.1 = 0 ∧ 0 ≤ x.2.2.1 ∧ x.2.2.1 < ((x.1.getD 0 []).length : Int), fn := fun x => Sp.setM x.1 x.2.2.1 x.2.2.2.1 }
def C45 : Ctx := mkD 27 [(60, S60), (61, S61)]
def L45 (x : kdens S45.args) : List LoopI := []
def S43 : FSpec := { args := [.val (.slice tW), .val tMem, .val tI], multi := true, res := .prod (.slice tW) (.prod tMem .unit), mode := .shr, pre := fun x => Sp.okS x.1 x.2.1 ∧ 0 ≤ x.2.2.1 ∧ x.2.2.1 < (List.length x.1 : Int), fn := fun x => Sp.evict x.1 x.2.1 x.2.2.1 }
def C43 : Ctx := { mkD 30 [(45, S45), (42, S42)] with frz := [28] }
def L43 (x : kdens S43.args) : List LoopI := []
def S19 : FSpec := { args := [.val (.slice tW), .val tMem, .val tI, .val tI], multi := true, res := .prod (.int .i32) (.prod (.slice tW) .unit), mode := .shr, pre := fun x => Sp.okS x.1 x.2.1 ∧ x.2.2.1 = 0 ∧ 0 ≤ x.2.2.2.1 ∧ x.2.2.2.1 < ((x.2.1.getD 0 []).length : Int), fn := fun x => Sp.load x.1 x.2.1 x.2.2.2.1 }
def C19 : Ctx := { mkD 48 [(41, S41), (40, S40), (42, S42)] with frz := [47] }
def L19 (x : kdens S19.args) : List LoopI := []
def S20 : FSpec := { args := [.val (.slice tW), .val tI, .val tI, .val (.int .i32)], multi := false, res := .slice tW, mode := .shr, pre := fun x => List.length x.1 ≤ 1000 ∧ x.2.1 = 0, fn := fun x => Sp.store x.1 x.2.2.1 x.2.2.2.1 }
def C20 : Ctx := mkD 36 [(41, S41), (40, S40), (42, S42)]
def L20 (x : kdens S20.args) : List LoopI := []
def S21 : FSpec := { args := [.val (.slice tW), .val tMem, .val tI, .val tI, .val tI, .val (.int .i32)], multi := true, res := .prod (.slice tW) (.prod tMem .unit), mode := .shr, pre := fun x => Sp.okS x.1 x.2.1 ∧ x.2.2.1 = 10 ∧ x.2.2.2.1 = 0 ∧ 0 ≤ x.2.2.2.2.1 ∧ x.2.2.2.2.1 < ((x.2.1.getD 0 []).length : Int), fn := fun x => Sp.atom x.1 x.2.1 x.2.2.2.2.1 x.2.2.2.2.2.1 }
def C21 : Ctx := mkD 56 [(41, S41), (40, S40), (43, S43), (44, S44), (45, S45)]
def L21 (x : kdens S21.args) : List LoopI := []
def S22 : FSpec := { args := [.val (.slice tW), .val tMem, .val tI], multi := true, res := .prod (.slice tW) (.prod tMem .unit), mode := .shr, pre := fun x => Sp.okS x.1 x.2.1, fn := fun x => Sp.evictAt x.1 x.2.1 x.2.2.1 }
def C22 : Ctx := mkD 27 [(43, S43)]
def L22 (x : kdens S22.args) : List LoopI := []
def S23 : FSpec := { args := [.val (.slice tW), .val tMem], multi := true, res := .prod (.slice tW) (.prod tMem .unit), mode := .shr, pre := fun x => Sp.okS x.1 x.2.1, fn := fun x => ([], Sp.fl x.1 x.2.1, ()) }
def C23 : Ctx := mkD 17 [(43, S43)]
def L23 (x : kdens S23.args) : List LoopI := [
  { ι := List Sp.Word × Sp.Memo, inv := fun i => Sp.okS i.1 i.2 ∧ Sp.fl i.1 i.2 = Sp.fl x.1 x.2.1, dec := fun i => i.1.length, ovr := fun i => [(0, .shr (.slice tW) i.1), (1, .shr tMem i.2)], keep := [] }]
def S12 : FSpec := { args := [.val tWorld, .val tI, .val tI, .val tI, .val (.int .i32)], multi := true, res := .prod tWorld (.prod (.int .i32) .unit), mode := .shr, pre := fun x => Sp.okW x.1 ∧ 0 ≤ x.2.1 ∧ x.2.1 < 3 ∧ 0 ≤ x.2.2.2.1 ∧ x.2.2.2.1 < ((x.1.2.1.getD 0 []).length : Int), fn := fun x => Sp.step x.1 x.2.1 x.2.2.1 x.2.2.2.1 x.2.2.2.2.1 }
def C12 : Ctx := { mkD 112 [(19, S19), (20, S20), (21, S21), (22, S22), (23, S23)] with mds := [(10, .pair .shr (.pair .shr .shr))], fzs := [12] }
def L12 (x : kdens S12.args) : List LoopI := []
end Go.User
