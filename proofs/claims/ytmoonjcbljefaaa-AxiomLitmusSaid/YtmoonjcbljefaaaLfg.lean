/- Methods that write through their pointer: by value. The types of the seat, and that the program has them. The small functions: what they compute. Written by gen.py: what is left to show of each function. Plain facts about lists, places, sums. The small functions compute what they should. -/
import Derived.Test.YtmoonjcbljefaaaLff
import Derived.KernelRfl
import Derived.Test.YtmoonjcbljefaaaProg
set_option linter.unusedVariables false
set_option linter.unusedSimpArgs false
namespace Go.Lf

/-- A call of such a method on a variable. -/
def ptrE (C : Ctx) (d : Nat) (st : St) (s : PSpec) (v : View) : Option (Prop × St) :=
  match v.addr? with
  | some l => match l.p with
    | [] => bif s.τ.flat then (match castD (τ := l.τ) (σ := s.τ) l.x with
      | some x => match castD (τ := s.τ) (σ := l.τ) (s.fn x) with
        | some y => some (s.pre x, put (upd (kill st l.r) l.r (reown (st l.r) l.τ l.m y)) d .dead)
        | none => none
      | none => none) else none
    | _ => none
  | none => none

def ptrC (C : Ctx) (st : St) (o : Oper) (q : Call) : Option (Prop × St) :=
  match q.callee, q.args.toList, o.dst with
  | .value (.func f), [z], some d => match look C.ptrs f with
    | some s => bif wrB C d then ptrE C d st s (viewO st z) else none
    | none => none
  | _, _, _ => none

/-- Variables that a function value captures are not written any more. -/
def frz1 (st : St) : Operand → St
  | .tmp t => match st t with
    | .box τ _ x => upd (kill st t) t (.saddr τ x)
    | _ => st
  | _ => st
def frzL (st : St) : List Operand → St
  | [] => st
  | z :: l => frzL (frz1 st z) l

/-- All of a region's tail. -/
def stpP (C : Ctx) (st : St) (o : Oper) : Option (Prop × St) :=
  match o.op with
  | .call q => match ptrC C st o q with
    | some r => some r
    | none => stp C st o
  | .makeFunc _ _ caps => pureStp C (frzL st caps.toList) o
  | _ => stp C st o

section
variable {P : Program} {C : Ctx} {N : NP} {w0 : World} {F0 H : NSet} {env : St} {a : Act} {w : World} {F : NSet} {S : Nat → NSet} {d : Nat}

theorem PlOk.any {G S' G' S'' : NSet} {w : World} {b n : Nat} {cs : List Value} (h : PlOk G S' w (.mem b 0) n cs) (h1 : ¬ S'' b) (h2 : ¬ G' b) : PlOk G' S'' w (.mem b 0) n cs :=
  ⟨h1, h2, h.2.2⟩

theorem ptrE_ok (hC : CtxOK P C) (hi : Inv0 P N w0 F0 H env a w F S) (hd : Wr N d) {f : FuncId} {s : PSpec} (hs : POk P f s) {z : Operand} {ts : Array TypeId} {o : Oper}
    (ho : o.op = .call { callee := .value (.func f), args := #[z], argTypes := ts }) (hod : o.dst = some d) {v : View} (hv : ViewOK P F w env (fun t => a.tmps.getD t undef) S (a.eval z) v)
    {c : Prop} {env' : St} (h : ptrE C d env s v = some (c, env')) (hc : c) {K : Act → World → Prop} {Q : Exit → Act → World → Prop} (hK : ∀ a' w', Inv P N w0 F0 H env' a' w' → K a' w') : o.wp P a w K Q := by
  unfold ptrE at h
  split at h
  · rename_i l hl
    split at h
    · rename_i hp
      cases hf : s.τ.flat
      · rw [hf] at h; cases h
      rw [hf] at h
      simp only [cond_true] at h
      split at h
      · rename_i x hx
        have := castD_some hx
        obtain ⟨σ, y, μ, pl, S0, cs, b, off, hA, hval⟩ := addr?_ok hi hv hl
        obtain ⟨lr, lp, lτ, lm, lx⟩ := l
        simp only at hp hx this h
        subst hp
        injection this with e1 e2
        subst e1; cases e2
        split at h
        · rename_i y' hy
          have hy' := castD_some hy
          injection hy' with _ e3
          cases e3
          simp only [Option.some.injEq, Prod.mk.injEq] at h
          obtain ⟨rfl, rfl⟩ := h
          have hroot := hA.root
          have hloc := hA.loc
          simp only [Go.Lf.loc, Option.some.injEq, Prod.mk.injEq] at hloc
          obtain ⟨rfl, hpl⟩ := hloc
          subst hpl
          simp only at hroot
          have hsb : S lr b := hroot.isB rfl
          have hoff : off = 0 := by
            rcases hroot.1 with ⟨_, h, _⟩ | ⟨_, b', h, _⟩
            · cases h
            · injection h
          subst hoff
          have hbox : env lr = .box s.τ lm x := by
            rcases hroot.1 with ⟨_, h, _⟩ | ⟨h, _⟩
            · cases h
            · exact h
          have hb := hi.sb lr b hsb
          obtain ⟨k1, k2⟩ := hs
          have hcall := k2 w b cs x hb.2.1 (hroot.2.1.any (fun h => h) (fun h => h)) (hroot.2.2.flat hf) hc
          have hrun : (execOp a.eval o).run P w = .ok (.enter f #[.pointer (some ⟨b, 0, none⟩)]) w := by
            simp only [execOp, ho, resolve, Sem.run_bind, Act.eval, Deferred.ofValue, Sem.run_pure, Result.andThen, invoke]
            have := k1 #[.pointer (some ⟨b, 0, none⟩)] w
            rw [← this]
            congr 1
            congr 1
            apply Array.ext'
            simp [← hval, Act.eval]
          unfold Oper.wp
          rw [hrun, Oper.upon_enter]
          refine hcall.mono ?_
          rintro e w' ⟨⟨v, rfl⟩, q1, q2, q3, q4, q5, cs', q6, q7⟩
          rw [hod]
          refine hK _ _ ?_
          have hS0 : ¬ S0 b := hroot.2.1.1
          have hset : Inv0 P N w0 F0 H (upd (kill env lr) lr (reown (env lr) s.τ lm (s.fn x))) a w' F (fun t => if t = lr then S lr else S t) := by
            refine hi.setRoot (by rw [hbox]; rfl) (by rw [hbox]; rfl) q1 q2 q3 q4 ?_ ?_ ?_ ?_
            · intro k hk hH
              refine q5 k (Nat.lt_of_lt_of_le hk hi.size) ?_
              rintro rfl
              rcases hb.1 with h | h
              · omega
              · exact hH h
            · intro k hk
              have hne : k ≠ b := by
                rintro rfl
                rcases hk with hk | ⟨t, h1, h2⟩
                · exact hb.2.2 hk
                · exact hi.sd t lr h1 k h2 hsb
              have hlt : k < w.heap.size := by
                rcases hk with hk | ⟨t, h1, h2⟩
                · exact hi.fb k hk
                · exact (hi.sb t k h2).2.1
              exact q5 k hlt hne
            · intro k hk
              obtain ⟨g1, g2, g3⟩ := hi.sb lr k hk
              exact ⟨g1, Nat.lt_of_lt_of_le g2 q4, g3, fun t ht hk' => hi.sd t lr ht k hk' hk⟩
            · rw [hbox]
              refine ⟨.mem b 0, S0, cs', .inr ⟨?_, b, rfl, ?_, ?_, ?_⟩, q6.any hS0 hb.2.2, q7.flat hf⟩
              · rfl
              · rcases hroot.1 with ⟨_, h, _⟩ | ⟨_, b', h, h2, _⟩
                · cases h
                · injection h with h; subst h; simpa using h2
              · rcases hroot.1 with ⟨_, h, _⟩ | ⟨_, b', h, _, h2, _⟩
                · cases h
                · injection h with h; subst h; exact h2
              · simpa using hsb
          exact ⟨_, _, hset.putSimple hd rfl (by simp [Ent.root]) trivial⟩
        · cases h
      · cases h
    · cases h
  · cases h

theorem Inv0.freeze (hi : Inv0 P N w0 F0 H env a w F S) {r : Nat} {τ : Ty} {m : Md} {x : τ.den} (hr : env r = .box τ m x) :
    Inv0 P N w0 F0 H (upd (kill env r) r (.saddr τ x)) a w (fun b => F b ∨ S r b) (fun t => if t = r then none' else S t) := by
  have hap : ∀ t b, t ≠ r → S t b → ¬ S r b := fun t b h h1 h2 => hi.sd t r h b h1 h2
  refine ⟨hi.os, hi.tape, hi.output, hi.size, hi.block, ?_, fun b hb => .inl (hi.f0 b hb), ?_, ?_, ?_, ?_, hi.defers, hi.slots⟩
  · rintro b (hb | hb)
    · exact hi.fb b hb
    · exact (hi.sb r b hb).2.1
  · rintro b (hb | hb) hn
    · exact hi.fn b hb hn
    · exact (hi.sb r b hb).1
  · intro t b ht
    by_cases h : t = r
    · simp only [h, if_true] at ht; exact ht.elim
    · simp only [h, if_false] at ht
      obtain ⟨g1, g2, g3⟩ := hi.sb t b ht
      exact ⟨g1, g2, fun hF => hF.elim g3 (hap t b h ht)⟩
  · intro t u htu b h1 h2
    by_cases h : t = r
    · simp only [h, if_true] at h1; exact h1
    · simp only [h, if_false] at h1
      by_cases h' : u = r
      · simp only [h', if_true] at h2; exact h2
      · simp only [h', if_false] at h2
        exact hi.sd t u htu b h1 h2
  · intro t
    by_cases h : t = r
    · subst h
      rw [upd_same]
      have h1 := hi.ent t
      rw [hr] at h1
      obtain ⟨pl, S0, cs, h1⟩ := h1
      obtain ⟨_, _, b, rfl, hS0, hval, hsb⟩ := h1.box_inj
      obtain ⟨q1, q2, row, T0, q3, q4, q5⟩ := h1.2.1
      refine ⟨b, 0, row, T0, (0, 0), hval, .inr hsb, q3, q4, ?_⟩
      rw [q5]
      exact (Own.freeze (S' := none') h1.2.2).mono (fun k hk => hk.imp id (fun hk => h1.sub k hk)) (fun _ h => h)
    · rw [upd_ne _ _ h]
      rcases kill_cases env r t with h' | ⟨h', hne⟩
      · rw [h']; trivial
      · rw [h']
        refine EntOK.keep (fun b hb => .inl hb) (fun _ _ => rfl) rfl ?_ ?_ (hi.ent t)
        · intro q hq
          have hqr : q ≠ r := fun e => hne (e ▸ hq)
          refine ⟨fun ho => ?_, fun _ => rfl, by simp [hqr], fun _ _ => rfl, ?_, fun b hb => (hi.sb q b hb).2.2⟩
          · rw [upd_ne _ _ hqr]; unfold kill killE; rw [Ent.owner_root ho]
          · rintro b (h1 | h1) h2
            · exact absurd h1 h2
            · exact fun h3 => hap q b hqr h3 h1
        · intro _
          refine ⟨by simp [h], fun _ _ => rfl, ?_⟩
          rintro b (h1 | h1) h2
          · exact absurd h1 h2
          · exact fun h3 => hap t b h h3 h1

theorem frzL_ok : ∀ {l : List Operand} {env : St}, Inv P N w0 F0 H env a w → Inv P N w0 F0 H (frzL env l) a w
  | [], _, h => h
  | z :: l, env, h => by
    refine frzL_ok (l := l) ?_
    unfold frz1
    split
    · rename_i t
      split
      · rename_i τ m x hr
        obtain ⟨F, S, hi⟩ := h
        exact ⟨_, _, hi.freeze hr⟩
      · exact h
    · exact h

theorem stpP_ok (hC : CtxOK P C) : StpOK P C (stpP C) := by
  intro w0 F0 H env env' a w o c hi h hc K Q hK
  unfold stpP at h
  split at h
  · rename_i q hop
    split at h
    · rename_i r hr
      simp only [Option.some.injEq] at h
      subst h
      obtain ⟨F, S, hi⟩ := hi
      unfold ptrC at hr
      split at hr
      · rename_i f z d h1 h2 h3
        split at hr
        · rename_i s hs
          cases hb : wrB C d
          · rw [hb] at hr; cases hr
          rw [hb] at hr
          obtain ⟨callee, args, ts⟩ := q
          simp only at h1 h2
          have e1 : args = #[z] := by apply Array.ext'; simpa using h2
          subst e1; subst h1
          exact ptrE_ok hC hi (wrB_iff hb) (hC.ptrs f s hs) hop h3 (viewO_ok hi z) hr hc hK
        · cases hr
      · cases hr
    · exact stp_ok hC hi h hc K Q hK
  · rename_i fn first caps hop
    obtain ⟨F, S, hi'⟩ := frzL_ok (l := caps.toList) hi
    exact pureStp_ok hC hi' h hc hK
  · exact stp_ok hC hi h hc K Q hK

/-- What is returned: the pointer's memory. -/
def retPP (s : PSpec) (y : s.τ.den) (st : St) : Prop := match st 0 with
  | .box σ _ x => match castD (τ := σ) (σ := s.τ) x with
    | some z => z = y
    | none => False
  | _ => False

/-- The proposition for a method's body. -/
def funP (C : Ctx) (stp : St → Oper → Option (Prop × St)) (s : PSpec) (L : s.τ.den → List LoopI) (fn : Func) : Prop :=
  match fn.body with
  | some c => ∀ x, s.pre x → dFact s.τ x → wpI C stp (L x) c 0 (ofL [(0, .box s.τ .shr x)]) (retPP s (s.fn x)) (fun _ _ => False) (retPP s (s.fn x))
  | none => False

theorem Inv0.startP {s : PSpec} {cs : List Value} {x : s.τ.den} {b n : Nat} (hb : b < w.heap.size) (h1 : PlOk none' none' w (.mem b 0) s.τ.size cs) (h2 : Own none' w s.τ .shr none' cs x) (hn : 1 ≤ n) :
    Inv0 P ⟨n, true⟩ w none' (fun k => k = b) (ofL [(0, .box s.τ .shr x)]) { tmps := #[.pointer (some ⟨b, 0, none⟩)] ++ Array.replicate (n - 1) undef, defers := [] } w none' (fun t k => t = 0 ∧ k = b) := by
  have hV : (#[Value.pointer (some ⟨b, 0, none⟩)] ++ Array.replicate (n - 1) undef).getD 0 undef = .pointer (some ⟨b, 0, none⟩) := by
    rw [Array.getD_eq_getD_getElem?, Array.getElem?_append_left (by simp)]; rfl
  refine ⟨rfl, rfl, rfl, Nat.le_refl _, fun _ _ _ => rfl, fun _ h => h.elim, fun _ h => h, fun b h1 h2 => absurd h1 h2, ?_, ?_, ?_, rfl, ⟨by simp; omega, ?_⟩⟩
  · rintro t k ⟨rfl, rfl⟩
    exact ⟨.inr rfl, hb, fun h => h⟩
  · rintro t u htu k ⟨rfl, rfl⟩ ⟨rfl, _⟩
    exact htu rfl
  · intro t
    cases t with
    | zero =>
      refine ⟨.mem b 0, none', cs, .inr ⟨rfl, b, rfl, ?_, hV, ⟨rfl, rfl⟩⟩, h1, h2⟩
      funext k
      simp only [none', true_and, eq_iff_iff, false_iff]
      rintro ⟨h1, h2⟩; exact h2 h1
    | succ t => exact trivial
  · rintro k rfl
    exact ⟨rfl, hV⟩

theorem POk.intro (hC : CtxOK P C) {stp : St → Oper → Option (Prop × St)} (hstp : StpOK P C stp) {f : FuncId} {s : PSpec} {fn : Func} (hdef : FnDef P f) (hf : P.funcs[f]? = some fn) (hN : C.N = fn.ntmps)
    (hp : C.p0 = true) (hlen : Nat.ble 1 fn.ntmps = true) (hres : fn.results = #[]) (hfl : s.τ.flat = true) (L : s.τ.den → List LoopI) (h : funP C stp s L fn) : POk P f s := by
  refine ⟨hdef, ?_⟩
  intro w b cs x hb h1 h2 hpre
  unfold funP at h
  split at h
  · rename_i c hbd
    have hlen' : 1 ≤ fn.ntmps := Nat.le_of_ble_eq_true hlen
    have hst := Inv0.startP (P := P) (s := s) hb h1 h2 hlen'
    have hnp : C.np = ⟨fn.ntmps, true⟩ := by simp [Ctx.np, hN, hp]
    refine calls_of_wp hf hbd ?_
    have hend : ∀ st a w', retPP s (s.fn x) st → Inv P C.np w none' (fun k => k = b) st a w' → bodyPost P fn (fun e w' => (∃ v, e = .returned v) ∧ w'.os = w.os ∧ w'.tape = w.tape ∧ w'.output = w.output ∧ w.heap.size ≤ w'.heap.size ∧
      (∀ k, k < w.heap.size → k ≠ b → w'.heap[k]? = w.heap[k]?) ∧ ∃ cs', PlOk none' none' w' (.mem b 0) s.τ.size cs' ∧ Own none' w' s.τ .shr none' cs' (s.fn x)) .normal a w' := by
      intro st a w' hq ⟨F, S, hi⟩
      refine ⟨hi.defers, .tuple #[], by simp [results, hres], ⟨_, rfl⟩, hi.os, hi.tape, hi.output, hi.size, fun k hk hne => hi.block k hk hne, ?_⟩
      unfold retPP at hq
      split at hq
      · rename_i σ m y hy
        split at hq
        · rename_i z hz
          have := castD_some hz
          injection this with e1 e2
          subst e1; cases e2
          subst hq
          have h0 := hi.ent 0
          rw [hy] at h0
          obtain ⟨pl, S0, cs', hr⟩ := h0
          rcases hr.1 with ⟨h, _⟩ | ⟨_, b', hpl, hS, hv, hsb⟩
          · cases h
          · have hpin := (hi.slots.pin b rfl).2
            have hv : a.tmps.getD 0 undef = .pointer (some ⟨b', 0, none⟩) := hv
            rw [hpin] at hv
            have hbb : b = b' := by injection hv with hv; injection hv with hv; injection hv
            subst hbb
            subst hpl
            exact ⟨cs', hr.2.1.any (fun h => h) (fun h => h), hr.2.2.flat hfl⟩
        · cases hq
      · cases hq
    refine wpI_ok hC hstp c (h x hpre h2.fact) (by rw [hnp]; exact ⟨none', _, hst⟩) ?_ (fun _ _ _ _ h => h.elim) ?_
    · intro st a w' hq hi
      exact hend st a w' hq hi
    · intro st a w' hq hi
      exact hend st a w' hq hi
  · cases h
end
end Go.Lf
namespace Sp
abbrev LOp := Int × Int × Int × Unit
abbrev LEv := Int × LOp × Int × Unit
abbrev Lit := List (List LOp) × Unit
abbrev Gr := List LEv × List Int × List (List Int) × List Int × Unit
abbrev Rel := List (List Bool)
end Sp
namespace Go.User
open Go.Lf Go.Proofs
abbrev tI : Ty := .int .i64
abbrev tLOp : Ty := .prod tI (.prod tI (.prod tI .unit))
abbrev tLEv : Ty := .prod tI (.prod tLOp (.prod tI .unit))
abbrev tLit : Ty := .prod (.slice (.slice tLOp)) .unit
abbrev tGr : Ty := .prod (.slice tLEv) (.prod (.slice tI) (.prod (.slice (.slice tI)) (.prod (.slice tI) .unit)))
abbrev tRow : Ty := .arr 6 .bool
abbrev tRel : Ty := .arr 6 tRow
abbrev tPl : Ty := .prod tI (.prod tI .unit)
abbrev tCh : Ty := .prod (.int .u8) (.prod (.int .u8) (.prod tI .unit))
abbrev tOut : Ty := .prod (.slice tI) (.prod (.slice tI) .unit)
def tys : List (TypeId × Ty) := [(3, tI), (4, .bool), (32, .slice tI), (45, tLOp), (47, tLEv), (49, .slice tLOp), (27, .slice (.slice tLOp)), (29, tLit), (31, .slice tLEv),
  (33, .slice (.slice tI)), (35, tGr), (74, tRow), (76, tRel), (79, tPl), (82, .slice .bool), (5, .int .u8), (22, .slice (.int .u8)), (24, tCh), (25, .arr 3 tCh), (52, tOut), (56, .arr 2 (.int .u8)), (38, .slice tGr)]
def eqs : List TypeId := [45, 47]

theorem tys_ok : ∀ T τ, Lf.look tys T = some τ → RowOK Try.prog tys T τ := by
  have hall : ∀ (l : List (TypeId × Ty)), (∀ x ∈ l, RowOK Try.prog tys x.1 x.2) → ∀ T τ, Lf.look l T = some τ → RowOK Try.prog tys T τ := by
    intro l
    induction l with
    | nil => intro _ T τ h; cases h
    | cons x l ih =>
      intro h T τ hl
      simp only [Lf.look] at hl
      cases hb : Nat.beq x.1 T
      · rw [hb] at hl; exact ih (fun y hy => h y (by simp [hy])) T τ hl
      · rw [hb] at hl
        have := Nat.eq_of_beq_eq_true hb
        simp only [cond_true, Option.some.injEq] at hl
        rw [← this, ← hl]; exact h x (by simp)
  refine hall tys ?_
  intro x hx
  simp only [tys, List.mem_cons, List.not_mem_nil, or_false] at hx
  rcases hx with rfl | rfl | rfl | rfl | rfl | rfl | rfl | rfl | rfl | rfl | rfl | rfl | rfl | rfl | rfl | rfl | rfl | rfl | rfl | rfl | rfl | rfl
  · exact ⟨Try.t3, _, by kernel_rfl, Try.underlying3, by kernel_rfl, by decide, by kernel_rfl, by kernel_rfl⟩
  · exact ⟨Try.t4, _, by kernel_rfl, Try.underlying4, by kernel_rfl, by decide, by kernel_rfl, by kernel_rfl⟩
  · exact ⟨Try.t32, _, by kernel_rfl, Try.underlying32, by kernel_rfl, by decide, by kernel_rfl, by kernel_rfl⟩
  · exact ⟨Try.t45, _, by kernel_rfl, Try.underlying45, by kernel_rfl, by decide, by kernel_rfl, by kernel_rfl⟩
  · exact ⟨Try.t47, _, by kernel_rfl, Try.underlying47, by kernel_rfl, by decide, by kernel_rfl, by kernel_rfl⟩
  · exact ⟨Try.t49, _, by kernel_rfl, Try.underlying49, by kernel_rfl, by decide, by kernel_rfl, by kernel_rfl⟩
  · exact ⟨Try.t27, _, by kernel_rfl, Try.underlying27, by kernel_rfl, by decide, by kernel_rfl, by kernel_rfl⟩
  · exact ⟨Try.t29, _, by kernel_rfl, Try.underlying29, by kernel_rfl, by decide, by kernel_rfl, by kernel_rfl⟩
  · exact ⟨Try.t31, _, by kernel_rfl, Try.underlying31, by kernel_rfl, by decide, by kernel_rfl, by kernel_rfl⟩
  · exact ⟨Try.t33, _, by kernel_rfl, Try.underlying33, by kernel_rfl, by decide, by kernel_rfl, by kernel_rfl⟩
  · exact ⟨Try.t35, _, by kernel_rfl, Try.underlying35, by kernel_rfl, by decide, by kernel_rfl, by kernel_rfl⟩
  · exact ⟨Try.t74, _, by kernel_rfl, Try.underlying74, by kernel_rfl, by decide, by kernel_rfl, by kernel_rfl⟩
  · exact ⟨Try.t76, _, by kernel_rfl, Try.underlying76, by kernel_rfl, by decide, by kernel_rfl, by kernel_rfl⟩
  · exact ⟨Try.t79, _, by kernel_rfl, Try.underlying79, by kernel_rfl, by decide, by kernel_rfl, by kernel_rfl⟩
  · exact ⟨Try.t82, _, by kernel_rfl, Try.underlying82, by kernel_rfl, by decide, by kernel_rfl, by kernel_rfl⟩
  · exact ⟨Try.t5, _, by kernel_rfl, Try.underlying5, by kernel_rfl, by decide, by kernel_rfl, by kernel_rfl⟩
  · exact ⟨Try.t22, _, by kernel_rfl, Try.underlying22, by kernel_rfl, by decide, by kernel_rfl, by kernel_rfl⟩
  · exact ⟨Try.t24, _, by kernel_rfl, Try.underlying24, by kernel_rfl, by decide, by kernel_rfl, by kernel_rfl⟩
  · exact ⟨Try.t25, _, by kernel_rfl, Try.underlying25, by kernel_rfl, by decide, by kernel_rfl, by kernel_rfl⟩
  · exact ⟨Try.t52, _, by kernel_rfl, Try.underlying52, by kernel_rfl, by decide, by kernel_rfl, by kernel_rfl⟩
  · exact ⟨Try.t56, _, by kernel_rfl, Try.underlying56, by kernel_rfl, by decide, by kernel_rfl, by kernel_rfl⟩
  · exact ⟨Try.t38, _, by kernel_rfl, Try.underlying38, by kernel_rfl, by decide, by kernel_rfl, by kernel_rfl⟩

theorem eqs_ok : ∀ T, T ∈ eqs → EqRow Try.prog tys eqs T := by
  intro T hT
  simp only [eqs, List.mem_cons, List.not_mem_nil, or_false] at hT
  rcases hT with rfl | rfl
  · refine ⟨by kernel_rfl, by kernel_rfl, ?_⟩
    rw [Try.underlying45]
    decide
  · refine ⟨by kernel_rfl, by kernel_rfl, ?_⟩
    rw [Try.underlying47]
    decide

theorem mixed_ok : Try.prog.follows .mixedOrders = true := by kernel_rfl

theorem ctx_ok {C : Ctx} (h1 : C.tys = tys) (h2 : C.eqs = eqs) (h3 : ∀ f s, Lf.look C.fns f = some s → FOk Try.prog f s) (h4 : ∀ f s, Lf.look C.ptrs f = some s → POk Try.prog f s) : CtxOK Try.prog C :=
  ⟨by rw [h1]; exact tys_ok, h3, mixed_ok, by rw [h1, h2]; exact eqs_ok, h4⟩

theorem fns_nil {P : Program} : ∀ f s, Lf.look ([] : List (FuncId × FSpec)) f = some s → FOk P f s := fun _ _ h => by cases h
theorem ptrs_nil {P : Program} : ∀ f s, Lf.look ([] : List (FuncId × PSpec)) f = some s → POk P f s := fun _ _ h => by cases h
theorem fns_cons {P : Program} {g : FuncId} {t : FSpec} {l : List (FuncId × FSpec)} (h : FOk P g t) (hl : ∀ f s, Lf.look l f = some s → FOk P f s) : ∀ f s, Lf.look ((g, t) :: l) f = some s → FOk P f s := by
  intro f s hs
  simp only [Lf.look] at hs
  cases hb : Nat.beq g f
  · rw [hb] at hs; exact hl f s hs
  · rw [hb] at hs
    have := Nat.eq_of_beq_eq_true hb
    simp only [cond_true, Option.some.injEq] at hs
    rw [← this, ← hs]; exact h
theorem ptrs_cons {P : Program} {g : FuncId} {t : PSpec} {l : List (FuncId × PSpec)} (h : POk P g t) (hl : ∀ f s, Lf.look l f = some s → POk P f s) : ∀ f s, Lf.look ((g, t) :: l) f = some s → POk P f s := by
  intro f s hs
  simp only [Lf.look] at hs
  cases hb : Nat.beq g f
  · rw [hb] at hs; exact hl f s hs
  · rw [hb] at hs
    have := Nat.eq_of_beq_eq_true hb
    simp only [cond_true, Option.some.injEq] at hs
    rw [← this, ← hs]; exact h
end Go.User
namespace Sp
def idx (l : List Int) (n : Int) : Int := if n ∈ l then (l.idxOf n : Int) else -1
def reads (o : LOp) : Bool := decide (o.1 = 1) || decide (o.1 = 3)
def writes (o : LOp) : Bool := decide (o.1 = 2) || decide (o.1 = 3)
def usual (o : LOp) : Bool :=
  if o.1 = 4 then decide (o.2.1 = 0) && decide (o.2.2.1 = 0)
  else if o.1 = 1 then decide (0 ≤ o.2.1) && decide (o.2.1 < 3) && decide (o.2.2.1 = 0)
  else if o.1 = 2 ∨ o.1 = 3 then decide (0 ≤ o.2.1) && decide (o.2.1 < 3) && decide (-100 ≤ o.2.2.1) && decide (o.2.2.1 ≤ 100)
  else false
def byteAt (b : List Int) (i : Int) : Int := if i < b.length then b.getD i.toNat 0 else 0
def findI (p : LEv → Bool) (l : List LEv) : Int := match l.findIdx? p with
  | some i => i
  | none => -1
def ev0 : LEv := (0, (0, 0, 0, ()), 0, ())
def ev (e : List LEv) (n : Int) : LEv := e.getD n.toNat ev0
def value (e : List LEv) (n : Int) : Int :=
  if n < 0 then 0 else if (ev e n).2.1.1 = 3 then Go.IntKind.wrap .i64 ((ev e n).2.2.1 + (ev e n).2.1.2.2.1) else (ev e n).2.1.2.2.1
end Sp
namespace Go.User
open Go.Lf
def mkC (n : Nat) (fns : List (FuncId × FSpec)) : Ctx := { N := n, tys := tys, fns := fns, eqs := eqs }
-- at
def S22 : FSpec := { args := [.val (.slice tI), .val tI], multi := false, res := tI, mode := .shr, pre := fun _ => True, fn := fun x => Sp.idx x.1 x.2.1 }
def C22 : Ctx := mkC 19 []
def L22 (x : kdens S22.args) : List LoopI := [
  { ι := Nat, inv := fun i => i ≤ x.1.length ∧ x.2.1 ∉ x.1.take i, dec := fun i => x.1.length - i, ovr := fun i => [(5, .shr tI (i : Int))], keep := [0, 1] }]
def S39 := S22
def C39 := C22
def L39 := L22
def S63 := S22
def C63 := C22
def L63 (x : kdens S63.args) : List LoopI := [
  { ι := Nat, inv := fun i => i ≤ x.1.length ∧ x.2.1 ∉ x.1.take i, dec := fun i => x.1.length - i, ovr := fun i => [(8, .shr tI (i : Int))], keep := [0, 1, 7] }]
-- reads, writes
def S42 : FSpec := { args := [.val tLOp], multi := false, res := .bool, mode := .shr, pre := fun _ => True, fn := fun x => Sp.reads x.1 }
def C42 : Ctx := mkC 11 []
def L42 (x : kdens S42.args) : List LoopI := []
def S43 : FSpec := { args := [.val tLOp], multi := false, res := .bool, mode := .shr, pre := fun _ => True, fn := fun x => Sp.writes x.1 }
def C43 : Ctx := mkC 11 []
def L43 (x : kdens S43.args) : List LoopI := []
def S37 := S42
def C37 := C42
def L37 := L42
def S32 := S43
def C32 := C43
def L32 := L43
-- usual
def S62 : FSpec := { args := [.val tLOp], multi := false, res := .bool, mode := .shr, pre := fun _ => True, fn := fun x => Sp.usual x.1 }
def C62 : Ctx := mkC 46 []
def L62 (x : kdens S62.args) : List LoopI := []
def S61 : FSpec := { args := [.val tLEv], multi := false, res := .bool, mode := .shr, pre := fun _ => True, fn := fun x => !Sp.usual x.1.2.1 }
def C61 : Ctx := mkC 7 [(62, S62)]
def L61 (x : kdens S61.args) : List LoopI := []
-- IndexFunc, ContainsFunc
def S64 : FSpec := { args := [.val (.slice tLEv), .fn [tLEv] .bool], multi := false, res := tI, mode := .shr, pre := fun x => ∀ e, x.2.1.pre (e, ()), fn := fun x => Sp.findI (fun e => x.2.1.fn (e, ())) x.1 }
def C64 : Ctx := mkC 19 []
def L64 (x : kdens S64.args) : List LoopI := [
  { ι := Nat, inv := fun i => i ≤ x.1.length ∧ ∀ e ∈ x.1.take i, x.2.1.fn (e, ()) = false, dec := fun i => x.1.length - i, ovr := fun i => [(8, .shr tI (i : Int))], keep := [0, 1, 7] }]
def S60 : FSpec := { args := [.val (.slice tLEv), .fn [tLEv] .bool], multi := false, res := .bool, mode := .shr, pre := fun x => ∀ e, x.2.1.pre (e, ()), fn := fun x => List.any x.1 (fun e => x.2.1.fn (e, ())) }
def C60 : Ctx := mkC 9 [(64, S64)]
def L60 (x : kdens S60.args) : List LoopI := []
-- value
def S40 : FSpec := { args := [.val tGr, .val tI], multi := false, res := tI, mode := .shr, pre := fun x => x.2.1 < (x.1.1.length : Int), fn := fun x => Sp.value x.1.1 x.2.1 }
def C40 : Ctx := { mkC 36 [] with wrp := [28] }
def L40 (x : kdens S40.args) : List LoopI := []
def S44 := S40
def C44 : Ctx := { mkC 38 [] with wrp := [30] }
def L44 (x : kdens S44.args) : List LoopI := []
-- byteAt
def S38 : FSpec := { args := [.val (.slice (.int .u8)), .val tI], multi := false, res := tI, mode := .shr, pre := fun x => 0 ≤ x.2.1, fn := fun x => Sp.byteAt x.1 x.2.1 }
def C38 : Ctx := mkC 14 []
def L38 (x : kdens S38.args) : List LoopI := []
-- closures of Right
def S46 : FSpec := { args := [.val tLOp, .sptr tI], multi := false, res := .bool, mode := .shr, pre := fun _ => True, fn := fun x => Sp.writes x.1 && decide (x.1.2.1 = x.2.1) }
def C46 : Ctx := mkC 12 [(43, S43)]
def L46 (x : kdens S46.args) : List LoopI := []
def S47 : FSpec := { args := [.val tLOp], multi := false, res := .bool, mode := .shr, pre := fun _ => True, fn := fun x => decide (x.1.1 = 4) }
def C47 : Ctx := mkC 6 []
def L47 (x : kdens S47.args) : List LoopI := []
-- store, load, fence
def S27 : FSpec := { args := [.val tI, .val tI], multi := false, res := tLOp, mode := .shr, pre := fun _ => True, fn := fun x => (2, x.1, x.2.1, ()) }
def S28 : FSpec := { args := [.val tI], multi := false, res := tLOp, mode := .shr, pre := fun _ => True, fn := fun x => (1, x.1, 0, ()) }
def S29 : FSpec := { args := [], multi := false, res := tLOp, mode := .shr, pre := fun _ => True, fn := fun _ => (4, 0, 0, ()) }
def C27 : Ctx := mkC 8 []
def L27 (x : kdens S27.args) : List LoopI := []
def C28 : Ctx := mkC 5 []
def L28 (x : kdens S28.args) : List LoopI := []
def C29 : Ctx := mkC 2 []
def L29 (x : kdens S29.args) : List LoopI := []
end Go.User
namespace Go.User
open Go.Proofs
set_option maxRecDepth 100000
theorem vc22 (h : (
  ∀ (x : List Int × Int × Unit), (x.1.length ≤ Go.Lf.lim ∧ ∀ (x_1 : Int), x_1 ∈ x.1 → Go.Lf.inK Go.IntKind.i64 x_1) ∧ Go.Lf.inK Go.IntKind.i64 x.2.1 → (∃ (x_1 : Nat), (x_1 ≤ x.1.length ∧ ¬x.2.1 ∈ List.take x_1 x.1) ∧ (0 : Int) = (↑x_1 : Int)) ∧ ∀ (x_1 : Nat), x_1 ≤ x.1.length ∧ ¬x.2.1 ∈ List.take x_1 x.1 → Go.Lf.inK Go.IntKind.i64 (↑x_1 : Int) → ((↑x_1 : Int) < (↑x.1.length : Int) → Go.Lf.inN (↑x_1 : Int) x.1.length ∧ (x.1.getD x_1 (0 : Int) = x.2.1 → (↑x_1 : Int) = Sp.idx x.1 x.2.1) ∧ (¬x.1.getD x_1 (0 : Int) = x.2.1 → Go.Lf.inK Go.IntKind.i64 ((↑x_1 : Int) + (1 : Int)) ∧ ∃ (y : Nat), (y ≤ x.1.length ∧ ¬x.2.1 ∈ List.take y x.1) ∧ x.1.length - y < x.1.length - x_1 ∧ (↑x_1 : Int) + (1 : Int) = (↑y : Int))) ∧ ((↑x.1.length : Int) ≤ (↑x_1 : Int) → (-1 : Int) = Sp.idx x.1 x.2.1))) : Go.Lf.funI Go.User.C22 (Go.Lf.stpP Go.User.C22) Go.User.S22 Go.User.L22 Go.Proofs.Try.f22 := by
  have e : Go.Lf.funI Go.User.C22 (Go.Lf.stpP Go.User.C22) Go.User.S22 Go.User.L22 Go.Proofs.Try.f22 = (
  ∀ (x : List Int × Int × Unit), True → (x.1.length ≤ Go.Lf.lim ∧ ∀ (x_1 : Int), x_1 ∈ x.1 → Go.Lf.inK Go.IntKind.i64 x_1) ∧ Go.Lf.inK Go.IntKind.i64 x.2.1 ∧ True → ((True ∧ True) ∧ True) ∧ ((True ∧ True) ∧ True) ∧ (∃ (x_1 : Nat), (x_1 ≤ x.1.length ∧ ¬x.2.1 ∈ List.take x_1 x.1) ∧ (0 : Int) = (↑x_1 : Int) ∧ x.1 = x.1 ∧ x.2.1 = x.2.1 ∧ True) ∧ ∀ (x_1 : Nat), x_1 ≤ x.1.length ∧ ¬x.2.1 ∈ List.take x_1 x.1 → Go.Lf.inK Go.IntKind.i64 (↑x_1 : Int) ∧ True → ((True ∧ True ∧ True ∧ True ∧ True) ∧ True) ∧ (Decidable.decide ((↑x_1 : Int) < (↑x.1.length : Int)) = Bool.true → ((True ∧ True ∧ Go.Lf.inN (↑x_1 : Int) x.1.length ∧ True ∧ True ∧ True ∧ True) ∧ True) ∧ ((x.1.getD (↑x_1 : Int).toNat (0 : Int) == x.2.1) = Bool.true → ((True ∧ True ∧ True) ∧ True) ∧ (↑x_1 : Int) = Sp.idx x.1 x.2.1) ∧ ((x.1.getD (↑x_1 : Int).toNat (0 : Int) == x.2.1) = Bool.false → ((True ∧ Go.Lf.inK Go.IntKind.i64 ((↑x_1 : Int) + (1 : Int)) ∧ True ∧ True) ∧ True) ∧ ∃ (y : Nat), (y ≤ x.1.length ∧ ¬x.2.1 ∈ List.take y x.1) ∧ x.1.length - y < x.1.length - x_1 ∧ (↑x_1 : Int) + (1 : Int) = (↑y : Int) ∧ x.1 = x.1 ∧ x.2.1 = x.2.1 ∧ True)) ∧ (Decidable.decide ((↑x_1 : Int) < (↑x.1.length : Int)) = Bool.false → ((True ∧ True) ∧ True) ∧ (-1 : Int) = Sp.idx x.1 x.2.1)) := by kernel_rfl
  rw [e]
  simp only [true_and, and_true, eq_self, forall_const, decide_eq_true_eq, decide_eq_false_iff_not, Int.not_lt, Int.not_le, Bool.and_eq_true, true_implies, implies_true, Bool.not_eq_true', Bool.not_eq_false', false_implies, Bool.false_eq_true, Bool.true_eq_false, and_self, beq_iff_eq, beq_eq_false_iff_ne, ne_eq, Int.toNat_natCast, Bool.cond_false_right, Bool.cond_true_left, exists_prop, ge_iff_le, gt_iff_lt, List.length_singleton, List.length_nil, List.nil_append, List.append_eq, Bool.cond_false_left, Bool.cond_true_right, Bool.or_false, Bool.and_true, Bool.or_eq_false_iff, Bool.not_eq_true, bne_iff_ne, bne_eq_false_iff_eq]
  all_goals first | exact h | (simp only [true_and, and_true, eq_self, forall_const, decide_eq_true_eq, decide_eq_false_iff_not, Int.not_lt, Int.not_le, Bool.and_eq_true, true_implies, implies_true, Bool.not_eq_true', Bool.not_eq_false', false_implies, Bool.false_eq_true, Bool.true_eq_false, and_self, beq_iff_eq, beq_eq_false_iff_ne, ne_eq, Int.toNat_natCast, Bool.cond_false_right, Bool.cond_true_left, exists_prop, ge_iff_le, gt_iff_lt, List.length_singleton, List.length_nil, List.nil_append, List.append_eq, Bool.cond_false_left, Bool.cond_true_right, Bool.or_false, Bool.and_true, Bool.or_eq_false_iff, Bool.not_eq_true, bne_iff_ne, bne_eq_false_iff_eq] at h; exact h)
theorem vc39 (h : (
  ∀ (x : List Int × Int × Unit), (x.1.length ≤ Go.Lf.lim ∧ ∀ (x_1 : Int), x_1 ∈ x.1 → Go.Lf.inK Go.IntKind.i64 x_1) ∧ Go.Lf.inK Go.IntKind.i64 x.2.1 → (∃ (x_1 : Nat), (x_1 ≤ x.1.length ∧ ¬x.2.1 ∈ List.take x_1 x.1) ∧ (0 : Int) = (↑x_1 : Int)) ∧ ∀ (x_1 : Nat), x_1 ≤ x.1.length ∧ ¬x.2.1 ∈ List.take x_1 x.1 → Go.Lf.inK Go.IntKind.i64 (↑x_1 : Int) → ((↑x_1 : Int) < (↑x.1.length : Int) → Go.Lf.inN (↑x_1 : Int) x.1.length ∧ (x.1.getD x_1 (0 : Int) = x.2.1 → (↑x_1 : Int) = Sp.idx x.1 x.2.1) ∧ (¬x.1.getD x_1 (0 : Int) = x.2.1 → Go.Lf.inK Go.IntKind.i64 ((↑x_1 : Int) + (1 : Int)) ∧ ∃ (y : Nat), (y ≤ x.1.length ∧ ¬x.2.1 ∈ List.take y x.1) ∧ x.1.length - y < x.1.length - x_1 ∧ (↑x_1 : Int) + (1 : Int) = (↑y : Int))) ∧ ((↑x.1.length : Int) ≤ (↑x_1 : Int) → (-1 : Int) = Sp.idx x.1 x.2.1))) : Go.Lf.funI Go.User.C39 (Go.Lf.stpP Go.User.C39) Go.User.S39 Go.User.L39 Go.Proofs.Try.f39 := by
  have e : Go.Lf.funI Go.User.C39 (Go.Lf.stpP Go.User.C39) Go.User.S39 Go.User.L39 Go.Proofs.Try.f39 = (
  ∀ (x : List Int × Int × Unit), True → (x.1.length ≤ Go.Lf.lim ∧ ∀ (x_1 : Int), x_1 ∈ x.1 → Go.Lf.inK Go.IntKind.i64 x_1) ∧ Go.Lf.inK Go.IntKind.i64 x.2.1 ∧ True → ((True ∧ True) ∧ True) ∧ ((True ∧ True) ∧ True) ∧ (∃ (x_1 : Nat), (x_1 ≤ x.1.length ∧ ¬x.2.1 ∈ List.take x_1 x.1) ∧ (0 : Int) = (↑x_1 : Int) ∧ x.1 = x.1 ∧ x.2.1 = x.2.1 ∧ True) ∧ ∀ (x_1 : Nat), x_1 ≤ x.1.length ∧ ¬x.2.1 ∈ List.take x_1 x.1 → Go.Lf.inK Go.IntKind.i64 (↑x_1 : Int) ∧ True → ((True ∧ True ∧ True ∧ True ∧ True) ∧ True) ∧ (Decidable.decide ((↑x_1 : Int) < (↑x.1.length : Int)) = Bool.true → ((True ∧ True ∧ Go.Lf.inN (↑x_1 : Int) x.1.length ∧ True ∧ True ∧ True ∧ True) ∧ True) ∧ ((x.1.getD (↑x_1 : Int).toNat (0 : Int) == x.2.1) = Bool.true → ((True ∧ True ∧ True) ∧ True) ∧ (↑x_1 : Int) = Sp.idx x.1 x.2.1) ∧ ((x.1.getD (↑x_1 : Int).toNat (0 : Int) == x.2.1) = Bool.false → ((True ∧ Go.Lf.inK Go.IntKind.i64 ((↑x_1 : Int) + (1 : Int)) ∧ True ∧ True) ∧ True) ∧ ∃ (y : Nat), (y ≤ x.1.length ∧ ¬x.2.1 ∈ List.take y x.1) ∧ x.1.length - y < x.1.length - x_1 ∧ (↑x_1 : Int) + (1 : Int) = (↑y : Int) ∧ x.1 = x.1 ∧ x.2.1 = x.2.1 ∧ True)) ∧ (Decidable.decide ((↑x_1 : Int) < (↑x.1.length : Int)) = Bool.false → ((True ∧ True) ∧ True) ∧ (-1 : Int) = Sp.idx x.1 x.2.1)) := by kernel_rfl
  rw [e]
  simp only [true_and, and_true, eq_self, forall_const, decide_eq_true_eq, decide_eq_false_iff_not, Int.not_lt, Int.not_le, Bool.and_eq_true, true_implies, implies_true, Bool.not_eq_true', Bool.not_eq_false', false_implies, Bool.false_eq_true, Bool.true_eq_false, and_self, beq_iff_eq, beq_eq_false_iff_ne, ne_eq, Int.toNat_natCast, Bool.cond_false_right, Bool.cond_true_left, exists_prop, ge_iff_le, gt_iff_lt, List.length_singleton, List.length_nil, List.nil_append, List.append_eq, Bool.cond_false_left, Bool.cond_true_right, Bool.or_false, Bool.and_true, Bool.or_eq_false_iff, Bool.not_eq_true, bne_iff_ne, bne_eq_false_iff_eq]
  all_goals first | exact h | (simp only [true_and, and_true, eq_self, forall_const, decide_eq_true_eq, decide_eq_false_iff_not, Int.not_lt, Int.not_le, Bool.and_eq_true, true_implies, implies_true, Bool.not_eq_true', Bool.not_eq_false', false_implies, Bool.false_eq_true, Bool.true_eq_false, and_self, beq_iff_eq, beq_eq_false_iff_ne, ne_eq, Int.toNat_natCast, Bool.cond_false_right, Bool.cond_true_left, exists_prop, ge_iff_le, gt_iff_lt, List.length_singleton, List.length_nil, List.nil_append, List.append_eq, Bool.cond_false_left, Bool.cond_true_right, Bool.or_false, Bool.and_true, Bool.or_eq_false_iff, Bool.not_eq_true, bne_iff_ne, bne_eq_false_iff_eq] at h; exact h)
theorem vc63 (h : (
  ∀ (x : List Int × Int × Unit), (x.1.length ≤ Go.Lf.lim ∧ ∀ (x_1 : Int), x_1 ∈ x.1 → Go.Lf.inK Go.IntKind.i64 x_1) ∧ Go.Lf.inK Go.IntKind.i64 x.2.1 → (∃ (x_1 : Nat), (x_1 ≤ x.1.length ∧ ¬x.2.1 ∈ List.take x_1 x.1) ∧ (0 : Int) = (↑x_1 : Int)) ∧ ∀ (x_1 : Nat), x_1 ≤ x.1.length ∧ ¬x.2.1 ∈ List.take x_1 x.1 → Go.Lf.inK Go.IntKind.i64 (↑x_1 : Int) → ((↑x_1 : Int) < (↑x.1.length : Int) → Go.Lf.inN (↑x_1 : Int) x.1.length ∧ (x.2.1 = x.1.getD x_1 (0 : Int) → (↑x_1 : Int) = Sp.idx x.1 x.2.1) ∧ (¬x.2.1 = x.1.getD x_1 (0 : Int) → Go.Lf.inK Go.IntKind.i64 ((↑x_1 : Int) + (1 : Int)) ∧ ∃ (y : Nat), (y ≤ x.1.length ∧ ¬x.2.1 ∈ List.take y x.1) ∧ x.1.length - y < x.1.length - x_1 ∧ (↑x_1 : Int) + (1 : Int) = (↑y : Int))) ∧ ((↑x.1.length : Int) ≤ (↑x_1 : Int) → (-1 : Int) = Sp.idx x.1 x.2.1))) : Go.Lf.funI Go.User.C63 (Go.Lf.stpP Go.User.C63) Go.User.S63 Go.User.L63 Go.Proofs.Try.f63 := by
  have e : Go.Lf.funI Go.User.C63 (Go.Lf.stpP Go.User.C63) Go.User.S63 Go.User.L63 Go.Proofs.Try.f63 = (
  ∀ (x : List Int × Int × Unit), True → (x.1.length ≤ Go.Lf.lim ∧ ∀ (x_1 : Int), x_1 ∈ x.1 → Go.Lf.inK Go.IntKind.i64 x_1) ∧ Go.Lf.inK Go.IntKind.i64 x.2.1 ∧ True → ((True ∧ True) ∧ True) ∧ ((True ∧ True ∧ True ∧ True) ∧ True) ∧ (∃ (x_1 : Nat), (x_1 ≤ x.1.length ∧ ¬x.2.1 ∈ List.take x_1 x.1) ∧ (0 : Int) = (↑x_1 : Int) ∧ x.1 = x.1 ∧ x.2.1 = x.2.1 ∧ (↑x.1.length : Int) = (↑x.1.length : Int) ∧ True) ∧ ∀ (x_1 : Nat), x_1 ≤ x.1.length ∧ ¬x.2.1 ∈ List.take x_1 x.1 → Go.Lf.inK Go.IntKind.i64 (↑x_1 : Int) ∧ True → ((True ∧ True) ∧ True) ∧ (Decidable.decide ((↑x_1 : Int) < (↑x.1.length : Int)) = Bool.true → ((True ∧ True ∧ True) ∧ True) ∧ ((True ∧ True ∧ True ∧ Go.Lf.inN (↑x_1 : Int) x.1.length ∧ True ∧ True ∧ True) ∧ True) ∧ ((x.2.1 == x.1.getD (↑x_1 : Int).toNat (0 : Int)) = Bool.true → ((True ∧ True ∧ True) ∧ True) ∧ (↑x_1 : Int) = Sp.idx x.1 x.2.1) ∧ ((x.2.1 == x.1.getD (↑x_1 : Int).toNat (0 : Int)) = Bool.false → ((Go.Lf.inK Go.IntKind.i64 ((↑x_1 : Int) + (1 : Int)) ∧ True ∧ True) ∧ True) ∧ ∃ (y : Nat), (y ≤ x.1.length ∧ ¬x.2.1 ∈ List.take y x.1) ∧ x.1.length - y < x.1.length - x_1 ∧ (↑x_1 : Int) + (1 : Int) = (↑y : Int) ∧ x.1 = x.1 ∧ x.2.1 = x.2.1 ∧ (↑x.1.length : Int) = (↑x.1.length : Int) ∧ True)) ∧ (Decidable.decide ((↑x_1 : Int) < (↑x.1.length : Int)) = Bool.false → ((True ∧ True) ∧ True) ∧ (-1 : Int) = Sp.idx x.1 x.2.1)) := by kernel_rfl
  rw [e]
  simp only [true_and, and_true, eq_self, forall_const, decide_eq_true_eq, decide_eq_false_iff_not, Int.not_lt, Int.not_le, Bool.and_eq_true, true_implies, implies_true, Bool.not_eq_true', Bool.not_eq_false', false_implies, Bool.false_eq_true, Bool.true_eq_false, and_self, beq_iff_eq, beq_eq_false_iff_ne, ne_eq, Int.toNat_natCast, Bool.cond_false_right, Bool.cond_true_left, exists_prop, ge_iff_le, gt_iff_lt, List.length_singleton, List.length_nil, List.nil_append, List.append_eq, Bool.cond_false_left, Bool.cond_true_right, Bool.or_false, Bool.and_true, Bool.or_eq_false_iff, Bool.not_eq_true, bne_iff_ne, bne_eq_false_iff_eq]
  all_goals first | exact h | (simp only [true_and, and_true, eq_self, forall_const, decide_eq_true_eq, decide_eq_false_iff_not, Int.not_lt, Int.not_le, Bool.and_eq_true, true_implies, implies_true, Bool.not_eq_true', Bool.not_eq_false', false_implies, Bool.false_eq_true, Bool.true_eq_false, and_self, beq_iff_eq, beq_eq_false_iff_ne, ne_eq, Int.toNat_natCast, Bool.cond_false_right, Bool.cond_true_left, exists_prop, ge_iff_le, gt_iff_lt, List.length_singleton, List.length_nil, List.nil_append, List.append_eq, Bool.cond_false_left, Bool.cond_true_right, Bool.or_false, Bool.and_true, Bool.or_eq_false_iff, Bool.not_eq_true, bne_iff_ne, bne_eq_false_iff_eq] at h; exact h)
theorem vc42 (h : (
  ∀ (x : (Int × Int × Int × Unit) × Unit), Go.Lf.inK Go.IntKind.i64 x.1.1 ∧ Go.Lf.inK Go.IntKind.i64 x.1.2.1 ∧ Go.Lf.inK Go.IntKind.i64 x.1.2.2.1 → (x.1.1 == (1 : Int) || x.1.1 == (3 : Int)) = Sp.reads x.1)) : Go.Lf.funI Go.User.C42 (Go.Lf.stpP Go.User.C42) Go.User.S42 Go.User.L42 Go.Proofs.Try.f42 := by
  have e : Go.Lf.funI Go.User.C42 (Go.Lf.stpP Go.User.C42) Go.User.S42 Go.User.L42 Go.Proofs.Try.f42 = (
  ∀ (x : (Int × Int × Int × Unit) × Unit), True → (Go.Lf.inK Go.IntKind.i64 x.1.1 ∧ Go.Lf.inK Go.IntKind.i64 x.1.2.1 ∧ Go.Lf.inK Go.IntKind.i64 x.1.2.2.1 ∧ True) ∧ True → ((True ∧ True ∧ True) ∧ True) ∧ ((True ∧ True ∧ True ∧ True ∧ ((Bool.true && bif x.1.1 == (1 : Int) then Bool.false else Bool.true) = Bool.true → True) ∧ ((Bool.true && bif x.1.1 == (1 : Int) then Bool.false else Bool.true) = Bool.true → True) ∧ ((Bool.true && bif x.1.1 == (1 : Int) then Bool.false else Bool.true) = Bool.true → True) ∧ True ∧ True ∧ True) ∧ True) ∧ (bif x.1.1 == (1 : Int) then Bool.true else x.1.1 == (3 : Int)) = Sp.reads x.1) := by kernel_rfl
  rw [e]
  simp only [true_and, and_true, eq_self, forall_const, decide_eq_true_eq, decide_eq_false_iff_not, Int.not_lt, Int.not_le, Bool.and_eq_true, true_implies, implies_true, Bool.not_eq_true', Bool.not_eq_false', false_implies, Bool.false_eq_true, Bool.true_eq_false, and_self, beq_iff_eq, beq_eq_false_iff_ne, ne_eq, Int.toNat_natCast, Bool.cond_false_right, Bool.cond_true_left, exists_prop, ge_iff_le, gt_iff_lt, List.length_singleton, List.length_nil, List.nil_append, List.append_eq, Bool.cond_false_left, Bool.cond_true_right, Bool.or_false, Bool.and_true, Bool.or_eq_false_iff, Bool.not_eq_true, bne_iff_ne, bne_eq_false_iff_eq]
  all_goals first | exact h | (simp only [true_and, and_true, eq_self, forall_const, decide_eq_true_eq, decide_eq_false_iff_not, Int.not_lt, Int.not_le, Bool.and_eq_true, true_implies, implies_true, Bool.not_eq_true', Bool.not_eq_false', false_implies, Bool.false_eq_true, Bool.true_eq_false, and_self, beq_iff_eq, beq_eq_false_iff_ne, ne_eq, Int.toNat_natCast, Bool.cond_false_right, Bool.cond_true_left, exists_prop, ge_iff_le, gt_iff_lt, List.length_singleton, List.length_nil, List.nil_append, List.append_eq, Bool.cond_false_left, Bool.cond_true_right, Bool.or_false, Bool.and_true, Bool.or_eq_false_iff, Bool.not_eq_true, bne_iff_ne, bne_eq_false_iff_eq] at h; exact h)
theorem vc43 (h : (
  ∀ (x : (Int × Int × Int × Unit) × Unit), Go.Lf.inK Go.IntKind.i64 x.1.1 ∧ Go.Lf.inK Go.IntKind.i64 x.1.2.1 ∧ Go.Lf.inK Go.IntKind.i64 x.1.2.2.1 → (x.1.1 == (2 : Int) || x.1.1 == (3 : Int)) = Sp.writes x.1)) : Go.Lf.funI Go.User.C43 (Go.Lf.stpP Go.User.C43) Go.User.S43 Go.User.L43 Go.Proofs.Try.f43 := by
  have e : Go.Lf.funI Go.User.C43 (Go.Lf.stpP Go.User.C43) Go.User.S43 Go.User.L43 Go.Proofs.Try.f43 = (
  ∀ (x : (Int × Int × Int × Unit) × Unit), True → (Go.Lf.inK Go.IntKind.i64 x.1.1 ∧ Go.Lf.inK Go.IntKind.i64 x.1.2.1 ∧ Go.Lf.inK Go.IntKind.i64 x.1.2.2.1 ∧ True) ∧ True → ((True ∧ True ∧ True) ∧ True) ∧ ((True ∧ True ∧ True ∧ True ∧ ((Bool.true && bif x.1.1 == (2 : Int) then Bool.false else Bool.true) = Bool.true → True) ∧ ((Bool.true && bif x.1.1 == (2 : Int) then Bool.false else Bool.true) = Bool.true → True) ∧ ((Bool.true && bif x.1.1 == (2 : Int) then Bool.false else Bool.true) = Bool.true → True) ∧ True ∧ True ∧ True) ∧ True) ∧ (bif x.1.1 == (2 : Int) then Bool.true else x.1.1 == (3 : Int)) = Sp.writes x.1) := by kernel_rfl
  rw [e]
  simp only [true_and, and_true, eq_self, forall_const, decide_eq_true_eq, decide_eq_false_iff_not, Int.not_lt, Int.not_le, Bool.and_eq_true, true_implies, implies_true, Bool.not_eq_true', Bool.not_eq_false', false_implies, Bool.false_eq_true, Bool.true_eq_false, and_self, beq_iff_eq, beq_eq_false_iff_ne, ne_eq, Int.toNat_natCast, Bool.cond_false_right, Bool.cond_true_left, exists_prop, ge_iff_le, gt_iff_lt, List.length_singleton, List.length_nil, List.nil_append, List.append_eq, Bool.cond_false_left, Bool.cond_true_right, Bool.or_false, Bool.and_true, Bool.or_eq_false_iff, Bool.not_eq_true, bne_iff_ne, bne_eq_false_iff_eq]
  all_goals first | exact h | (simp only [true_and, and_true, eq_self, forall_const, decide_eq_true_eq, decide_eq_false_iff_not, Int.not_lt, Int.not_le, Bool.and_eq_true, true_implies, implies_true, Bool.not_eq_true', Bool.not_eq_false', false_implies, Bool.false_eq_true, Bool.true_eq_false, and_self, beq_iff_eq, beq_eq_false_iff_ne, ne_eq, Int.toNat_natCast, Bool.cond_false_right, Bool.cond_true_left, exists_prop, ge_iff_le, gt_iff_lt, List.length_singleton, List.length_nil, List.nil_append, List.append_eq, Bool.cond_false_left, Bool.cond_true_right, Bool.or_false, Bool.and_true, Bool.or_eq_false_iff, Bool.not_eq_true, bne_iff_ne, bne_eq_false_iff_eq] at h; exact h)
theorem vc37 (h : (
  ∀ (x : (Int × Int × Int × Unit) × Unit), Go.Lf.inK Go.IntKind.i64 x.1.1 ∧ Go.Lf.inK Go.IntKind.i64 x.1.2.1 ∧ Go.Lf.inK Go.IntKind.i64 x.1.2.2.1 → (x.1.1 == (1 : Int) || x.1.1 == (3 : Int)) = Sp.reads x.1)) : Go.Lf.funI Go.User.C37 (Go.Lf.stpP Go.User.C37) Go.User.S37 Go.User.L37 Go.Proofs.Try.f37 := by
  have e : Go.Lf.funI Go.User.C37 (Go.Lf.stpP Go.User.C37) Go.User.S37 Go.User.L37 Go.Proofs.Try.f37 = (
  ∀ (x : (Int × Int × Int × Unit) × Unit), True → (Go.Lf.inK Go.IntKind.i64 x.1.1 ∧ Go.Lf.inK Go.IntKind.i64 x.1.2.1 ∧ Go.Lf.inK Go.IntKind.i64 x.1.2.2.1 ∧ True) ∧ True → ((True ∧ True ∧ True) ∧ True) ∧ ((True ∧ True ∧ True ∧ True ∧ ((Bool.true && bif x.1.1 == (1 : Int) then Bool.false else Bool.true) = Bool.true → True) ∧ ((Bool.true && bif x.1.1 == (1 : Int) then Bool.false else Bool.true) = Bool.true → True) ∧ ((Bool.true && bif x.1.1 == (1 : Int) then Bool.false else Bool.true) = Bool.true → True) ∧ True ∧ True ∧ True) ∧ True) ∧ (bif x.1.1 == (1 : Int) then Bool.true else x.1.1 == (3 : Int)) = Sp.reads x.1) := by kernel_rfl
  rw [e]
  simp only [true_and, and_true, eq_self, forall_const, decide_eq_true_eq, decide_eq_false_iff_not, Int.not_lt, Int.not_le, Bool.and_eq_true, true_implies, implies_true, Bool.not_eq_true', Bool.not_eq_false', false_implies, Bool.false_eq_true, Bool.true_eq_false, and_self, beq_iff_eq, beq_eq_false_iff_ne, ne_eq, Int.toNat_natCast, Bool.cond_false_right, Bool.cond_true_left, exists_prop, ge_iff_le, gt_iff_lt, List.length_singleton, List.length_nil, List.nil_append, List.append_eq, Bool.cond_false_left, Bool.cond_true_right, Bool.or_false, Bool.and_true, Bool.or_eq_false_iff, Bool.not_eq_true, bne_iff_ne, bne_eq_false_iff_eq]
  all_goals first | exact h | (simp only [true_and, and_true, eq_self, forall_const, decide_eq_true_eq, decide_eq_false_iff_not, Int.not_lt, Int.not_le, Bool.and_eq_true, true_implies, implies_true, Bool.not_eq_true', Bool.not_eq_false', false_implies, Bool.false_eq_true, Bool.true_eq_false, and_self, beq_iff_eq, beq_eq_false_iff_ne, ne_eq, Int.toNat_natCast, Bool.cond_false_right, Bool.cond_true_left, exists_prop, ge_iff_le, gt_iff_lt, List.length_singleton, List.length_nil, List.nil_append, List.append_eq, Bool.cond_false_left, Bool.cond_true_right, Bool.or_false, Bool.and_true, Bool.or_eq_false_iff, Bool.not_eq_true, bne_iff_ne, bne_eq_false_iff_eq] at h; exact h)
theorem vc32 (h : (
  ∀ (x : (Int × Int × Int × Unit) × Unit), Go.Lf.inK Go.IntKind.i64 x.1.1 ∧ Go.Lf.inK Go.IntKind.i64 x.1.2.1 ∧ Go.Lf.inK Go.IntKind.i64 x.1.2.2.1 → (x.1.1 == (2 : Int) || x.1.1 == (3 : Int)) = Sp.writes x.1)) : Go.Lf.funI Go.User.C32 (Go.Lf.stpP Go.User.C32) Go.User.S32 Go.User.L32 Go.Proofs.Try.f32 := by
  have e : Go.Lf.funI Go.User.C32 (Go.Lf.stpP Go.User.C32) Go.User.S32 Go.User.L32 Go.Proofs.Try.f32 = (
  ∀ (x : (Int × Int × Int × Unit) × Unit), True → (Go.Lf.inK Go.IntKind.i64 x.1.1 ∧ Go.Lf.inK Go.IntKind.i64 x.1.2.1 ∧ Go.Lf.inK Go.IntKind.i64 x.1.2.2.1 ∧ True) ∧ True → ((True ∧ True ∧ True) ∧ True) ∧ ((True ∧ True ∧ True ∧ True ∧ ((Bool.true && bif x.1.1 == (2 : Int) then Bool.false else Bool.true) = Bool.true → True) ∧ ((Bool.true && bif x.1.1 == (2 : Int) then Bool.false else Bool.true) = Bool.true → True) ∧ ((Bool.true && bif x.1.1 == (2 : Int) then Bool.false else Bool.true) = Bool.true → True) ∧ True ∧ True ∧ True) ∧ True) ∧ (bif x.1.1 == (2 : Int) then Bool.true else x.1.1 == (3 : Int)) = Sp.writes x.1) := by kernel_rfl
  rw [e]
  simp only [true_and, and_true, eq_self, forall_const, decide_eq_true_eq, decide_eq_false_iff_not, Int.not_lt, Int.not_le, Bool.and_eq_true, true_implies, implies_true, Bool.not_eq_true', Bool.not_eq_false', false_implies, Bool.false_eq_true, Bool.true_eq_false, and_self, beq_iff_eq, beq_eq_false_iff_ne, ne_eq, Int.toNat_natCast, Bool.cond_false_right, Bool.cond_true_left, exists_prop, ge_iff_le, gt_iff_lt, List.length_singleton, List.length_nil, List.nil_append, List.append_eq, Bool.cond_false_left, Bool.cond_true_right, Bool.or_false, Bool.and_true, Bool.or_eq_false_iff, Bool.not_eq_true, bne_iff_ne, bne_eq_false_iff_eq]
  all_goals first | exact h | (simp only [true_and, and_true, eq_self, forall_const, decide_eq_true_eq, decide_eq_false_iff_not, Int.not_lt, Int.not_le, Bool.and_eq_true, true_implies, implies_true, Bool.not_eq_true', Bool.not_eq_false', false_implies, Bool.false_eq_true, Bool.true_eq_false, and_self, beq_iff_eq, beq_eq_false_iff_ne, ne_eq, Int.toNat_natCast, Bool.cond_false_right, Bool.cond_true_left, exists_prop, ge_iff_le, gt_iff_lt, List.length_singleton, List.length_nil, List.nil_append, List.append_eq, Bool.cond_false_left, Bool.cond_true_right, Bool.or_false, Bool.and_true, Bool.or_eq_false_iff, Bool.not_eq_true, bne_iff_ne, bne_eq_false_iff_eq] at h; exact h)
theorem vc62 (h : (
  ∀ (x : (Int × Int × Int × Unit) × Unit), Go.Lf.inK Go.IntKind.i64 x.1.1 ∧ Go.Lf.inK Go.IntKind.i64 x.1.2.1 ∧ Go.Lf.inK Go.IntKind.i64 x.1.2.2.1 → (x.1.1 = (4 : Int) → (Decidable.decide (x.1.1 = (4 : Int)) && (Decidable.decide (x.1.2.1 = (0 : Int)) && Decidable.decide (x.1.2.2.1 = (0 : Int)))) = Sp.usual x.1) ∧ (¬x.1.1 = (4 : Int) → (x.1.1 = (1 : Int) → (Decidable.decide ((0 : Int) ≤ x.1.2.1) && Decidable.decide (x.1.2.1 < (3 : Int)) && x.1.2.2.1 == (0 : Int)) = Sp.usual x.1) ∧ (¬x.1.1 = (1 : Int) → (x.1.1 = (2 : Int) → (x.1.1 = (2 : Int) → (Decidable.decide ((0 : Int) ≤ x.1.2.1) && Decidable.decide (x.1.2.1 < (3 : Int)) && Decidable.decide ((-100 : Int) ≤ x.1.2.2.1) && Decidable.decide (x.1.2.2.1 ≤ (100 : Int))) = Sp.usual x.1) ∧ (¬x.1.1 = (2 : Int) → Bool.false = Sp.usual x.1)) ∧ (¬x.1.1 = (2 : Int) → (x.1.1 = (3 : Int) → (Decidable.decide ((0 : Int) ≤ x.1.2.1) && Decidable.decide (x.1.2.1 < (3 : Int)) && Decidable.decide ((-100 : Int) ≤ x.1.2.2.1) && Decidable.decide (x.1.2.2.1 ≤ (100 : Int))) = Sp.usual x.1) ∧ (¬x.1.1 = (3 : Int) → Bool.false = Sp.usual x.1)))))) : Go.Lf.funI Go.User.C62 (Go.Lf.stpP Go.User.C62) Go.User.S62 Go.User.L62 Go.Proofs.Try.f62 := by
  have e : Go.Lf.funI Go.User.C62 (Go.Lf.stpP Go.User.C62) Go.User.S62 Go.User.L62 Go.Proofs.Try.f62 = (
  ∀ (x : (Int × Int × Int × Unit) × Unit), True → (Go.Lf.inK Go.IntKind.i64 x.1.1 ∧ Go.Lf.inK Go.IntKind.i64 x.1.2.1 ∧ Go.Lf.inK Go.IntKind.i64 x.1.2.2.1 ∧ True) ∧ True → ((True ∧ True ∧ True) ∧ True) ∧ ((True ∧ True ∧ True) ∧ True) ∧ ((True ∧ True ∧ True) ∧ True) ∧ ((x.1.1 == (4 : Int)) = Bool.true → ((True ∧ True ∧ True ∧ True ∧ True) ∧ True) ∧ (Decidable.decide (x.1.1 = (4 : Int)) && (Decidable.decide (x.1.2.1 = (0 : Int)) && (Decidable.decide (x.1.2.2.1 = (0 : Int)) && Bool.true))) = Sp.usual x.1) ∧ ((x.1.1 == (4 : Int)) = Bool.false → ((True ∧ True ∧ True) ∧ True) ∧ ((x.1.1 == (1 : Int)) = Bool.true → ((True ∧ True ∧ True ∧ True ∧ ((Bool.true && bif Decidable.decide ((0 : Int) ≤ x.1.2.1) then Bool.true else Bool.false) = Bool.true → True) ∧ ((Bool.true && bif Decidable.decide ((0 : Int) ≤ x.1.2.1) then Bool.true else Bool.false) = Bool.true → True) ∧ ((Bool.true && bif Decidable.decide ((0 : Int) ≤ x.1.2.1) then Bool.true else Bool.false) = Bool.true → True) ∧ True ∧ True ∧ ((Bool.true && bif bif Decidable.decide ((0 : Int) ≤ x.1.2.1) then Decidable.decide (x.1.2.1 < (3 : Int)) else Bool.false then Bool.true else Bool.false) = Bool.true → True) ∧ ((Bool.true && bif bif Decidable.decide ((0 : Int) ≤ x.1.2.1) then Decidable.decide (x.1.2.1 < (3 : Int)) else Bool.false then Bool.true else Bool.false) = Bool.true → True) ∧ ((Bool.true && bif bif Decidable.decide ((0 : Int) ≤ x.1.2.1) then Decidable.decide (x.1.2.1 < (3 : Int)) else Bool.false then Bool.true else Bool.false) = Bool.true → True) ∧ True ∧ True ∧ True) ∧ True) ∧ (bif bif Decidable.decide ((0 : Int) ≤ x.1.2.1) then Decidable.decide (x.1.2.1 < (3 : Int)) else Bool.false then x.1.2.2.1 == (0 : Int) else Bool.false) = Sp.usual x.1) ∧ ((x.1.1 == (1 : Int)) = Bool.false → ((True ∧ True ∧ True) ∧ True) ∧ ((x.1.1 == (2 : Int)) = Bool.true → ((x.1.1 == (2 : Int)) = Bool.true → ((True ∧ True ∧ True ∧ True ∧ ((Bool.true && bif Decidable.decide ((0 : Int) ≤ x.1.2.1) then Bool.true else Bool.false) = Bool.true → True) ∧ ((Bool.true && bif Decidable.decide ((0 : Int) ≤ x.1.2.1) then Bool.true else Bool.false) = Bool.true → True) ∧ ((Bool.true && bif Decidable.decide ((0 : Int) ≤ x.1.2.1) then Bool.true else Bool.false) = Bool.true → True) ∧ True ∧ True ∧ ((Bool.true && bif bif Decidable.decide ((0 : Int) ≤ x.1.2.1) then Decidable.decide (x.1.2.1 < (3 : Int)) else Bool.false then Bool.true else Bool.false) = Bool.true → True) ∧ ((Bool.true && bif bif Decidable.decide ((0 : Int) ≤ x.1.2.1) then Decidable.decide (x.1.2.1 < (3 : Int)) else Bool.false then Bool.true else Bool.false) = Bool.true → True) ∧ ((Bool.true && bif bif Decidable.decide ((0 : Int) ≤ x.1.2.1) then Decidable.decide (x.1.2.1 < (3 : Int)) else Bool.false then Bool.true else Bool.false) = Bool.true → True) ∧ True ∧ True ∧ ((Bool.true && bif bif bif Decidable.decide ((0 : Int) ≤ x.1.2.1) then Decidable.decide (x.1.2.1 < (3 : Int)) else Bool.false then Decidable.decide ((-100 : Int) ≤ x.1.2.2.1) else Bool.false then Bool.true else Bool.false) = Bool.true → True) ∧ ((Bool.true && bif bif bif Decidable.decide ((0 : Int) ≤ x.1.2.1) then Decidable.decide (x.1.2.1 < (3 : Int)) else Bool.false then Decidable.decide ((-100 : Int) ≤ x.1.2.2.1) else Bool.false then Bool.true else Bool.false) = Bool.true → True) ∧ ((Bool.true && bif bif bif Decidable.decide ((0 : Int) ≤ x.1.2.1) then Decidable.decide (x.1.2.1 < (3 : Int)) else Bool.false then Decidable.decide ((-100 : Int) ≤ x.1.2.2.1) else Bool.false then Bool.true else Bool.false) = Bool.true → True) ∧ True ∧ True ∧ True) ∧ True) ∧ (bif bif bif Decidable.decide ((0 : Int) ≤ x.1.2.1) then Decidable.decide (x.1.2.1 < (3 : Int)) else Bool.false then Decidable.decide ((-100 : Int) ≤ x.1.2.2.1) else Bool.false then Decidable.decide (x.1.2.2.1 ≤ (100 : Int)) else Bool.false) = Sp.usual x.1) ∧ ((x.1.1 == (2 : Int)) = Bool.false → ((True ∧ True) ∧ True) ∧ Bool.false = Sp.usual x.1)) ∧ ((x.1.1 == (2 : Int)) = Bool.false → ((True ∧ True ∧ True) ∧ True) ∧ ((x.1.1 == (3 : Int)) = Bool.true → ((True ∧ True ∧ True ∧ True ∧ ((Bool.true && bif Decidable.decide ((0 : Int) ≤ x.1.2.1) then Bool.true else Bool.false) = Bool.true → True) ∧ ((Bool.true && bif Decidable.decide ((0 : Int) ≤ x.1.2.1) then Bool.true else Bool.false) = Bool.true → True) ∧ ((Bool.true && bif Decidable.decide ((0 : Int) ≤ x.1.2.1) then Bool.true else Bool.false) = Bool.true → True) ∧ True ∧ True ∧ ((Bool.true && bif bif Decidable.decide ((0 : Int) ≤ x.1.2.1) then Decidable.decide (x.1.2.1 < (3 : Int)) else Bool.false then Bool.true else Bool.false) = Bool.true → True) ∧ ((Bool.true && bif bif Decidable.decide ((0 : Int) ≤ x.1.2.1) then Decidable.decide (x.1.2.1 < (3 : Int)) else Bool.false then Bool.true else Bool.false) = Bool.true → True) ∧ ((Bool.true && bif bif Decidable.decide ((0 : Int) ≤ x.1.2.1) then Decidable.decide (x.1.2.1 < (3 : Int)) else Bool.false then Bool.true else Bool.false) = Bool.true → True) ∧ True ∧ True ∧ ((Bool.true && bif bif bif Decidable.decide ((0 : Int) ≤ x.1.2.1) then Decidable.decide (x.1.2.1 < (3 : Int)) else Bool.false then Decidable.decide ((-100 : Int) ≤ x.1.2.2.1) else Bool.false then Bool.true else Bool.false) = Bool.true → True) ∧ ((Bool.true && bif bif bif Decidable.decide ((0 : Int) ≤ x.1.2.1) then Decidable.decide (x.1.2.1 < (3 : Int)) else Bool.false then Decidable.decide ((-100 : Int) ≤ x.1.2.2.1) else Bool.false then Bool.true else Bool.false) = Bool.true → True) ∧ ((Bool.true && bif bif bif Decidable.decide ((0 : Int) ≤ x.1.2.1) then Decidable.decide (x.1.2.1 < (3 : Int)) else Bool.false then Decidable.decide ((-100 : Int) ≤ x.1.2.2.1) else Bool.false then Bool.true else Bool.false) = Bool.true → True) ∧ True ∧ True ∧ True) ∧ True) ∧ (bif bif bif Decidable.decide ((0 : Int) ≤ x.1.2.1) then Decidable.decide (x.1.2.1 < (3 : Int)) else Bool.false then Decidable.decide ((-100 : Int) ≤ x.1.2.2.1) else Bool.false then Decidable.decide (x.1.2.2.1 ≤ (100 : Int)) else Bool.false) = Sp.usual x.1) ∧ ((x.1.1 == (3 : Int)) = Bool.false → ((True ∧ True) ∧ True) ∧ Bool.false = Sp.usual x.1))))) := by kernel_rfl
  rw [e]
  simp only [true_and, and_true, eq_self, forall_const, decide_eq_true_eq, decide_eq_false_iff_not, Int.not_lt, Int.not_le, Bool.and_eq_true, true_implies, implies_true, Bool.not_eq_true', Bool.not_eq_false', false_implies, Bool.false_eq_true, Bool.true_eq_false, and_self, beq_iff_eq, beq_eq_false_iff_ne, ne_eq, Int.toNat_natCast, Bool.cond_false_right, Bool.cond_true_left, exists_prop, ge_iff_le, gt_iff_lt, List.length_singleton, List.length_nil, List.nil_append, List.append_eq, Bool.cond_false_left, Bool.cond_true_right, Bool.or_false, Bool.and_true, Bool.or_eq_false_iff, Bool.not_eq_true, bne_iff_ne, bne_eq_false_iff_eq]
  all_goals first | exact h | (simp only [true_and, and_true, eq_self, forall_const, decide_eq_true_eq, decide_eq_false_iff_not, Int.not_lt, Int.not_le, Bool.and_eq_true, true_implies, implies_true, Bool.not_eq_true', Bool.not_eq_false', false_implies, Bool.false_eq_true, Bool.true_eq_false, and_self, beq_iff_eq, beq_eq_false_iff_ne, ne_eq, Int.toNat_natCast, Bool.cond_false_right, Bool.cond_true_left, exists_prop, ge_iff_le, gt_iff_lt, List.length_singleton, List.length_nil, List.nil_append, List.append_eq, Bool.cond_false_left, Bool.cond_true_right, Bool.or_false, Bool.and_true, Bool.or_eq_false_iff, Bool.not_eq_true, bne_iff_ne, bne_eq_false_iff_eq] at h; exact h)
theorem vc61 (h : (
  ∀ (x : (Int × (Int × Int × Int × Unit) × Int × Unit) × Unit), Go.Lf.inK Go.IntKind.i64 x.1.1 ∧ (Go.Lf.inK Go.IntKind.i64 x.1.2.1.1 ∧ Go.Lf.inK Go.IntKind.i64 x.1.2.1.2.1 ∧ Go.Lf.inK Go.IntKind.i64 x.1.2.1.2.2.1) ∧ Go.Lf.inK Go.IntKind.i64 x.1.2.2.1 → (!Sp.usual x.1.2.1) = !Sp.usual x.1.2.1)) : Go.Lf.funI Go.User.C61 (Go.Lf.stpP Go.User.C61) Go.User.S61 Go.User.L61 Go.Proofs.Try.f61 := by
  have e : Go.Lf.funI Go.User.C61 (Go.Lf.stpP Go.User.C61) Go.User.S61 Go.User.L61 Go.Proofs.Try.f61 = (
  ∀ (x : (Int × (Int × Int × Int × Unit) × Int × Unit) × Unit), True → (Go.Lf.inK Go.IntKind.i64 x.1.1 ∧ (Go.Lf.inK Go.IntKind.i64 x.1.2.1.1 ∧ Go.Lf.inK Go.IntKind.i64 x.1.2.1.2.1 ∧ Go.Lf.inK Go.IntKind.i64 x.1.2.1.2.2.1 ∧ True) ∧ Go.Lf.inK Go.IntKind.i64 x.1.2.2.1 ∧ True) ∧ True → ((True ∧ True ∧ True) ∧ True) ∧ ((True ∧ True ∧ True ∧ True ∧ True ∧ True) ∧ True) ∧ (!Sp.usual x.1.2.1) = !Sp.usual x.1.2.1) := by kernel_rfl
  rw [e]
  simp only [true_and, and_true, eq_self, forall_const, decide_eq_true_eq, decide_eq_false_iff_not, Int.not_lt, Int.not_le, Bool.and_eq_true, true_implies, implies_true, Bool.not_eq_true', Bool.not_eq_false', false_implies, Bool.false_eq_true, Bool.true_eq_false, and_self, beq_iff_eq, beq_eq_false_iff_ne, ne_eq, Int.toNat_natCast, Bool.cond_false_right, Bool.cond_true_left, exists_prop, ge_iff_le, gt_iff_lt, List.length_singleton, List.length_nil, List.nil_append, List.append_eq, Bool.cond_false_left, Bool.cond_true_right, Bool.or_false, Bool.and_true, Bool.or_eq_false_iff, Bool.not_eq_true, bne_iff_ne, bne_eq_false_iff_eq]
  all_goals first | exact h | (simp only [true_and, and_true, eq_self, forall_const, decide_eq_true_eq, decide_eq_false_iff_not, Int.not_lt, Int.not_le, Bool.and_eq_true, true_implies, implies_true, Bool.not_eq_true', Bool.not_eq_false', false_implies, Bool.false_eq_true, Bool.true_eq_false, and_self, beq_iff_eq, beq_eq_false_iff_ne, ne_eq, Int.toNat_natCast, Bool.cond_false_right, Bool.cond_true_left, exists_prop, ge_iff_le, gt_iff_lt, List.length_singleton, List.length_nil, List.nil_append, List.append_eq, Bool.cond_false_left, Bool.cond_true_right, Bool.or_false, Bool.and_true, Bool.or_eq_false_iff, Bool.not_eq_true, bne_iff_ne, bne_eq_false_iff_eq] at h; exact h)
theorem vc64 (h : (
  ∀ (x : List (Int × (Int × Int × Int × Unit) × Int × Unit) × Go.Lf.Fun (Go.User.tLEv :: ([] : List Go.Lf.Ty)) Go.Lf.Ty.bool × Unit), (∀ (e : Int × (Int × Int × Int × Unit) × Int × Unit), x.2.1.1 (e, ())) → (x.1.length ≤ Go.Lf.lim ∧ ∀ (x_1 : Int × (Int × Int × Int × Unit) × Int × Unit), x_1 ∈ x.1 → Go.Lf.inK Go.IntKind.i64 x_1.1 ∧ (Go.Lf.inK Go.IntKind.i64 x_1.2.1.1 ∧ Go.Lf.inK Go.IntKind.i64 x_1.2.1.2.1 ∧ Go.Lf.inK Go.IntKind.i64 x_1.2.1.2.2.1) ∧ Go.Lf.inK Go.IntKind.i64 x_1.2.2.1) → (∃ (x_1 : Nat), (x_1 ≤ x.1.length ∧ ∀ (e : Int × (Int × Int × Int × Unit) × Int × Unit), e ∈ List.take x_1 x.1 → x.2.1.2 (e, ()) = Bool.false) ∧ (0 : Int) = (↑x_1 : Int)) ∧ ∀ (x_1 : Nat), (x_1 ≤ x.1.length ∧ ∀ (e : Int × (Int × Int × Int × Unit) × Int × Unit), e ∈ List.take x_1 x.1 → x.2.1.2 (e, ()) = Bool.false) → Go.Lf.inK Go.IntKind.i64 (↑x_1 : Int) → ((↑x_1 : Int) < (↑x.1.length : Int) → (Go.Lf.inN (↑x_1 : Int) x.1.length ∧ x.2.1.1 (x.1.getD x_1 ((0 : Int), ((0 : Int), (0 : Int), (0 : Int), ()), (0 : Int), ()), ())) ∧ (x.2.1.2 (x.1.getD x_1 ((0 : Int), ((0 : Int), (0 : Int), (0 : Int), ()), (0 : Int), ()), ()) = Bool.true → (↑x_1 : Int) = Sp.findI (fun (e : Sp.LEv) => x.2.1.2 (e, ())) x.1) ∧ (x.2.1.2 (x.1.getD x_1 ((0 : Int), ((0 : Int), (0 : Int), (0 : Int), ()), (0 : Int), ()), ()) = Bool.false → Go.Lf.inK Go.IntKind.i64 ((↑x_1 : Int) + (1 : Int)) ∧ ∃ (y : Nat), (y ≤ x.1.length ∧ ∀ (e : Int × (Int × Int × Int × Unit) × Int × Unit), e ∈ List.take y x.1 → x.2.1.2 (e, ()) = Bool.false) ∧ x.1.length - y < x.1.length - x_1 ∧ (↑x_1 : Int) + (1 : Int) = (↑y : Int))) ∧ ((↑x.1.length : Int) ≤ (↑x_1 : Int) → (-1 : Int) = Sp.findI (fun (e : Sp.LEv) => x.2.1.2 (e, ())) x.1))) : Go.Lf.funI Go.User.C64 (Go.Lf.stpP Go.User.C64) Go.User.S64 Go.User.L64 Go.Proofs.Try.f64 := by
  have e : Go.Lf.funI Go.User.C64 (Go.Lf.stpP Go.User.C64) Go.User.S64 Go.User.L64 Go.Proofs.Try.f64 = (
  ∀ (x : List (Int × (Int × Int × Int × Unit) × Int × Unit) × Go.Lf.Fun (Go.User.tLEv :: ([] : List Go.Lf.Ty)) Go.Lf.Ty.bool × Unit), (∀ (e : Int × (Int × Int × Int × Unit) × Int × Unit), x.2.1.1 (e, ())) → (x.1.length ≤ Go.Lf.lim ∧ ∀ (x_1 : Int × (Int × Int × Int × Unit) × Int × Unit), x_1 ∈ x.1 → Go.Lf.inK Go.IntKind.i64 x_1.1 ∧ (Go.Lf.inK Go.IntKind.i64 x_1.2.1.1 ∧ Go.Lf.inK Go.IntKind.i64 x_1.2.1.2.1 ∧ Go.Lf.inK Go.IntKind.i64 x_1.2.1.2.2.1 ∧ True) ∧ Go.Lf.inK Go.IntKind.i64 x_1.2.2.1 ∧ True) ∧ True → ((True ∧ True) ∧ True) ∧ ((True ∧ True ∧ True ∧ True) ∧ True) ∧ (∃ (x_1 : Nat), (x_1 ≤ x.1.length ∧ ∀ (e : Int × (Int × Int × Int × Unit) × Int × Unit), e ∈ List.take x_1 x.1 → x.2.1.2 (e, ()) = Bool.false) ∧ (0 : Int) = (↑x_1 : Int) ∧ x.1 = x.1 ∧ (∃ (h1 : Go.User.tLEv :: ([] : List Go.Lf.Ty) = Go.User.tLEv :: ([] : List Go.Lf.Ty)), ∃ (h2 : Go.Lf.Ty.bool = Go.Lf.Ty.bool), x.2.1 = x.2.1) ∧ (↑x.1.length : Int) = (↑x.1.length : Int) ∧ True) ∧ ∀ (x_1 : Nat), (x_1 ≤ x.1.length ∧ ∀ (e : Int × (Int × Int × Int × Unit) × Int × Unit), e ∈ List.take x_1 x.1 → x.2.1.2 (e, ()) = Bool.false) → Go.Lf.inK Go.IntKind.i64 (↑x_1 : Int) ∧ True → ((True ∧ True) ∧ True) ∧ (Decidable.decide ((↑x_1 : Int) < (↑x.1.length : Int)) = Bool.true → ((True ∧ True ∧ True) ∧ True) ∧ ((True ∧ True ∧ True ∧ Go.Lf.inN (↑x_1 : Int) x.1.length ∧ True ∧ x.2.1.1 (x.1.getD (↑x_1 : Int).toNat ((0 : Int), ((0 : Int), (0 : Int), (0 : Int), ()), (0 : Int), ()), ()) ∧ True) ∧ True) ∧ (x.2.1.2 (x.1.getD (↑x_1 : Int).toNat ((0 : Int), ((0 : Int), (0 : Int), (0 : Int), ()), (0 : Int), ()), ()) = Bool.true → ((True ∧ True ∧ True) ∧ True) ∧ (↑x_1 : Int) = Sp.findI (fun (e : Sp.LEv) => x.2.1.2 (e, ())) x.1) ∧ (x.2.1.2 (x.1.getD (↑x_1 : Int).toNat ((0 : Int), ((0 : Int), (0 : Int), (0 : Int), ()), (0 : Int), ()), ()) = Bool.false → ((Go.Lf.inK Go.IntKind.i64 ((↑x_1 : Int) + (1 : Int)) ∧ True ∧ True) ∧ True) ∧ ∃ (y : Nat), (y ≤ x.1.length ∧ ∀ (e : Int × (Int × Int × Int × Unit) × Int × Unit), e ∈ List.take y x.1 → x.2.1.2 (e, ()) = Bool.false) ∧ x.1.length - y < x.1.length - x_1 ∧ (↑x_1 : Int) + (1 : Int) = (↑y : Int) ∧ x.1 = x.1 ∧ (∃ (h1 : Go.User.tLEv :: ([] : List Go.Lf.Ty) = Go.User.tLEv :: ([] : List Go.Lf.Ty)), ∃ (h2 : Go.Lf.Ty.bool = Go.Lf.Ty.bool), x.2.1 = x.2.1) ∧ (↑x.1.length : Int) = (↑x.1.length : Int) ∧ True)) ∧ (Decidable.decide ((↑x_1 : Int) < (↑x.1.length : Int)) = Bool.false → ((True ∧ True) ∧ True) ∧ (-1 : Int) = Sp.findI (fun (e : Sp.LEv) => x.2.1.2 (e, ())) x.1)) := by kernel_rfl
  rw [e]
  simp only [true_and, and_true, eq_self, forall_const, decide_eq_true_eq, decide_eq_false_iff_not, Int.not_lt, Int.not_le, Bool.and_eq_true, true_implies, implies_true, Bool.not_eq_true', Bool.not_eq_false', false_implies, Bool.false_eq_true, Bool.true_eq_false, and_self, beq_iff_eq, beq_eq_false_iff_ne, ne_eq, Int.toNat_natCast, Bool.cond_false_right, Bool.cond_true_left, exists_prop, ge_iff_le, gt_iff_lt, List.length_singleton, List.length_nil, List.nil_append, List.append_eq, Bool.cond_false_left, Bool.cond_true_right, Bool.or_false, Bool.and_true, Bool.or_eq_false_iff, Bool.not_eq_true, bne_iff_ne, bne_eq_false_iff_eq]
  all_goals first | exact h | (simp only [true_and, and_true, eq_self, forall_const, decide_eq_true_eq, decide_eq_false_iff_not, Int.not_lt, Int.not_le, Bool.and_eq_true, true_implies, implies_true, Bool.not_eq_true', Bool.not_eq_false', false_implies, Bool.false_eq_true, Bool.true_eq_false, and_self, beq_iff_eq, beq_eq_false_iff_ne, ne_eq, Int.toNat_natCast, Bool.cond_false_right, Bool.cond_true_left, exists_prop, ge_iff_le, gt_iff_lt, List.length_singleton, List.length_nil, List.nil_append, List.append_eq, Bool.cond_false_left, Bool.cond_true_right, Bool.or_false, Bool.and_true, Bool.or_eq_false_iff, Bool.not_eq_true, bne_iff_ne, bne_eq_false_iff_eq] at h; exact h)
theorem vc60 (h : (
  ∀ (x : List (Int × (Int × Int × Int × Unit) × Int × Unit) × Go.Lf.Fun (Go.User.tLEv :: ([] : List Go.Lf.Ty)) Go.Lf.Ty.bool × Unit), (∀ (e : Int × (Int × Int × Int × Unit) × Int × Unit), x.2.1.1 (e, ())) → (x.1.length ≤ Go.Lf.lim ∧ ∀ (x_1 : Int × (Int × Int × Int × Unit) × Int × Unit), x_1 ∈ x.1 → Go.Lf.inK Go.IntKind.i64 x_1.1 ∧ (Go.Lf.inK Go.IntKind.i64 x_1.2.1.1 ∧ Go.Lf.inK Go.IntKind.i64 x_1.2.1.2.1 ∧ Go.Lf.inK Go.IntKind.i64 x_1.2.1.2.2.1) ∧ Go.Lf.inK Go.IntKind.i64 x_1.2.2.1) → (∀ (e : Int × (Int × Int × Int × Unit) × Int × Unit), x.2.1.1 (e, ())) ∧ Decidable.decide ((0 : Int) ≤ Sp.findI (fun (e : Sp.LEv) => x.2.1.2 (e, ())) x.1) = x.1.any fun (e : Go.User.tLEv.den) => x.2.1.2 (e, ()))) : Go.Lf.funI Go.User.C60 (Go.Lf.stpP Go.User.C60) Go.User.S60 Go.User.L60 Go.Proofs.Try.f60 := by
  have e : Go.Lf.funI Go.User.C60 (Go.Lf.stpP Go.User.C60) Go.User.S60 Go.User.L60 Go.Proofs.Try.f60 = (
  ∀ (x : List (Int × (Int × Int × Int × Unit) × Int × Unit) × Go.Lf.Fun (Go.User.tLEv :: ([] : List Go.Lf.Ty)) Go.Lf.Ty.bool × Unit), (∀ (e : Int × (Int × Int × Int × Unit) × Int × Unit), x.2.1.1 (e, ())) → (x.1.length ≤ Go.Lf.lim ∧ ∀ (x_1 : Int × (Int × Int × Int × Unit) × Int × Unit), x_1 ∈ x.1 → Go.Lf.inK Go.IntKind.i64 x_1.1 ∧ (Go.Lf.inK Go.IntKind.i64 x_1.2.1.1 ∧ Go.Lf.inK Go.IntKind.i64 x_1.2.1.2.1 ∧ Go.Lf.inK Go.IntKind.i64 x_1.2.1.2.2.1 ∧ True) ∧ Go.Lf.inK Go.IntKind.i64 x_1.2.2.1 ∧ True) ∧ True → ((True ∧ True) ∧ True) ∧ ((True ∧ True ∧ (∀ (e : Int × (Int × Int × Int × Unit) × Int × Unit), x.2.1.1 (e, ())) ∧ True ∧ True ∧ True) ∧ True) ∧ Decidable.decide (Sp.findI (fun (e : Sp.LEv) => x.2.1.2 (e, ())) x.1 ≥ (0 : Int)) = x.1.any fun (e : Go.User.tLEv.den) => x.2.1.2 (e, ())) := by kernel_rfl
  rw [e]
  simp only [true_and, and_true, eq_self, forall_const, decide_eq_true_eq, decide_eq_false_iff_not, Int.not_lt, Int.not_le, Bool.and_eq_true, true_implies, implies_true, Bool.not_eq_true', Bool.not_eq_false', false_implies, Bool.false_eq_true, Bool.true_eq_false, and_self, beq_iff_eq, beq_eq_false_iff_ne, ne_eq, Int.toNat_natCast, Bool.cond_false_right, Bool.cond_true_left, exists_prop, ge_iff_le, gt_iff_lt, List.length_singleton, List.length_nil, List.nil_append, List.append_eq, Bool.cond_false_left, Bool.cond_true_right, Bool.or_false, Bool.and_true, Bool.or_eq_false_iff, Bool.not_eq_true, bne_iff_ne, bne_eq_false_iff_eq]
  all_goals first | exact h | (simp only [true_and, and_true, eq_self, forall_const, decide_eq_true_eq, decide_eq_false_iff_not, Int.not_lt, Int.not_le, Bool.and_eq_true, true_implies, implies_true, Bool.not_eq_true', Bool.not_eq_false', false_implies, Bool.false_eq_true, Bool.true_eq_false, and_self, beq_iff_eq, beq_eq_false_iff_ne, ne_eq, Int.toNat_natCast, Bool.cond_false_right, Bool.cond_true_left, exists_prop, ge_iff_le, gt_iff_lt, List.length_singleton, List.length_nil, List.nil_append, List.append_eq, Bool.cond_false_left, Bool.cond_true_right, Bool.or_false, Bool.and_true, Bool.or_eq_false_iff, Bool.not_eq_true, bne_iff_ne, bne_eq_false_iff_eq] at h; exact h)
theorem vc40 (h : (
  ∀ (x : (List (Int × (Int × Int × Int × Unit) × Int × Unit) × List Int × List (List Int) × List Int × Unit) × Int × Unit), x.2.1 < (↑x.1.1.length : Int) → ((x.1.1.length ≤ Go.Lf.lim ∧ ∀ (x_1 : Int × (Int × Int × Int × Unit) × Int × Unit), x_1 ∈ x.1.1 → Go.Lf.inK Go.IntKind.i64 x_1.1 ∧ (Go.Lf.inK Go.IntKind.i64 x_1.2.1.1 ∧ Go.Lf.inK Go.IntKind.i64 x_1.2.1.2.1 ∧ Go.Lf.inK Go.IntKind.i64 x_1.2.1.2.2.1) ∧ Go.Lf.inK Go.IntKind.i64 x_1.2.2.1) ∧ (x.1.2.1.length ≤ Go.Lf.lim ∧ ∀ (x_1 : Int), x_1 ∈ x.1.2.1 → Go.Lf.inK Go.IntKind.i64 x_1) ∧ (x.1.2.2.1.length ≤ Go.Lf.lim ∧ ∀ (x_1 : List Int), x_1 ∈ x.1.2.2.1 → x_1.length ≤ Go.Lf.lim ∧ ∀ (x : Int), x ∈ x_1 → Go.Lf.inK Go.IntKind.i64 x) ∧ x.1.2.2.2.1.length ≤ Go.Lf.lim ∧ ∀ (x_1 : Int), x_1 ∈ x.1.2.2.2.1 → Go.Lf.inK Go.IntKind.i64 x_1) ∧ Go.Lf.inK Go.IntKind.i64 x.2.1 → (x.2.1 < (0 : Int) → (0 : Int) = Sp.value x.1.1 x.2.1) ∧ ((0 : Int) ≤ x.2.1 → Go.Lf.inN x.2.1 x.1.1.length ∧ ((x.1.1.getD x.2.1.toNat ((0 : Int), ((0 : Int), (0 : Int), (0 : Int), ()), (0 : Int), ())).2.1.1 = (3 : Int) → Go.Lf.inN x.2.1 x.1.1.length ∧ Go.IntKind.i64.wrap ((x.1.1.getD x.2.1.toNat ((0 : Int), ((0 : Int), (0 : Int), (0 : Int), ()), (0 : Int), ())).2.2.1 + (x.1.1.getD x.2.1.toNat ((0 : Int), ((0 : Int), (0 : Int), (0 : Int), ()), (0 : Int), ())).2.1.2.2.1) = Sp.value x.1.1 x.2.1) ∧ (¬(x.1.1.getD x.2.1.toNat ((0 : Int), ((0 : Int), (0 : Int), (0 : Int), ()), (0 : Int), ())).2.1.1 = (3 : Int) → Go.Lf.inN x.2.1 x.1.1.length ∧ (x.1.1.getD x.2.1.toNat ((0 : Int), ((0 : Int), (0 : Int), (0 : Int), ()), (0 : Int), ())).2.1.2.2.1 = Sp.value x.1.1 x.2.1)))) : Go.Lf.funI Go.User.C40 (Go.Lf.stpP Go.User.C40) Go.User.S40 Go.User.L40 Go.Proofs.Try.f40 := by
  have e : Go.Lf.funI Go.User.C40 (Go.Lf.stpP Go.User.C40) Go.User.S40 Go.User.L40 Go.Proofs.Try.f40 = (
  ∀ (x : (List (Int × (Int × Int × Int × Unit) × Int × Unit) × List Int × List (List Int) × List Int × Unit) × Int × Unit), x.2.1 < (↑x.1.1.length : Int) → ((x.1.1.length ≤ Go.Lf.lim ∧ ∀ (x_1 : Int × (Int × Int × Int × Unit) × Int × Unit), x_1 ∈ x.1.1 → Go.Lf.inK Go.IntKind.i64 x_1.1 ∧ (Go.Lf.inK Go.IntKind.i64 x_1.2.1.1 ∧ Go.Lf.inK Go.IntKind.i64 x_1.2.1.2.1 ∧ Go.Lf.inK Go.IntKind.i64 x_1.2.1.2.2.1 ∧ True) ∧ Go.Lf.inK Go.IntKind.i64 x_1.2.2.1 ∧ True) ∧ (x.1.2.1.length ≤ Go.Lf.lim ∧ ∀ (x_1 : Int), x_1 ∈ x.1.2.1 → Go.Lf.inK Go.IntKind.i64 x_1) ∧ (x.1.2.2.1.length ≤ Go.Lf.lim ∧ ∀ (x_1 : List Int), x_1 ∈ x.1.2.2.1 → x_1.length ≤ Go.Lf.lim ∧ ∀ (x : Int), x ∈ x_1 → Go.Lf.inK Go.IntKind.i64 x) ∧ (x.1.2.2.2.1.length ≤ Go.Lf.lim ∧ ∀ (x_1 : Int), x_1 ∈ x.1.2.2.2.1 → Go.Lf.inK Go.IntKind.i64 x_1) ∧ True) ∧ Go.Lf.inK Go.IntKind.i64 x.2.1 ∧ True → ((True ∧ True ∧ True) ∧ True) ∧ ((True ∧ True ∧ True) ∧ True) ∧ (Decidable.decide (x.2.1 < (0 : Int)) = Bool.true → ((True ∧ True) ∧ True) ∧ (0 : Int) = Sp.value x.1.1 x.2.1) ∧ (Decidable.decide (x.2.1 < (0 : Int)) = Bool.false → ((True ∧ True ∧ True ∧ Go.Lf.inN x.2.1 x.1.1.length ∧ True ∧ True ∧ True ∧ True ∧ True) ∧ True) ∧ (((x.1.1.getD x.2.1.toNat ((0 : Int), ((0 : Int), (0 : Int), (0 : Int), ()), (0 : Int), ())).2.1.1 == (3 : Int)) = Bool.true → ((True ∧ True ∧ True ∧ Go.Lf.inN x.2.1 x.1.1.length ∧ True ∧ True ∧ True ∧ True ∧ True ∧ Go.Lf.inN x.2.1 x.1.1.length ∧ True ∧ True ∧ True ∧ True ∧ True ∧ True) ∧ True) ∧ Go.IntKind.i64.wrap ((x.1.1.getD x.2.1.toNat ((0 : Int), ((0 : Int), (0 : Int), (0 : Int), ()), (0 : Int), ())).2.2.1 + (x.1.1.getD x.2.1.toNat ((0 : Int), ((0 : Int), (0 : Int), (0 : Int), ()), (0 : Int), ())).2.1.2.2.1) = Sp.value x.1.1 x.2.1) ∧ (((x.1.1.getD x.2.1.toNat ((0 : Int), ((0 : Int), (0 : Int), (0 : Int), ()), (0 : Int), ())).2.1.1 == (3 : Int)) = Bool.false → ((True ∧ True ∧ True ∧ Go.Lf.inN x.2.1 x.1.1.length ∧ True ∧ True ∧ True ∧ True ∧ True) ∧ True) ∧ (x.1.1.getD x.2.1.toNat ((0 : Int), ((0 : Int), (0 : Int), (0 : Int), ()), (0 : Int), ())).2.1.2.2.1 = Sp.value x.1.1 x.2.1))) := by kernel_rfl
  rw [e]
  simp only [true_and, and_true, eq_self, forall_const, decide_eq_true_eq, decide_eq_false_iff_not, Int.not_lt, Int.not_le, Bool.and_eq_true, true_implies, implies_true, Bool.not_eq_true', Bool.not_eq_false', false_implies, Bool.false_eq_true, Bool.true_eq_false, and_self, beq_iff_eq, beq_eq_false_iff_ne, ne_eq, Int.toNat_natCast, Bool.cond_false_right, Bool.cond_true_left, exists_prop, ge_iff_le, gt_iff_lt, List.length_singleton, List.length_nil, List.nil_append, List.append_eq, Bool.cond_false_left, Bool.cond_true_right, Bool.or_false, Bool.and_true, Bool.or_eq_false_iff, Bool.not_eq_true, bne_iff_ne, bne_eq_false_iff_eq]
  all_goals first | exact h | (simp only [true_and, and_true, eq_self, forall_const, decide_eq_true_eq, decide_eq_false_iff_not, Int.not_lt, Int.not_le, Bool.and_eq_true, true_implies, implies_true, Bool.not_eq_true', Bool.not_eq_false', false_implies, Bool.false_eq_true, Bool.true_eq_false, and_self, beq_iff_eq, beq_eq_false_iff_ne, ne_eq, Int.toNat_natCast, Bool.cond_false_right, Bool.cond_true_left, exists_prop, ge_iff_le, gt_iff_lt, List.length_singleton, List.length_nil, List.nil_append, List.append_eq, Bool.cond_false_left, Bool.cond_true_right, Bool.or_false, Bool.and_true, Bool.or_eq_false_iff, Bool.not_eq_true, bne_iff_ne, bne_eq_false_iff_eq] at h; exact h)
theorem vc44 (h : (
  ∀ (x : (List (Int × (Int × Int × Int × Unit) × Int × Unit) × List Int × List (List Int) × List Int × Unit) × Int × Unit), x.2.1 < (↑x.1.1.length : Int) → ((x.1.1.length ≤ Go.Lf.lim ∧ ∀ (x_1 : Int × (Int × Int × Int × Unit) × Int × Unit), x_1 ∈ x.1.1 → Go.Lf.inK Go.IntKind.i64 x_1.1 ∧ (Go.Lf.inK Go.IntKind.i64 x_1.2.1.1 ∧ Go.Lf.inK Go.IntKind.i64 x_1.2.1.2.1 ∧ Go.Lf.inK Go.IntKind.i64 x_1.2.1.2.2.1) ∧ Go.Lf.inK Go.IntKind.i64 x_1.2.2.1) ∧ (x.1.2.1.length ≤ Go.Lf.lim ∧ ∀ (x_1 : Int), x_1 ∈ x.1.2.1 → Go.Lf.inK Go.IntKind.i64 x_1) ∧ (x.1.2.2.1.length ≤ Go.Lf.lim ∧ ∀ (x_1 : List Int), x_1 ∈ x.1.2.2.1 → x_1.length ≤ Go.Lf.lim ∧ ∀ (x : Int), x ∈ x_1 → Go.Lf.inK Go.IntKind.i64 x) ∧ x.1.2.2.2.1.length ≤ Go.Lf.lim ∧ ∀ (x_1 : Int), x_1 ∈ x.1.2.2.2.1 → Go.Lf.inK Go.IntKind.i64 x_1) ∧ Go.Lf.inK Go.IntKind.i64 x.2.1 → (x.2.1 < (0 : Int) → (0 : Int) = Sp.value x.1.1 x.2.1) ∧ ((0 : Int) ≤ x.2.1 → Go.Lf.inN x.2.1 x.1.1.length ∧ ((x.1.1.getD x.2.1.toNat ((0 : Int), ((0 : Int), (0 : Int), (0 : Int), ()), (0 : Int), ())).2.1.1 = (3 : Int) → Go.Lf.inN x.2.1 x.1.1.length ∧ Go.IntKind.i64.wrap ((x.1.1.getD x.2.1.toNat ((0 : Int), ((0 : Int), (0 : Int), (0 : Int), ()), (0 : Int), ())).2.2.1 + (x.1.1.getD x.2.1.toNat ((0 : Int), ((0 : Int), (0 : Int), (0 : Int), ()), (0 : Int), ())).2.1.2.2.1) = Sp.value x.1.1 x.2.1) ∧ (¬(x.1.1.getD x.2.1.toNat ((0 : Int), ((0 : Int), (0 : Int), (0 : Int), ()), (0 : Int), ())).2.1.1 = (3 : Int) → Go.Lf.inN x.2.1 x.1.1.length ∧ (x.1.1.getD x.2.1.toNat ((0 : Int), ((0 : Int), (0 : Int), (0 : Int), ()), (0 : Int), ())).2.1.2.2.1 = Sp.value x.1.1 x.2.1)))) : Go.Lf.funI Go.User.C44 (Go.Lf.stpP Go.User.C44) Go.User.S44 Go.User.L44 Go.Proofs.Try.f44 := by
  have e : Go.Lf.funI Go.User.C44 (Go.Lf.stpP Go.User.C44) Go.User.S44 Go.User.L44 Go.Proofs.Try.f44 = (
  ∀ (x : (List (Int × (Int × Int × Int × Unit) × Int × Unit) × List Int × List (List Int) × List Int × Unit) × Int × Unit), x.2.1 < (↑x.1.1.length : Int) → ((x.1.1.length ≤ Go.Lf.lim ∧ ∀ (x_1 : Int × (Int × Int × Int × Unit) × Int × Unit), x_1 ∈ x.1.1 → Go.Lf.inK Go.IntKind.i64 x_1.1 ∧ (Go.Lf.inK Go.IntKind.i64 x_1.2.1.1 ∧ Go.Lf.inK Go.IntKind.i64 x_1.2.1.2.1 ∧ Go.Lf.inK Go.IntKind.i64 x_1.2.1.2.2.1 ∧ True) ∧ Go.Lf.inK Go.IntKind.i64 x_1.2.2.1 ∧ True) ∧ (x.1.2.1.length ≤ Go.Lf.lim ∧ ∀ (x_1 : Int), x_1 ∈ x.1.2.1 → Go.Lf.inK Go.IntKind.i64 x_1) ∧ (x.1.2.2.1.length ≤ Go.Lf.lim ∧ ∀ (x_1 : List Int), x_1 ∈ x.1.2.2.1 → x_1.length ≤ Go.Lf.lim ∧ ∀ (x : Int), x ∈ x_1 → Go.Lf.inK Go.IntKind.i64 x) ∧ (x.1.2.2.2.1.length ≤ Go.Lf.lim ∧ ∀ (x_1 : Int), x_1 ∈ x.1.2.2.2.1 → Go.Lf.inK Go.IntKind.i64 x_1) ∧ True) ∧ Go.Lf.inK Go.IntKind.i64 x.2.1 ∧ True → ((True ∧ True ∧ True) ∧ True) ∧ ((True ∧ True ∧ True ∧ True) ∧ True) ∧ (Decidable.decide (x.2.1 < (0 : Int)) = Bool.true → ((True ∧ True) ∧ True) ∧ (0 : Int) = Sp.value x.1.1 x.2.1) ∧ (Decidable.decide (x.2.1 < (0 : Int)) = Bool.false → ((True ∧ True ∧ True ∧ Go.Lf.inN x.2.1 x.1.1.length ∧ True ∧ True ∧ True ∧ True ∧ True ∧ True) ∧ True) ∧ (((x.1.1.getD x.2.1.toNat ((0 : Int), ((0 : Int), (0 : Int), (0 : Int), ()), (0 : Int), ())).2.1.1 == (3 : Int)) = Bool.true → ((True ∧ True ∧ True ∧ Go.Lf.inN x.2.1 x.1.1.length ∧ True ∧ True ∧ True ∧ True ∧ True ∧ Go.Lf.inN x.2.1 x.1.1.length ∧ True ∧ True ∧ True ∧ True ∧ True ∧ True) ∧ True) ∧ Go.IntKind.i64.wrap ((x.1.1.getD x.2.1.toNat ((0 : Int), ((0 : Int), (0 : Int), (0 : Int), ()), (0 : Int), ())).2.2.1 + (x.1.1.getD x.2.1.toNat ((0 : Int), ((0 : Int), (0 : Int), (0 : Int), ()), (0 : Int), ())).2.1.2.2.1) = Sp.value x.1.1 x.2.1) ∧ (((x.1.1.getD x.2.1.toNat ((0 : Int), ((0 : Int), (0 : Int), (0 : Int), ()), (0 : Int), ())).2.1.1 == (3 : Int)) = Bool.false → ((True ∧ True ∧ True ∧ Go.Lf.inN x.2.1 x.1.1.length ∧ True ∧ True ∧ True ∧ True ∧ True) ∧ True) ∧ (x.1.1.getD x.2.1.toNat ((0 : Int), ((0 : Int), (0 : Int), (0 : Int), ()), (0 : Int), ())).2.1.2.2.1 = Sp.value x.1.1 x.2.1))) := by kernel_rfl
  rw [e]
  simp only [true_and, and_true, eq_self, forall_const, decide_eq_true_eq, decide_eq_false_iff_not, Int.not_lt, Int.not_le, Bool.and_eq_true, true_implies, implies_true, Bool.not_eq_true', Bool.not_eq_false', false_implies, Bool.false_eq_true, Bool.true_eq_false, and_self, beq_iff_eq, beq_eq_false_iff_ne, ne_eq, Int.toNat_natCast, Bool.cond_false_right, Bool.cond_true_left, exists_prop, ge_iff_le, gt_iff_lt, List.length_singleton, List.length_nil, List.nil_append, List.append_eq, Bool.cond_false_left, Bool.cond_true_right, Bool.or_false, Bool.and_true, Bool.or_eq_false_iff, Bool.not_eq_true, bne_iff_ne, bne_eq_false_iff_eq]
  all_goals first | exact h | (simp only [true_and, and_true, eq_self, forall_const, decide_eq_true_eq, decide_eq_false_iff_not, Int.not_lt, Int.not_le, Bool.and_eq_true, true_implies, implies_true, Bool.not_eq_true', Bool.not_eq_false', false_implies, Bool.false_eq_true, Bool.true_eq_false, and_self, beq_iff_eq, beq_eq_false_iff_ne, ne_eq, Int.toNat_natCast, Bool.cond_false_right, Bool.cond_true_left, exists_prop, ge_iff_le, gt_iff_lt, List.length_singleton, List.length_nil, List.nil_append, List.append_eq, Bool.cond_false_left, Bool.cond_true_right, Bool.or_false, Bool.and_true, Bool.or_eq_false_iff, Bool.not_eq_true, bne_iff_ne, bne_eq_false_iff_eq] at h; exact h)
theorem vc38 (h : (
  ∀ (x : List Int × Int × Unit), (0 : (Go.Lf.AK.val Go.User.tI).den) ≤ x.2.1 → (x.1.length ≤ Go.Lf.lim ∧ ∀ (x_1 : Int), x_1 ∈ x.1 → Go.Lf.inK Go.IntKind.u8 x_1) ∧ Go.Lf.inK Go.IntKind.i64 x.2.1 → (x.2.1 < (↑x.1.length : Int) → Go.Lf.inN x.2.1 x.1.length ∧ x.1.getD x.2.1.toNat (0 : Int) = Sp.byteAt x.1 x.2.1) ∧ ((↑x.1.length : Int) ≤ x.2.1 → (0 : Int) = Sp.byteAt x.1 x.2.1))) : Go.Lf.funI Go.User.C38 (Go.Lf.stpP Go.User.C38) Go.User.S38 Go.User.L38 Go.Proofs.Try.f38 := by
  have e : Go.Lf.funI Go.User.C38 (Go.Lf.stpP Go.User.C38) Go.User.S38 Go.User.L38 Go.Proofs.Try.f38 = (
  ∀ (x : List Int × Int × Unit), (0 : (Go.Lf.AK.val Go.User.tI).den) ≤ x.2.1 → (x.1.length ≤ Go.Lf.lim ∧ ∀ (x_1 : Int), x_1 ∈ x.1 → Go.Lf.inK Go.IntKind.u8 x_1) ∧ Go.Lf.inK Go.IntKind.i64 x.2.1 ∧ True → ((True ∧ True) ∧ True) ∧ ((True ∧ True ∧ True ∧ True ∧ True) ∧ True) ∧ (Decidable.decide (x.2.1 < (↑x.1.length : Int)) = Bool.true → ((True ∧ True ∧ Go.Lf.inN x.2.1 x.1.length ∧ True ∧ True ∧ True ∧ True) ∧ True) ∧ x.1.getD x.2.1.toNat (0 : Int) = Sp.byteAt x.1 x.2.1) ∧ (Decidable.decide (x.2.1 < (↑x.1.length : Int)) = Bool.false → ((True ∧ True) ∧ True) ∧ (0 : Int) = Sp.byteAt x.1 x.2.1)) := by kernel_rfl
  rw [e]
  simp only [true_and, and_true, eq_self, forall_const, decide_eq_true_eq, decide_eq_false_iff_not, Int.not_lt, Int.not_le, Bool.and_eq_true, true_implies, implies_true, Bool.not_eq_true', Bool.not_eq_false', false_implies, Bool.false_eq_true, Bool.true_eq_false, and_self, beq_iff_eq, beq_eq_false_iff_ne, ne_eq, Int.toNat_natCast, Bool.cond_false_right, Bool.cond_true_left, exists_prop, ge_iff_le, gt_iff_lt, List.length_singleton, List.length_nil, List.nil_append, List.append_eq, Bool.cond_false_left, Bool.cond_true_right, Bool.or_false, Bool.and_true, Bool.or_eq_false_iff, Bool.not_eq_true, bne_iff_ne, bne_eq_false_iff_eq]
  all_goals first | exact h | (simp only [true_and, and_true, eq_self, forall_const, decide_eq_true_eq, decide_eq_false_iff_not, Int.not_lt, Int.not_le, Bool.and_eq_true, true_implies, implies_true, Bool.not_eq_true', Bool.not_eq_false', false_implies, Bool.false_eq_true, Bool.true_eq_false, and_self, beq_iff_eq, beq_eq_false_iff_ne, ne_eq, Int.toNat_natCast, Bool.cond_false_right, Bool.cond_true_left, exists_prop, ge_iff_le, gt_iff_lt, List.length_singleton, List.length_nil, List.nil_append, List.append_eq, Bool.cond_false_left, Bool.cond_true_right, Bool.or_false, Bool.and_true, Bool.or_eq_false_iff, Bool.not_eq_true, bne_iff_ne, bne_eq_false_iff_eq] at h; exact h)
theorem vc46 (h : (
  ∀ (x : (Int × Int × Int × Unit) × Int × Unit), (Go.Lf.inK Go.IntKind.i64 x.1.1 ∧ Go.Lf.inK Go.IntKind.i64 x.1.2.1 ∧ Go.Lf.inK Go.IntKind.i64 x.1.2.2.1) ∧ Go.Lf.inK Go.IntKind.i64 x.2.1 → (Sp.writes x.1 && x.1.2.1 == x.2.1) = (Sp.writes x.1 && Decidable.decide (x.1.2.1 = x.2.1)))) : Go.Lf.funI Go.User.C46 (Go.Lf.stpP Go.User.C46) Go.User.S46 Go.User.L46 Go.Proofs.Try.f46 := by
  have e : Go.Lf.funI Go.User.C46 (Go.Lf.stpP Go.User.C46) Go.User.S46 Go.User.L46 Go.Proofs.Try.f46 = (
  ∀ (x : (Int × Int × Int × Unit) × Int × Unit), True → (Go.Lf.inK Go.IntKind.i64 x.1.1 ∧ Go.Lf.inK Go.IntKind.i64 x.1.2.1 ∧ Go.Lf.inK Go.IntKind.i64 x.1.2.2.1 ∧ True) ∧ Go.Lf.inK Go.IntKind.i64 x.2.1 ∧ True → ((True ∧ True ∧ True) ∧ True) ∧ ((True ∧ True ∧ True ∧ ((Bool.true && bif Sp.writes x.1 then Bool.true else Bool.false) = Bool.true → True) ∧ ((Bool.true && bif Sp.writes x.1 then Bool.true else Bool.false) = Bool.true → True) ∧ ((Bool.true && bif Sp.writes x.1 then Bool.true else Bool.false) = Bool.true → True) ∧ ((Bool.true && bif Sp.writes x.1 then Bool.true else Bool.false) = Bool.true → True) ∧ True ∧ True ∧ True) ∧ True) ∧ (bif Sp.writes x.1 then x.1.2.1 == x.2.1 else Bool.false) = (Sp.writes x.1 && Decidable.decide (x.1.2.1 = x.2.1))) := by kernel_rfl
  rw [e]
  simp only [true_and, and_true, eq_self, forall_const, decide_eq_true_eq, decide_eq_false_iff_not, Int.not_lt, Int.not_le, Bool.and_eq_true, true_implies, implies_true, Bool.not_eq_true', Bool.not_eq_false', false_implies, Bool.false_eq_true, Bool.true_eq_false, and_self, beq_iff_eq, beq_eq_false_iff_ne, ne_eq, Int.toNat_natCast, Bool.cond_false_right, Bool.cond_true_left, exists_prop, ge_iff_le, gt_iff_lt, List.length_singleton, List.length_nil, List.nil_append, List.append_eq, Bool.cond_false_left, Bool.cond_true_right, Bool.or_false, Bool.and_true, Bool.or_eq_false_iff, Bool.not_eq_true, bne_iff_ne, bne_eq_false_iff_eq]
  all_goals first | exact h | (simp only [true_and, and_true, eq_self, forall_const, decide_eq_true_eq, decide_eq_false_iff_not, Int.not_lt, Int.not_le, Bool.and_eq_true, true_implies, implies_true, Bool.not_eq_true', Bool.not_eq_false', false_implies, Bool.false_eq_true, Bool.true_eq_false, and_self, beq_iff_eq, beq_eq_false_iff_ne, ne_eq, Int.toNat_natCast, Bool.cond_false_right, Bool.cond_true_left, exists_prop, ge_iff_le, gt_iff_lt, List.length_singleton, List.length_nil, List.nil_append, List.append_eq, Bool.cond_false_left, Bool.cond_true_right, Bool.or_false, Bool.and_true, Bool.or_eq_false_iff, Bool.not_eq_true, bne_iff_ne, bne_eq_false_iff_eq] at h; exact h)
theorem vc47 (h : (
  ∀ (x : (Int × Int × Int × Unit) × Unit), Go.Lf.inK Go.IntKind.i64 x.1.1 ∧ Go.Lf.inK Go.IntKind.i64 x.1.2.1 ∧ Go.Lf.inK Go.IntKind.i64 x.1.2.2.1 → (x.1.1 == (4 : Int)) = Decidable.decide (x.1.1 = (4 : Go.User.tI.den)))) : Go.Lf.funI Go.User.C47 (Go.Lf.stpP Go.User.C47) Go.User.S47 Go.User.L47 Go.Proofs.Try.f47 := by
  have e : Go.Lf.funI Go.User.C47 (Go.Lf.stpP Go.User.C47) Go.User.S47 Go.User.L47 Go.Proofs.Try.f47 = (
  ∀ (x : (Int × Int × Int × Unit) × Unit), True → (Go.Lf.inK Go.IntKind.i64 x.1.1 ∧ Go.Lf.inK Go.IntKind.i64 x.1.2.1 ∧ Go.Lf.inK Go.IntKind.i64 x.1.2.2.1 ∧ True) ∧ True → ((True ∧ True ∧ True) ∧ True) ∧ ((True ∧ True ∧ True ∧ True ∧ True) ∧ True) ∧ (x.1.1 == (4 : Int)) = Decidable.decide (x.1.1 = (4 : Go.User.tI.den))) := by kernel_rfl
  rw [e]
  simp only [true_and, and_true, eq_self, forall_const, decide_eq_true_eq, decide_eq_false_iff_not, Int.not_lt, Int.not_le, Bool.and_eq_true, true_implies, implies_true, Bool.not_eq_true', Bool.not_eq_false', false_implies, Bool.false_eq_true, Bool.true_eq_false, and_self, beq_iff_eq, beq_eq_false_iff_ne, ne_eq, Int.toNat_natCast, Bool.cond_false_right, Bool.cond_true_left, exists_prop, ge_iff_le, gt_iff_lt, List.length_singleton, List.length_nil, List.nil_append, List.append_eq, Bool.cond_false_left, Bool.cond_true_right, Bool.or_false, Bool.and_true, Bool.or_eq_false_iff, Bool.not_eq_true, bne_iff_ne, bne_eq_false_iff_eq]
  all_goals first | exact h | (simp only [true_and, and_true, eq_self, forall_const, decide_eq_true_eq, decide_eq_false_iff_not, Int.not_lt, Int.not_le, Bool.and_eq_true, true_implies, implies_true, Bool.not_eq_true', Bool.not_eq_false', false_implies, Bool.false_eq_true, Bool.true_eq_false, and_self, beq_iff_eq, beq_eq_false_iff_ne, ne_eq, Int.toNat_natCast, Bool.cond_false_right, Bool.cond_true_left, exists_prop, ge_iff_le, gt_iff_lt, List.length_singleton, List.length_nil, List.nil_append, List.append_eq, Bool.cond_false_left, Bool.cond_true_right, Bool.or_false, Bool.and_true, Bool.or_eq_false_iff, Bool.not_eq_true, bne_iff_ne, bne_eq_false_iff_eq] at h; exact h)
theorem vc27 (h : (
  ∀ (x : Int × Int × Unit), Go.Lf.inK Go.IntKind.i64 x.1 ∧ Go.Lf.inK Go.IntKind.i64 x.2.1 → ((2 : Int), x.1, x.2.1, ()) = ((2 : Go.User.tI.den), x.1, x.2.1, ()))) : Go.Lf.funI Go.User.C27 (Go.Lf.stpP Go.User.C27) Go.User.S27 Go.User.L27 Go.Proofs.Try.f27 := by
  have e : Go.Lf.funI Go.User.C27 (Go.Lf.stpP Go.User.C27) Go.User.S27 Go.User.L27 Go.Proofs.Try.f27 = (
  ∀ (x : Int × Int × Unit), True → Go.Lf.inK Go.IntKind.i64 x.1 ∧ Go.Lf.inK Go.IntKind.i64 x.2.1 ∧ True → ((True ∧ True) ∧ True) ∧ ((True ∧ True ∧ True ∧ True) ∧ True ∧ True) ∧ ((2 : Int), x.1, x.2.1, ()) = ((2 : Go.User.tI.den), x.1, x.2.1, ())) := by kernel_rfl
  rw [e]
  simp only [true_and, and_true, eq_self, forall_const, decide_eq_true_eq, decide_eq_false_iff_not, Int.not_lt, Int.not_le, Bool.and_eq_true, true_implies, implies_true, Bool.not_eq_true', Bool.not_eq_false', false_implies, Bool.false_eq_true, Bool.true_eq_false, and_self, beq_iff_eq, beq_eq_false_iff_ne, ne_eq, Int.toNat_natCast, Bool.cond_false_right, Bool.cond_true_left, exists_prop, ge_iff_le, gt_iff_lt, List.length_singleton, List.length_nil, List.nil_append, List.append_eq, Bool.cond_false_left, Bool.cond_true_right, Bool.or_false, Bool.and_true, Bool.or_eq_false_iff, Bool.not_eq_true, bne_iff_ne, bne_eq_false_iff_eq]
  all_goals first | exact h | (simp only [true_and, and_true, eq_self, forall_const, decide_eq_true_eq, decide_eq_false_iff_not, Int.not_lt, Int.not_le, Bool.and_eq_true, true_implies, implies_true, Bool.not_eq_true', Bool.not_eq_false', false_implies, Bool.false_eq_true, Bool.true_eq_false, and_self, beq_iff_eq, beq_eq_false_iff_ne, ne_eq, Int.toNat_natCast, Bool.cond_false_right, Bool.cond_true_left, exists_prop, ge_iff_le, gt_iff_lt, List.length_singleton, List.length_nil, List.nil_append, List.append_eq, Bool.cond_false_left, Bool.cond_true_right, Bool.or_false, Bool.and_true, Bool.or_eq_false_iff, Bool.not_eq_true, bne_iff_ne, bne_eq_false_iff_eq] at h; exact h)
theorem vc28 (h : (
  ∀ (x : Int × Unit), Go.Lf.inK Go.IntKind.i64 x.1 → ((1 : Int), x.1, (0 : Int), ()) = ((1 : Go.User.tI.den), x.1, (0 : Go.User.tI.den), ()))) : Go.Lf.funI Go.User.C28 (Go.Lf.stpP Go.User.C28) Go.User.S28 Go.User.L28 Go.Proofs.Try.f28 := by
  have e : Go.Lf.funI Go.User.C28 (Go.Lf.stpP Go.User.C28) Go.User.S28 Go.User.L28 Go.Proofs.Try.f28 = (
  ∀ (x : Int × Unit), True → Go.Lf.inK Go.IntKind.i64 x.1 ∧ True → ((True ∧ True) ∧ True) ∧ ((True ∧ True ∧ True) ∧ True ∧ True) ∧ ((1 : Int), x.1, (0 : Int), ()) = ((1 : Go.User.tI.den), x.1, (0 : Go.User.tI.den), ())) := by kernel_rfl
  rw [e]
  simp only [true_and, and_true, eq_self, forall_const, decide_eq_true_eq, decide_eq_false_iff_not, Int.not_lt, Int.not_le, Bool.and_eq_true, true_implies, implies_true, Bool.not_eq_true', Bool.not_eq_false', false_implies, Bool.false_eq_true, Bool.true_eq_false, and_self, beq_iff_eq, beq_eq_false_iff_ne, ne_eq, Int.toNat_natCast, Bool.cond_false_right, Bool.cond_true_left, exists_prop, ge_iff_le, gt_iff_lt, List.length_singleton, List.length_nil, List.nil_append, List.append_eq, Bool.cond_false_left, Bool.cond_true_right, Bool.or_false, Bool.and_true, Bool.or_eq_false_iff, Bool.not_eq_true, bne_iff_ne, bne_eq_false_iff_eq]
  all_goals first | exact h | (simp only [true_and, and_true, eq_self, forall_const, decide_eq_true_eq, decide_eq_false_iff_not, Int.not_lt, Int.not_le, Bool.and_eq_true, true_implies, implies_true, Bool.not_eq_true', Bool.not_eq_false', false_implies, Bool.false_eq_true, Bool.true_eq_false, and_self, beq_iff_eq, beq_eq_false_iff_ne, ne_eq, Int.toNat_natCast, Bool.cond_false_right, Bool.cond_true_left, exists_prop, ge_iff_le, gt_iff_lt, List.length_singleton, List.length_nil, List.nil_append, List.append_eq, Bool.cond_false_left, Bool.cond_true_right, Bool.or_false, Bool.and_true, Bool.or_eq_false_iff, Bool.not_eq_true, bne_iff_ne, bne_eq_false_iff_eq] at h; exact h)
theorem vc29 (h : (
  ((4 : Int), (0 : Int), (0 : Int), ()) = ((4 : Go.User.tI.den), (0 : Go.User.tI.den), (0 : Go.User.tI.den), ()))) : Go.Lf.funI Go.User.C29 (Go.Lf.stpP Go.User.C29) Go.User.S29 Go.User.L29 Go.Proofs.Try.f29 := by
  have e : Go.Lf.funI Go.User.C29 (Go.Lf.stpP Go.User.C29) Go.User.S29 Go.User.L29 Go.Proofs.Try.f29 = (
  ∀ (x : Unit), True → True → ((True ∧ True) ∧ True) ∧ ((True ∧ True) ∧ True ∧ True) ∧ ((4 : Int), (0 : Int), (0 : Int), ()) = ((4 : Go.User.tI.den), (0 : Go.User.tI.den), (0 : Go.User.tI.den), ())) := by kernel_rfl
  rw [e]
  simp only [true_and, and_true, eq_self, forall_const, decide_eq_true_eq, decide_eq_false_iff_not, Int.not_lt, Int.not_le, Bool.and_eq_true, true_implies, implies_true, Bool.not_eq_true', Bool.not_eq_false', false_implies, Bool.false_eq_true, Bool.true_eq_false, and_self, beq_iff_eq, beq_eq_false_iff_ne, ne_eq, Int.toNat_natCast, Bool.cond_false_right, Bool.cond_true_left, exists_prop, ge_iff_le, gt_iff_lt, List.length_singleton, List.length_nil, List.nil_append, List.append_eq, Bool.cond_false_left, Bool.cond_true_right, Bool.or_false, Bool.and_true, Bool.or_eq_false_iff, Bool.not_eq_true, bne_iff_ne, bne_eq_false_iff_eq]
  all_goals first | exact h | (simp only [true_and, and_true, eq_self, forall_const, decide_eq_true_eq, decide_eq_false_iff_not, Int.not_lt, Int.not_le, Bool.and_eq_true, true_implies, implies_true, Bool.not_eq_true', Bool.not_eq_false', false_implies, Bool.false_eq_true, Bool.true_eq_false, and_self, beq_iff_eq, beq_eq_false_iff_ne, ne_eq, Int.toNat_natCast, Bool.cond_false_right, Bool.cond_true_left, exists_prop, ge_iff_le, gt_iff_lt, List.length_singleton, List.length_nil, List.nil_append, List.append_eq, Bool.cond_false_left, Bool.cond_true_right, Bool.or_false, Bool.and_true, Bool.or_eq_false_iff, Bool.not_eq_true, bne_iff_ne, bne_eq_false_iff_eq] at h; exact h)
end Go.User
namespace Sp

theorem not_mem_take_succ {α : Type} {l : List α} {i : Nat} {n d : α} (h : n ∉ l.take i) (hi : i < l.length) (hn : l.getD i d ≠ n) : n ∉ l.take (i + 1) := by
  rw [List.take_succ_eq_append_getElem hi]
  simp only [List.mem_append, List.mem_singleton, not_or]
  refine ⟨h, fun e => hn ?_⟩
  rw [List.getD_eq_getElem?_getD, List.getElem?_eq_getElem hi]
  exact e.symm

theorem idx_at {l : List Int} {n : Int} {i : Nat} (h : n ∉ l.take i) (hi : i < l.length) (hn : l.getD i 0 = n) : (i : Int) = idx l n := by
  have hg : l[i] = n := by rw [List.getD_eq_getElem?_getD, List.getElem?_eq_getElem hi] at hn; exact hn
  have hm : n ∈ l := hg ▸ List.getElem_mem hi
  unfold idx
  rw [if_pos hm]
  have e : l.idxOf n = i := by
    have := List.idxOf_append (l₁ := l.take i) (l₂ := l.drop i) (a := n)
    rw [List.take_append_drop, if_neg h, List.drop_eq_getElem_cons hi, hg, List.idxOf_cons_self, List.length_take] at this
    omega
  rw [e]

theorem idx_none {l : List Int} {n : Int} (h : n ∉ l) : (-1 : Int) = idx l n := by unfold idx; rw [if_neg h]

theorem take_all {α : Type} {l : List α} {i : Nat} (h1 : i ≤ l.length) (h2 : (l.length : Int) ≤ (i : Int)) : l.take i = l := List.take_of_length_le (by omega)

theorem findI_at {l : List LEv} {p : LEv → Bool} {i : Nat} (h : ∀ e ∈ l.take i, p e = false) (hi : i < l.length) (hp : p (l.getD i ev0) = true) : (i : Int) = findI p l := by
  have hg : l.getD i ev0 = l[i] := by rw [List.getD_eq_getElem?_getD, List.getElem?_eq_getElem hi]; rfl
  rw [hg] at hp
  unfold findI
  have : l.findIdx? p = some i := by
    rw [List.findIdx?_eq_some_iff_getElem]
    refine ⟨hi, hp, fun j hj => ?_⟩
    have := h l[j] (List.mem_take_iff_getElem.2 ⟨j, by omega, rfl⟩)
    rw [this]; simp
  rw [this]
theorem findI_none {l : List LEv} {p : LEv → Bool} (h : ∀ e ∈ l, p e = false) : (-1 : Int) = findI p l := by
  unfold findI
  have : l.findIdx? p = none := by
    rw [List.findIdx?_eq_none_iff]; exact h
  rw [this]
theorem findI_any (l : List LEv) (p : LEv → Bool) : decide (0 ≤ findI p l) = l.any p := by
  unfold findI
  cases h : l.findIdx? p with
  | none =>
    rw [List.findIdx?_eq_none_iff] at h
    have : l.any p = false := by rw [List.any_eq_false]; intro x hx; rw [h x hx]; simp
    rw [this]; rfl
  | some i =>
    rw [List.findIdx?_eq_some_iff_getElem] at h
    obtain ⟨hi, hp, _⟩ := h
    have : l.any p = true := List.any_eq_true.2 ⟨_, List.getElem_mem hi, hp⟩
    rw [this]
    simp
end Sp
namespace Go.User
open Go.Lf
theorem lim_eq : lim = 140737488355328 := rfl
theorem inK_of {z : Int} (h1 : -9223372036854775808 ≤ z) (h2 : z ≤ 9223372036854775807) : inK .i64 z := ⟨h1, h2⟩
theorem inK_nat {n m : Nat} (h1 : n ≤ m) (h2 : m ≤ lim) : inK .i64 (n : Int) := by rw [lim_eq] at h2; exact inK_of (by omega) (by omega)
/-- A counter below a length may go on. -/
theorem inK_succ {i n : Nat} (h : (i : Int) < (n : Int)) (hn : n ≤ lim) : inK .i64 ((i : Int) + 1) := by rw [lim_eq] at hn; exact inK_of (by omega) (by omega)
theorem inN_of {i n : Nat} (h : (i : Int) < (n : Int)) : inN (i : Int) n := ⟨by omega, h⟩
end Go.User
namespace Go.User
open Go.Lf Go.Proofs

theorem okA {n : Nat} {fns : List (FuncId × FSpec)} (h : ∀ f s, Lf.look fns f = some s → FOk Try.prog f s) : CtxOK Try.prog (mkC n fns) := ctx_ok rfl rfl h ptrs_nil

theorem at_vc (x : List Int × Int × Unit) (h : (x.1.length ≤ Go.Lf.lim ∧ ∀ (x_1 : Int), x_1 ∈ x.1 → Go.Lf.inK Go.IntKind.i64 x_1) ∧ Go.Lf.inK Go.IntKind.i64 x.2.1) :
    (∃ (x_1 : Nat), (x_1 ≤ x.1.length ∧ ¬x.2.1 ∈ List.take x_1 x.1) ∧ (0 : Int) = (↑x_1 : Int)) := ⟨0, ⟨Nat.zero_le _, by simp⟩, rfl⟩

theorem ok22 : FOk Try.prog 22 S22 := by
  refine FOk.intro (okA fns_nil) (stpP_ok (okA fns_nil)) Try.call22 Try.func22 (by kernel_rfl) (by kernel_rfl) L22 (vc22 ?_)
  intro x hx
  refine ⟨⟨0, ⟨Nat.zero_le _, by simp⟩, rfl⟩, ?_⟩
  intro i hi hk
  refine ⟨fun hlt => ⟨inN_of hlt, fun h => Sp.idx_at hi.2 (by omega) h, fun h => ⟨inK_succ hlt hx.1.1, i + 1, ⟨by omega, Sp.not_mem_take_succ hi.2 (by omega) h⟩, by omega, by omega⟩⟩, fun hge => ?_⟩
  have := hi.2
  rw [Sp.take_all hi.1 hge] at this
  exact Sp.idx_none this
theorem ok39 : FOk Try.prog 39 S39 := by
  refine FOk.intro (okA fns_nil) (stpP_ok (okA fns_nil)) Try.call39 Try.func39 (by kernel_rfl) (by kernel_rfl) L39 (vc39 ?_)
  intro x hx
  refine ⟨⟨0, ⟨Nat.zero_le _, by simp⟩, rfl⟩, ?_⟩
  intro i hi hk
  refine ⟨fun hlt => ⟨inN_of hlt, fun h => Sp.idx_at hi.2 (by omega) h, fun h => ⟨inK_succ hlt hx.1.1, i + 1, ⟨by omega, Sp.not_mem_take_succ hi.2 (by omega) h⟩, by omega, by omega⟩⟩, fun hge => ?_⟩
  have := hi.2
  rw [Sp.take_all hi.1 hge] at this
  exact Sp.idx_none this
theorem ok63 : FOk Try.prog 63 S63 := by
  refine FOk.intro (okA fns_nil) (stpP_ok (okA fns_nil)) Try.call63 Try.func63 (by kernel_rfl) (by kernel_rfl) L63 (vc63 ?_)
  intro x hx
  refine ⟨⟨0, ⟨Nat.zero_le _, by simp⟩, rfl⟩, ?_⟩
  intro i hi hk
  refine ⟨fun hlt => ⟨inN_of hlt, fun h => Sp.idx_at hi.2 (by omega) h.symm, fun h => ⟨inK_succ hlt hx.1.1, i + 1, ⟨by omega, Sp.not_mem_take_succ hi.2 (by omega) (fun e => h e.symm)⟩, by omega, by omega⟩⟩, fun hge => ?_⟩
  have := hi.2
  rw [Sp.take_all hi.1 hge] at this
  exact Sp.idx_none this
theorem ok42 : FOk Try.prog 42 S42 := FOk.intro (okA fns_nil) (stpP_ok (okA fns_nil)) Try.call42 Try.func42 (by kernel_rfl) (by kernel_rfl) L42 (vc42 (fun x hx => rfl))
theorem ok43 : FOk Try.prog 43 S43 := FOk.intro (okA fns_nil) (stpP_ok (okA fns_nil)) Try.call43 Try.func43 (by kernel_rfl) (by kernel_rfl) L43 (vc43 (fun x hx => rfl))
theorem ok37 : FOk Try.prog 37 S37 := FOk.intro (okA fns_nil) (stpP_ok (okA fns_nil)) Try.call37 Try.func37 (by kernel_rfl) (by kernel_rfl) L37 (vc37 (fun x hx => rfl))
theorem ok32 : FOk Try.prog 32 S32 := FOk.intro (okA fns_nil) (stpP_ok (okA fns_nil)) Try.call32 Try.func32 (by kernel_rfl) (by kernel_rfl) L32 (vc32 (fun x hx => rfl))
theorem ok62 : FOk Try.prog 62 S62 := by
  refine FOk.intro (okA fns_nil) (stpP_ok (okA fns_nil)) Try.call62 Try.func62 (by kernel_rfl) (by kernel_rfl) L62 (vc62 ?_)
  intro x hx
  refine ⟨fun h => ?_, fun h => ⟨fun h1 => ?_, fun h1 => ⟨fun h2 => ⟨fun _ => ?_, fun h3 => absurd h2 h3⟩, fun h2 => ⟨fun h3 => ?_, fun h3 => ?_⟩⟩⟩⟩
  · simp [Sp.usual, h]
  · simp [Sp.usual, h1]; rfl
  · simp [Sp.usual, h2]
  · simp [Sp.usual, h3]
  · simp [Sp.usual, h, h1, h2, h3]
theorem ok61 : FOk Try.prog 61 S61 :=
  have hC : CtxOK Try.prog C61 := okA (fns_cons ok62 fns_nil)
  FOk.intro hC (stpP_ok hC) Try.call61 Try.func61 (by kernel_rfl) (by kernel_rfl) L61 (vc61 (fun x hx => rfl))
theorem ok64 : FOk Try.prog 64 S64 := by
  refine FOk.intro (okA fns_nil) (stpP_ok (okA fns_nil)) Try.call64 Try.func64 (by kernel_rfl) (by kernel_rfl) L64 (vc64 ?_)
  intro x hp hx
  refine ⟨⟨0, ⟨Nat.zero_le _, by simp⟩, rfl⟩, ?_⟩
  intro i hi hk
  refine ⟨fun hlt => ⟨⟨inN_of hlt, hp _⟩, fun h => Sp.findI_at hi.2 (by omega) h, fun h => ⟨inK_succ hlt hx.1, i + 1, ⟨by omega, ?_⟩, by omega, by omega⟩⟩, fun hge => ?_⟩
  · intro e he
    rw [List.take_succ_eq_append_getElem (by omega)] at he
    rcases List.mem_append.1 he with he | he
    · exact hi.2 e he
    · simp only [List.mem_singleton] at he
      rw [List.getD_eq_getElem?_getD, List.getElem?_eq_getElem (by omega)] at h
      rw [he]; exact h
  · have := hi.2
    rw [Sp.take_all hi.1 hge] at this
    exact Sp.findI_none this
theorem ok60 : FOk Try.prog 60 S60 :=
  have hC : CtxOK Try.prog C60 := okA (fns_cons ok64 fns_nil)
  FOk.intro hC (stpP_ok hC) Try.call60 Try.func60 (by kernel_rfl) (by kernel_rfl) L60 (vc60 (fun x hp hx => ⟨hp, Sp.findI_any _ _⟩))
theorem value_vc {e : List Sp.LEv} {n : Int} : (n < 0 → (0 : Int) = Sp.value e n) ∧ (0 ≤ n → (Sp.ev e n).2.1.1 = 3 → IntKind.wrap .i64 ((Sp.ev e n).2.2.1 + (Sp.ev e n).2.1.2.2.1) = Sp.value e n) ∧
    (0 ≤ n → ¬ (Sp.ev e n).2.1.1 = 3 → (Sp.ev e n).2.1.2.2.1 = Sp.value e n) := by
  refine ⟨fun h => ?_, fun h h1 => ?_, fun h h1 => ?_⟩
  · unfold Sp.value; rw [if_pos h]
  · unfold Sp.value; rw [if_neg (by omega), if_pos h1]
  · unfold Sp.value; rw [if_neg (by omega), if_neg h1]
theorem okW {n : Nat} {fns : List (FuncId × FSpec)} {wr : List Nat} (h : ∀ f s, Lf.look fns f = some s → FOk Try.prog f s) : CtxOK Try.prog { mkC n fns with wrp := wr } := ctx_ok rfl rfl h ptrs_nil
theorem ok40 : FOk Try.prog 40 S40 := by
  refine FOk.intro (okW fns_nil) (stpP_ok (okW fns_nil)) Try.call40 Try.func40 (by kernel_rfl) (by kernel_rfl) L40 (vc40 ?_)
  intro x hp hx
  have hv := value_vc (e := x.1.1) (n := x.2.1)
  exact ⟨fun h => hv.1 h, fun h => ⟨⟨h, hp⟩, fun h1 => ⟨⟨h, hp⟩, hv.2.1 h h1⟩, fun h1 => ⟨⟨h, hp⟩, hv.2.2 h h1⟩⟩⟩
theorem ok44 : FOk Try.prog 44 S44 := by
  refine FOk.intro (okW fns_nil) (stpP_ok (okW fns_nil)) Try.call44 Try.func44 (by kernel_rfl) (by kernel_rfl) L44 (vc44 ?_)
  intro x hp hx
  have hv := value_vc (e := x.1.1) (n := x.2.1)
  exact ⟨fun h => hv.1 h, fun h => ⟨⟨h, hp⟩, fun h1 => ⟨⟨h, hp⟩, hv.2.1 h h1⟩, fun h1 => ⟨⟨h, hp⟩, hv.2.2 h h1⟩⟩⟩
theorem ok38 : FOk Try.prog 38 S38 := by
  refine FOk.intro (okA fns_nil) (stpP_ok (okA fns_nil)) Try.call38 Try.func38 (by kernel_rfl) (by kernel_rfl) L38 (vc38 ?_)
  intro x hp hx
  refine ⟨fun h => ⟨⟨hp, h⟩, ?_⟩, fun h => ?_⟩
  · unfold Sp.byteAt; rw [if_pos h]
  · unfold Sp.byteAt; rw [if_neg (by omega)]
theorem ok46 : FOk Try.prog 46 S46 :=
  have hC : CtxOK Try.prog C46 := okA (fns_cons ok43 fns_nil)
  FOk.intro hC (stpP_ok hC) Try.call46 Try.func46 (by kernel_rfl) (by kernel_rfl) L46 (vc46 (fun x hx => rfl))
theorem ok47 : FOk Try.prog 47 S47 := FOk.intro (okA fns_nil) (stpP_ok (okA fns_nil)) Try.call47 Try.func47 (by kernel_rfl) (by kernel_rfl) L47 (vc47 (fun x hx => rfl))
theorem ok27 : FOk Try.prog 27 S27 := FOk.intro (okA fns_nil) (stpP_ok (okA fns_nil)) Try.call27 Try.func27 (by kernel_rfl) (by kernel_rfl) L27 (vc27 (fun x hx => rfl))
theorem ok28 : FOk Try.prog 28 S28 := FOk.intro (okA fns_nil) (stpP_ok (okA fns_nil)) Try.call28 Try.func28 (by kernel_rfl) (by kernel_rfl) L28 (vc28 (fun x hx => rfl))
theorem ok29 : FOk Try.prog 29 S29 := FOk.intro (okA fns_nil) (stpP_ok (okA fns_nil)) Try.call29 Try.func29 (by kernel_rfl) (by kernel_rfl) L29 (vc29 rfl)
end Go.User
