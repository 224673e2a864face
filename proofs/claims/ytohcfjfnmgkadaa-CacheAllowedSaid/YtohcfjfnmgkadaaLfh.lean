/- Functions that are handed over a value with what it owns: by value. Small facts under short names. The types of the seat, and that the program has them. The laws of the caches: arguments. The laws of the caches: slices of numbers. Caches: the small functions: what they compute. Caches: plain facts about lists. Written by gen.py: what is left to show of each function. Caches: the small functions compute what they should. A slice of one element: what is stored there may be owned where it was shared. Operations one by one: for bodies that are walked by hand. slices.Delete on words: what it does to a slice that is handed over. Caches: loads, stores, atomic operations, evictions, flushes: what they compute. Caches: plain facts about caches and memories. The machine of the caches: what its methods compute. -/
import Derived.Test.YtohcfjfnmgkadaaLfg
import Derived.KernelRfl
import Derived.Test.YtohcfjfnmgkadaaProg
import Derived.Test.YtohcfjfnmgkadaaRows
set_option linter.unusedVariables false
set_option linter.unusedSimpArgs false
namespace Go.Lf

/-- A call of such a function on an owner's value. -/
def inC (C : Ctx) (st : St) (o : Oper) (q : Call) : Option (Prop × St) :=
  match q.callee, q.args.toList, o.dst with
  | .value (.func f), .tmp t :: zs, some d => match look C.ins f, st t with
    | some s, .own τ m x => bif wrB C d && decide (m = s.m) then (match castD (τ := τ) (σ := s.τ) x, argsE s.args (zs.map (viewO (drop st t))) with
      | some x, some (y, true) => some (s.pre x y, put (drop st t) d (mkE C d s.res s.rm (s.out x y)))
      | _, _ => none) else none
    | _, _ => none
  | _, _, _ => none

section
variable {P : Program} {C : Ctx} {N : NP} {w0 : World} {F0 H : NSet} {env : St} {a : Act} {w : World} {F : NSet} {S : Nat → NSet} {d : Nat}

/-- The memory changes where nothing is known of it. -/
theorem Inv0.worldZ (hi : Inv0 P N w0 F0 H env a w F S) {w' : World} {F' Z : NSet}
    (h1 : w'.os = w.os) (h2 : w'.tape = w.tape) (h3 : w'.output = w.output) (h4 : w.heap.size ≤ w'.heap.size) (h5 : ∀ k, k < w.heap.size → ¬ Z k → w'.heap[k]? = w.heap[k]?)
    (hZ : ∀ k, Z k → (w0.heap.size ≤ k ∨ H k) ∧ ¬ F k ∧ ∀ t, ¬ S t k)
    (hFF : Sub F F') (hFb : ∀ b, F' b → b < w'.heap.size) (hFn : ∀ b, F' b → ¬ F b → w.heap.size ≤ b ∨ Z b) :
    Inv0 P N w0 F0 H env a w' F' S := by
  have hFx : ∀ b, F b → w'.heap[b]? = w.heap[b]? := fun b hb => h5 b (hi.fb b hb) fun h => (hZ b h).2.1 hb
  have hSx : ∀ t b, S t b → w'.heap[b]? = w.heap[b]? := fun t b hb => h5 b (hi.sb t b hb).2.1 fun h => (hZ b h).2.2 t hb
  have hnF : ∀ t b, F' b → ¬ F b → ¬ S t b := by
    intro t b g1 g2 g3
    rcases hFn b g1 g2 with h | h
    · have := (hi.sb t b g3).2.1; omega
    · exact (hZ b h).2.2 t g3
  refine ⟨h1.trans hi.os, h2.trans hi.tape, h3.trans hi.output, Nat.le_trans hi.size h4, ?_, hFb, fun b hb => hFF b (hi.f0 b hb), ?_, ?_, hi.sd, ?_, hi.defers, hi.slots⟩
  · intro k hk hH
    refine (h5 k (Nat.lt_of_lt_of_le hk hi.size) fun h => ?_).trans (hi.block k hk hH)
    rcases (hZ k h).1 with h | h
    · omega
    · exact hH h
  · intro b hb h0
    by_cases hF : F b
    · exact hi.fn b hF h0
    · rcases hFn b hb hF with h | h
      · exact .inl (Nat.le_trans hi.size h)
      · exact (hZ b h).1
  · intro t b ht
    obtain ⟨g1, g2, g3⟩ := hi.sb t b ht
    refine ⟨g1, Nat.lt_of_lt_of_le g2 h4, fun hF => ?_⟩
    by_cases hF' : F b
    · exact g3 hF'
    · exact hnF t b hF hF' ht
  · intro t
    refine EntOK.keep hFF hFx rfl ?_ ?_ (hi.ent t)
    · intro q hq
      exact ⟨fun _ => rfl, fun _ => rfl, rfl, fun b hb => hSx q b hb, fun b g1 g2 => hnF q b g1 g2, fun b hb => (hi.sb q b hb).2.2⟩
    · intro _
      exact ⟨rfl, fun b hb => hSx t b hb, fun b g1 g2 => hnF t b g1 g2⟩

theorem inC_ok (hC : CtxOK P C) (hi : Inv0 P C.np w0 F0 H env a w F S) {q : Call} {o : Oper} (ho : o.op = .call q) {c : Prop} {env' : St} (h : inC C env o q = some (c, env')) (hc : c) {K : Act → World → Prop} {Q : Exit → Act → World → Prop}
    (hK : ∀ a' w', Inv P C.np w0 F0 H env' a' w' → K a' w') : o.wp P a w K Q := by
  obtain ⟨callee, args, tys⟩ := q
  unfold inC at h
  simp only at h
  split at h
  · rename_i f t zs d h3 h4
    split at h
    · rename_i s τ m x hs ht
      cases hb : (wrB C d && decide (m = s.m))
      · rw [hb] at h; cases h
      rw [hb] at h
      simp only [cond_true] at h
      simp only [Bool.and_eq_true, decide_eq_true_eq] at hb
      obtain ⟨hd, hm⟩ := hb
      have hd := wrB_iff hd
      split at h
      · rename_i x1 y hx hy
        have := castD_some hx
        injection this with e1 e2
        subst e1; cases e2
        simp only [Option.some.injEq, Prod.mk.injEq] at h
        obtain ⟨rfl, rfl⟩ := h
        have ht1 := hi.ent t
        rw [ht] at ht1
        obtain ⟨pl, S0, cs, hr⟩ := ht1
        obtain ⟨_, _, e3, e4, e5⟩ := hr.own_inj
        subst e4
        have hO : OwnV F w s.τ m (S t) (a.tmps.getD t undef) x1 := ⟨cs, e5, hr.2.2⟩
        rw [hm] at hO
        have hi1 := hi.drop t
        have hsh : ArgsOK P F w s.args (zs.map a.eval) y := argsE_ok hi1 (VsOK_map (f := viewO (Go.Lf.drop env t)) (fun z' _ => viewO_ok hi1 z')) hy
        obtain ⟨k1, k2⟩ := hC.ins f s hs
        have hcall := k2 w F (S t) (a.tmps.getD t undef) x1 _ y hi.fb (fun k hk => ⟨(hi.sb t k hk).2.1, (hi.sb t k hk).2.2⟩) hO hsh hc
        have hrun : (execOp a.eval o).run P w = .ok (.enter f (a.tmps.getD t undef :: zs.map a.eval).toArray) w := by
          simp only [execOp, ho, resolve, Sem.run_bind, Act.eval, Deferred.ofValue, Sem.run_pure, Result.andThen, invoke]
          have := k1 ((a.tmps.getD t undef :: zs.map a.eval).toArray) w
          rw [← this]
          congr 1
          congr 1
          apply Array.ext'
          simp [h3, Act.eval]
        unfold Oper.wp
        rw [hrun, Oper.upon_enter]
        refine hcall.mono ?_
        intro e w' hpost
        obtain ⟨v, F', Sr, rfl, q1, q2, q3, q4, q5, q6, q7, q8, q9, q10⟩ := hpost
        have hnt : ∀ k, S t k → ∀ u, ¬ (fun u => if u = t then none' else S u) u k := by
          intro k hk u hu
          by_cases hut : u = t
          · simp only [hut, if_true] at hu; exact hu
          · simp only [hut, if_false] at hu; exact hi.sd u t hut k hu hk
        have hi2 := hi1.worldZ (Z := S t) q1 q2 q3 q4 q5 (fun k hk => ⟨(hi.sb t k hk).1, (hi.sb t k hk).2.2, hnt k hk⟩) q6 (fun b hb => q8 b (.inl hb)) q7
        obtain ⟨F2, S2, hh⟩ := hi2.putNew (C := C) (d := d) hd (RowKit.Below.refl _ _) (fun _ h => h) (fun k hk => q8 k (.inl hk)) (fun k g1 g2 => absurd g1 g2) (by
          intro b hb
          obtain ⟨g1, g2⟩ := q9 b hb
          refine ⟨?_, q8 b (.inr hb), g2, ?_⟩
          · rcases g1 with g1 | g1
            · exact .inl (Nat.le_trans hi.size g1)
            · exact (hi.sb t b g1).1
          · intro u hu
            rcases g1 with g1 | g1
            · have := (hi1.sb u b hu).2.1; omega
            · exact hnt b g1 u hu) q10
        rw [h4]
        exact hK _ _ ⟨F2, S2, hh⟩
      · cases h
    · cases h
  · cases h

/-- All of a region's tail. -/
def stpQ (C : Ctx) (st : St) (o : Oper) : Option (Prop × St) :=
  match o.op with
  | .call q => match inC C st o q with
    | some r => some r
    | none => stpP C st o
  | _ => stpP C st o

theorem stpQ_ok (hC : CtxOK P C) : StpOK P C (stpQ C) := by
  intro w0 F0 H env env' a w o c hi h hc K Q hK
  unfold stpQ at h
  split at h
  · rename_i q hop
    split at h
    · rename_i r hr
      simp only [Option.some.injEq] at h
      subst h
      obtain ⟨F, S, hi⟩ := hi
      exact inC_ok hC hi hop hr hc hK
    · exact stpP_ok hC hi h hc K Q hK
  · exact stpP_ok hC hi h hc K Q hK
end
end Go.Lf
namespace Go.Lf
theorem z1 : ∀ (p : Prop), (True ∧ p) = p := @true_and
theorem z2 : ∀ (p : Prop), (p ∧ True) = p := @and_true
theorem z3.{u_1} : ∀ {α : Sort u_1} (a : α), (a = a) = True := @eq_self
theorem z4.{u_1} : ∀ {b : Prop} (α : Sort u_1) [i : Nonempty α], (∀ (a : α), b) ↔ b := @forall_const
theorem z5 : ∀ {p : Prop} [inst : Decidable p], (decide p = Bool.true) = p := @decide_eq_true_eq
theorem z6 : ∀ {p : Prop} {x : Decidable p}, decide p = Bool.false ↔ ¬p := @decide_eq_false_iff_not
theorem z7 : ∀ {a b : Int}, ¬a < b ↔ b ≤ a := @Int.not_lt
theorem z8 : ∀ {a b : Int}, ¬a ≤ b ↔ b < a := @Int.not_le
theorem z9 : ∀ (a b : Bool), ((a && b) = Bool.true) = (a = Bool.true ∧ b = Bool.true) := @Bool.and_eq_true
theorem z10 : ∀ (p : Prop), (True → p) = p := @true_implies
theorem z11.{u_1} : ∀ (α : Sort u_1), (∀ (a : α), True) = True := @implies_true
theorem z12 : ∀ (b : Bool), ((!b) = Bool.true) = (b = Bool.false) := @Bool.not_eq_true'
theorem z13 : ∀ (b : Bool), ((!b) = Bool.false) = (b = Bool.true) := @Bool.not_eq_false'
theorem z14 : ∀ (p : Prop), (False → p) = True := @false_implies
theorem z15 : (Bool.false = Bool.true) = False := @Bool.false_eq_true
theorem z16 : (Bool.true = Bool.false) = False := @Bool.true_eq_false
theorem z17 : ∀ (p : Prop), (p ∧ p) = p := @and_self
theorem z18.{u_1} : ∀ {α : Type u_1} [inst : BEq α] [LawfulBEq α] {a b : α}, (a == b) = Bool.true ↔ a = b := @beq_iff_eq
theorem z19.{u_1} : ∀ {α : Type u_1} [inst : BEq α] [LawfulBEq α] {a b : α}, (a == b) = Bool.false ↔ a ≠ b := @beq_eq_false_iff_ne
theorem z20.{u_1} : ∀ {α : Sort u_1} (a b : α), (a ≠ b) = ¬a = b := @ne_eq
theorem z21 : ∀ (n : Nat), ((n : Int)).toNat = n := @Int.toNat_natCast
theorem z22 : ∀ (c t : Bool), (bif c then t else Bool.false) = (c && t) := @Bool.cond_false_right
theorem z23 : ∀ (c f : Bool), (bif c then Bool.true else f) = (c || f) := @Bool.cond_true_left
theorem z24 : ∀ {b a : Prop}, (∃ _h : a, b) ↔ a ∧ b := @exists_prop
theorem z25.{u_1} : ∀ {α : Type u_1} [inst : LE α] {x y : α}, x ≥ y ↔ y ≤ x := @ge_iff_le
theorem z26.{u_1} : ∀ {α : Type u_1} [inst : LT α] {x y : α}, x > y ↔ y < x := @gt_iff_lt
theorem z27.{u_1} : ∀ {α : Type u_1} {a : α}, [a].length = 1 := @List.length_singleton
theorem z28.{u_1} : ∀ {α : Type u_1}, ([] : List α).length = 0 := @List.length_nil
theorem z29.{u_1} : ∀ {α : Type u_1} (l0 : List α), [] ++ l0 = l0 := @List.nil_append
theorem z30.{u_1} : ∀ {α : Type u_1} {l0 l1 : List α}, l0.append l1 = l0 ++ l1 := @List.append_eq
theorem z31 : ∀ (c f : Bool), (bif c then Bool.false else f) = (!c && f) := @Bool.cond_false_left
theorem z32 : ∀ (c t : Bool), (bif c then t else Bool.true) = (!c || t) := @Bool.cond_true_right
theorem z33 : ∀ (b : Bool), (b || Bool.false) = b := @Bool.or_false
theorem z34 : ∀ (b : Bool), (b && Bool.true) = b := @Bool.and_true
theorem z35 : ∀ {x y : Bool}, (x || y) = Bool.false ↔ x = Bool.false ∧ y = Bool.false := @Bool.or_eq_false_iff
theorem z36 : ∀ (b : Bool), (¬b = Bool.true) = (b = Bool.false) := @Bool.not_eq_true
theorem z37.{u_1} : ∀ {α : Type u_1} [inst : BEq α] [LawfulBEq α] {a b : α}, (a != b) = Bool.true ↔ a ≠ b := @bne_iff_ne
theorem z38.{u_1} : ∀ {α : Type u_1} [inst : BEq α] [LawfulBEq α] {a b : α}, (a != b) = Bool.false ↔ a = b := @bne_eq_false_iff_eq
end Go.Lf
namespace Sp
abbrev LOp := Int × Int × Int × Unit
abbrev LEv := Int × LOp × Int × Unit
abbrev Lit := List (List LOp) × Unit
abbrev Gr := List LEv × List Int × List (List Int) × List Int × Unit
abbrev Rel := List (List Bool)
abbrev Word := Int × Int × Int × Bool × Unit
abbrev World := List (List Word) × List (List Int) × Unit
abbrev Core := Int × Int × List Word × List (List Int) × Unit
abbrev Mach := Lit × List Core × List (List Int) × Gr × Unit
end Sp
namespace Go.User
open Go.Lf Go.Proofs
abbrev tI : Ty := .int .i64
abbrev tLOp : Ty := .prod tI (.prod tI (.prod tI .unit))
abbrev tLEv : Ty := .prod tI (.prod tLOp (.prod tI .unit))
abbrev tLit : Ty := .prod (.slice (.slice tLOp)) .unit
abbrev tGr : Ty := .prod (.slice tLEv) (.prod (.slice tI) (.prod (.slice (.slice tI)) (.prod (.slice tI) .unit)))
abbrev tRow : Ty := .arr 6 .bool
abbrev tRel : Ty := .arr 6 tRow
abbrev tPl : Ty := .prod tI (.prod tI .unit)
abbrev tW : Ty := .prod tI (.prod tI (.prod (.int .i32) (.prod .bool .unit)))
abbrev tMem : Ty := .slice (.slice (.int .i32))
abbrev tWorld : Ty := .prod (.slice (.slice tW)) (.prod tMem .unit)
abbrev tAcc : Ty := .prod (.int .u8) (.prod (.int .u8) (.prod (.int .u8) (.prod (.int .i32) .unit)))
abbrev tCore : Ty := .prod tI (.prod tI (.prod (.slice tW) (.prod (.arr 3 (.slice tI)) .unit)))
abbrev tMach : Ty := .prod tLit (.prod (.slice tCore) (.prod tMem (.prod tGr .unit)))
def tys : List (TypeId × Ty) := [(2, tI), (3, tI), (4, .bool), (5, .int .u8), (21, .int .i32), (22, .slice tAcc), (24, .slice (.slice tW)), (25, tMem), (26, tMem), (28, tWorld), (32, tAcc), (36, .slice (.int .i32)), (38, .slice tW), (41, tW),
  (44, .slice (.int .u8)), (45, .slice tI), (46, .slice (.slice tLOp)), (48, tLit), (50, .slice tLOp), (51, .slice tLEv), (52, .slice (.slice tI)), (54, tGr), (59, tLOp), (63, tLEv), (71, .slice tCore), (73, tMach), (74, .arr 3 (.slice tI)),
  (76, tCore), (85, tRow), (87, tRel), (90, tPl), (98, tI), (105, .slice .bool)]
/-- With the pointer to the machine at the block q. -/
def tysQ (q : Nat) : List (TypeId × Ty) := (70, .abs .ptr) :: (1, .abs .thk) :: (77, .slice (.abs .thk)) :: tys
def eqs : List TypeId := [59, 63]

theorem tysQ_ok (q : Nat) : ∀ T τ, Lf.look (tysQ q) T = some τ → RowOK Try.prog (tysQ q) T τ := by
  have hall : ∀ (l : List (TypeId × Ty)), (∀ x ∈ l, RowOK Try.prog (tysQ q) x.1 x.2) → ∀ T τ, Lf.look l T = some τ → RowOK Try.prog (tysQ q) T τ := by
    intro l
    induction l with
    | nil => intro _ T τ h; cases h
    | cons x l ih =>
      intro h T τ hl
      simp only [Lf.look] at hl
      cases hb : Nat.beq x.1 T
      · rw [hb] at hl; exact ih (fun y hy => h y (by simp [hy])) T τ hl
      · rw [hb] at hl
        have := Nat.eq_of_beq_eq_true hb
        simp only [cond_true, Option.some.injEq] at hl
        rw [← this, ← hl]; exact h x (by simp)
  refine hall (tysQ q) ?_
  intro x hx
  simp only [tysQ, tys, List.mem_cons, List.not_mem_nil, or_false] at hx
  rcases hx with rfl | rfl | rfl | rfl | rfl | rfl | rfl | rfl | rfl | rfl | rfl | rfl | rfl | rfl | rfl | rfl | rfl | rfl | rfl | rfl | rfl | rfl | rfl | rfl | rfl | rfl | rfl | rfl | rfl | rfl | rfl | rfl | rfl | rfl | rfl | rfl
  · exact ⟨Try.t70, _, by kernel_rfl, Try.underlying70, by kernel_rfl, by decide, by kernel_rfl, by kernel_rfl⟩
  · exact ⟨Try.t1, _, by kernel_rfl, Try.underlying1, by kernel_rfl, by decide, by kernel_rfl, by kernel_rfl⟩
  · refine ⟨Try.t77, _, by kernel_rfl, Try.underlying77, by kernel_rfl, by decide, by kernel_rfl, ?_⟩
    simp [descB, tysQ, Lf.look, Ty.size]
    exact ⟨rfl, rfl⟩
  · exact ⟨Try.t2, _, by kernel_rfl, Try.underlying2, by kernel_rfl, by decide, by kernel_rfl, by kernel_rfl⟩
  · exact ⟨Try.t3, _, by kernel_rfl, Try.underlying3, by kernel_rfl, by decide, by kernel_rfl, by kernel_rfl⟩
  · exact ⟨Try.t4, _, by kernel_rfl, Try.underlying4, by kernel_rfl, by decide, by kernel_rfl, by kernel_rfl⟩
  · exact ⟨Try.t5, _, by kernel_rfl, Try.underlying5, by kernel_rfl, by decide, by kernel_rfl, by kernel_rfl⟩
  · exact ⟨Try.t21, _, by kernel_rfl, Try.underlying21, by kernel_rfl, by decide, by kernel_rfl, by kernel_rfl⟩
  · exact ⟨Try.t22, _, by kernel_rfl, Try.underlying22, by kernel_rfl, by decide, by kernel_rfl, by kernel_rfl⟩
  · exact ⟨Try.t24, _, by kernel_rfl, Try.underlying24, by kernel_rfl, by decide, by kernel_rfl, by kernel_rfl⟩
  · exact ⟨Try.t25, _, by kernel_rfl, Try.underlying25, by kernel_rfl, by decide, by kernel_rfl, by kernel_rfl⟩
  · exact ⟨Try.t26, _, by kernel_rfl, Try.underlying26, by kernel_rfl, by decide, by kernel_rfl, by kernel_rfl⟩
  · exact ⟨Try.t28, _, by kernel_rfl, Try.underlying28, by kernel_rfl, by decide, by kernel_rfl, by kernel_rfl⟩
  · exact ⟨Try.t32, _, by kernel_rfl, Try.underlying32, by kernel_rfl, by decide, by kernel_rfl, by kernel_rfl⟩
  · exact ⟨Try.t36, _, by kernel_rfl, Try.underlying36, by kernel_rfl, by decide, by kernel_rfl, by kernel_rfl⟩
  · exact ⟨Try.t38, _, by kernel_rfl, Try.underlying38, by kernel_rfl, by decide, by kernel_rfl, by kernel_rfl⟩
  · exact ⟨Try.t41, _, by kernel_rfl, Try.underlying41, by kernel_rfl, by decide, by kernel_rfl, by kernel_rfl⟩
  · exact ⟨Try.t44, _, by kernel_rfl, Try.underlying44, by kernel_rfl, by decide, by kernel_rfl, by kernel_rfl⟩
  · exact ⟨Try.t45, _, by kernel_rfl, Try.underlying45, by kernel_rfl, by decide, by kernel_rfl, by kernel_rfl⟩
  · exact ⟨Try.t46, _, by kernel_rfl, Try.underlying46, by kernel_rfl, by decide, by kernel_rfl, by kernel_rfl⟩
  · exact ⟨Try.t48, _, by kernel_rfl, Try.underlying48, by kernel_rfl, by decide, by kernel_rfl, by kernel_rfl⟩
  · exact ⟨Try.t50, _, by kernel_rfl, Try.underlying50, by kernel_rfl, by decide, by kernel_rfl, by kernel_rfl⟩
  · exact ⟨Try.t51, _, by kernel_rfl, Try.underlying51, by kernel_rfl, by decide, by kernel_rfl, by kernel_rfl⟩
  · exact ⟨Try.t52, _, by kernel_rfl, Try.underlying52, by kernel_rfl, by decide, by kernel_rfl, by kernel_rfl⟩
  · exact ⟨Try.t54, _, by kernel_rfl, Try.underlying54, by kernel_rfl, by decide, by kernel_rfl, by kernel_rfl⟩
  · exact ⟨Try.t59, _, by kernel_rfl, Try.underlying59, by kernel_rfl, by decide, by kernel_rfl, by kernel_rfl⟩
  · exact ⟨Try.t63, _, by kernel_rfl, Try.underlying63, by kernel_rfl, by decide, by kernel_rfl, by kernel_rfl⟩
  · exact ⟨Try.t71, _, by kernel_rfl, Try.underlying71, by kernel_rfl, by decide, by kernel_rfl, by kernel_rfl⟩
  · exact ⟨Try.t73, _, by kernel_rfl, Try.underlying73, by kernel_rfl, by decide, by kernel_rfl, by kernel_rfl⟩
  · exact ⟨Try.t74, _, by kernel_rfl, Try.underlying74, by kernel_rfl, by decide, by kernel_rfl, by kernel_rfl⟩
  · exact ⟨Try.t76, _, by kernel_rfl, Try.underlying76, by kernel_rfl, by decide, by kernel_rfl, by kernel_rfl⟩
  · exact ⟨Try.t85, _, by kernel_rfl, Try.underlying85, by kernel_rfl, by decide, by kernel_rfl, by kernel_rfl⟩
  · exact ⟨Try.t87, _, by kernel_rfl, Try.underlying87, by kernel_rfl, by decide, by kernel_rfl, by kernel_rfl⟩
  · exact ⟨Try.t90, _, by kernel_rfl, Try.underlying90, by kernel_rfl, by decide, by kernel_rfl, by kernel_rfl⟩
  · exact ⟨Try.t98, _, by kernel_rfl, Try.underlying98, by kernel_rfl, by decide, by kernel_rfl, by kernel_rfl⟩
  · exact ⟨Try.t105, _, by kernel_rfl, Try.underlying105, by kernel_rfl, by decide, by kernel_rfl, by kernel_rfl⟩

theorem look_flat (q : Nat) {T : TypeId} {τ : Ty} (h : Lf.look (tysQ q) T = some τ) (h3 : T = 3) : τ.isAgg = false := by
  subst h3
  have e : Lf.look (tysQ q) 3 = some tI := by kernel_rfl
  rw [e] at h
  injection h with h
  rw [← h]; rfl
theorem eqs_ok (q : Nat) : ∀ T, T ∈ eqs → EqRow Try.prog (tysQ q) eqs T := by
  have key : ∀ fs : List Field, (∀ f ∈ fs, f.name ≠ "_" ∧ (f.type = 3 ∨ f.type ∈ eqs)) → ∀ f ∈ fs, f.name ≠ "_" ∧ ∀ τ, Lf.look (tysQ q) f.type = some τ → τ.isAgg = true → f.type ∈ eqs := by
    intro fs h f hf
    refine ⟨(h f hf).1, fun τ h1 h2 => ?_⟩
    rcases (h f hf).2 with h3 | h3
    · rw [look_flat q h1 h3] at h2; cases h2
    · exact h3
  intro T hT
  simp only [eqs, List.mem_cons, List.not_mem_nil, or_false] at hT
  rcases hT with rfl | rfl
  · refine ⟨by kernel_rfl, by kernel_rfl, ?_⟩
    rw [Try.underlying59]
    exact key _ (by decide)
  · refine ⟨by kernel_rfl, by kernel_rfl, ?_⟩
    rw [Try.underlying63]
    exact key _ (by decide)
theorem mixed_ok : Try.prog.follows .mixedOrders = true := by kernel_rfl
theorem ctx_okQ {C : Ctx} (q : Nat) (h1 : C.tys = tysQ q) (h2 : C.eqs = eqs) (h3 : ∀ f s, Lf.look C.fns f = some s → FOk Try.prog f s)
    (h4 : ∀ f s, Lf.look C.ptrs f = some s → ∃ o, POk Try.prog f s o ∧ ∀ q, o = some q → C.pin.isSome = true ∧ q = C.q) (h5 : ∀ t, C.thk = some t → TOk Try.prog C.q t) (h6 : ∀ t, C.clo = some t → ClOk Try.prog t)
    (h7 : ∀ f s, Lf.look C.ins f = some s → IOk Try.prog f s) : CtxOK Try.prog C :=
  ⟨by rw [h1]; exact tysQ_ok q, h3, mixed_ok, by rw [h1, h2]; exact eqs_ok q, h4, h5, h6, h7⟩
theorem ins_nil {P : Program} : ∀ f s, Lf.look ([] : List (FuncId × ISpec)) f = some s → IOk P f s := fun _ _ h => by cases h
theorem ptrs_nil {P : Program} {C : Ctx} : ∀ f s, Lf.look ([] : List (FuncId × PSpec)) f = some s → ∃ o, POk P f s o ∧ ∀ q, o = some q → C.pin.isSome = true ∧ q = C.q := fun _ _ h => by cases h
theorem fns_nil {P : Program} : ∀ f s, Lf.look ([] : List (FuncId × FSpec)) f = some s → FOk P f s := fun _ _ h => by cases h
theorem fns_cons {P : Program} {g : FuncId} {t : FSpec} {l : List (FuncId × FSpec)} (h : FOk P g t) (hl : ∀ f s, Lf.look l f = some s → FOk P f s) : ∀ f s, Lf.look ((g, t) :: l) f = some s → FOk P f s := by
  intro f s hs
  simp only [Lf.look] at hs
  cases hb : Nat.beq g f
  · rw [hb] at hs; exact hl f s hs
  · rw [hb] at hs
    have := Nat.eq_of_beq_eq_true hb
    simp only [cond_true, Option.some.injEq] at hs
    rw [← this, ← hs]; exact h
end Go.User
namespace Go.Proofs.Ytohcfjfnmgkadaa
open Go.ChangeShapes Go.WideShapes Go.ChangeAt Go.RowKit Go.Proofs Go.Lf
theorem Try.own : ownKnob Try.prog.godebug = none := by kernel_rfl
theorem Try.laidOut : laidOutB Try.prog = true := by kernel_rfl
end Go.Proofs.Ytohcfjfnmgkadaa
namespace Go.Proofs.Ytohcfjfnmgkadaa
open Go.ChangeShapes Go.WideShapes Go.ChangeAt Go.RowKit Go.Proofs Go.Lf
theorem sz_num {H : Type} {ts : List TypeId} {ds : List (DataW H)} (hsz : (DataW.weightsEach Try.prog ts ds).all (· ≤ reachBytes) = true) {j : Nat} {t e : TypeId} (ht : Try.prog.underlying t = some (.slice e)) {k : Nat} (hk : Try.prog.bytesOf e = k + 1) (h1 : ts[j]? = some t) {d : DataW H} (h2 : ds[j]? = some d) :
    ∀ xs ys, d = .slice xs ys → xs.length ≤ lim := by
  intro xs ys e'
  have := sized_slice hsz h1 (h2.trans (congrArg some e')) ht
  rw [hk] at this
  simp only [reachBytes] at this
  unfold lim
  have h3 : xs.length + ys.length ≤ (xs.length + ys.length) * (k + 1) := Nat.le_mul_of_pos_right _ (Nat.succ_pos _)
  omega
end Go.Proofs.Ytohcfjfnmgkadaa
namespace Sp
abbrev Memo := List (List Int)
def wd0 : Word := (0, 0, 0, false, ())
def wd (c : List Word) (k : Int) : Word := c.getD k.toNat wd0
def atW (a i : Int) (w : Word) : Bool := decide (w.1 = a) && decide (w.2.1 = i)
def cloW (z : Nat × List Int) (w : Word) : Bool := atW (z.2.getD 0 0) (z.2.getD 1 0) w
def findW (p : Word → Bool) (l : List Word) : Int := match l.findIdx? p with
  | some i => i
  | none => -1
def ramp (first : Int) (n : Nat) : List Int := (List.range n).map fun (i : Nat) => Go.IntKind.wrap .i32 (first + Go.IntKind.wrap .i32 (i : Int))
def begin (first : Int) : World := ([[], [], []], [ramp first 8], ())
def whole (m : Memo) : Bool := decide (m.length = 1) && decide ((m.getD 0 []).length = 8)
end Sp
namespace Go.User
open Go.Lf
/-- What the closures compute that accept a word. -/
def tClo : CSpec := { A := [tW], R := .bool, pre := fun z _ => z.1 = 55 ∧ z.2.length = 2, fn := fun z x => Sp.cloW z x.1 }
def mkC (n : Nat) (fns : List (FuncId × FSpec)) : Ctx := { N := n, tys := tysQ 0, fns := fns, eqs := eqs, clo := some tClo }
def isClo (z : Option (FuncId × List Int)) : Prop := z.isSome = true ∧ (z.getD (0, [])).1 = 55 ∧ (z.getD (0, [])).2.length = 2
-- Clone
def S42 : FSpec := { args := [.val (.slice tW)], multi := false, res := .slice tW, mode := .own .shr, pre := fun x => List.length x.1 ≤ 1000000, fn := fun x => x.1 }
def C42 : Ctx := mkC 8 []
def L42 (x : kdens S42.args) : List LoopI := []
def S60 : FSpec := { args := [.val tMem], multi := false, res := tMem, mode := .own .shr, pre := fun x => List.length x.1 ≤ 1000000, fn := fun x => x.1 }
def C60 : Ctx := mkC 8 []
def L60 (x : kdens S60.args) : List LoopI := []
def S61 : FSpec := { args := [.val (.slice (.int .i32))], multi := false, res := .slice (.int .i32), mode := .own .shr, pre := fun x => List.length x.1 ≤ 1000000, fn := fun x => x.1 }
def C61 : Ctx := mkC 8 []
def L61 (x : kdens S61.args) : List LoopI := []
-- Delete
def S56 : ISpec := { τ := .slice tW, m := .own .shr, args := [.val tI, .val tI], res := .slice tW, rm := .own .shr, pre := fun x y => 0 ≤ y.1 ∧ y.1 < y.2.1 ∧ y.2.1 ≤ (List.length x : Int) ∧ List.length x ≤ 1000000, out := fun x y => List.take (Int.toNat y.1) x ++ List.drop (Int.toNat y.2.1) x }
-- IndexFunc, at$1, at, find
def S54 : FSpec := { args := [.val (.slice tW), .val (.abs .clo)], multi := false, res := tI, mode := .shr, pre := fun x => isClo x.2.1, fn := fun x => Sp.findW (Sp.cloW (x.2.1.getD (0, []))) x.1 }
def C54 : Ctx := mkC 19 []
def L54 (x : kdens S54.args) : List LoopI := [
  { ι := Nat, inv := fun i => i ≤ List.length x.1 ∧ ∀ e ∈ List.take i x.1, Sp.cloW (x.2.1.getD (0, [])) e = false, dec := fun i => List.length x.1 - i, ovr := fun i => [(8, .shr tI (i : Int))], keep := [0, 1, 7] }]
def S55 : FSpec := { args := [.val tW, .sptr tI, .sptr tI], multi := false, res := .bool, mode := .shr, pre := fun _ => True, fn := fun x => Sp.atW x.2.1 x.2.2.1 x.1 }
def C55 : Ctx := { mkC 15 [] with clo := none }
def L55 (x : kdens S55.args) : List LoopI := []
def S41 : FSpec := { args := [.val tI, .val tI], multi := false, res := .abs .clo, mode := .shr, pre := fun _ => True, fn := fun x => some (55, [x.1, x.2.1]) }
def C41 : Ctx := mkC 6 []
def L41 (x : kdens S41.args) : List LoopI := []
def S40 : FSpec := { args := [.val (.slice tW), .val (.abs .clo)], multi := true, res := .prod tI (.prod .bool .unit), mode := .shr, pre := fun x => isClo x.2.1, fn := fun x => (Sp.findW (Sp.cloW (x.2.1.getD (0, []))) x.1, decide (0 ≤ Sp.findW (Sp.cloW (x.2.1.getD (0, []))) x.1), ()) }
def C40 : Ctx := mkC 13 [(54, S54)]
def L40 (x : kdens S40.args) : List LoopI := []
-- quotient, Bin (additions alone)
-- SameWords, Same, Copy, whole, begin
end Go.User
namespace Sp
theorem take_all {α : Type} {l : List α} {i : Nat} (h1 : i ≤ l.length) (h2 : (l.length : Int) ≤ (i : Int)) : l.take i = l := List.take_of_length_le (by omega)
theorem getD_at {α : Type} {l : List α} {i : Nat} (h : i < l.length) (d : α) : l.getD i d = l[i] := by rw [List.getD_eq_getElem?_getD, List.getElem?_eq_getElem h]; rfl
theorem take_succ {α : Type} {l : List α} {i : Nat} (h : i < l.length) (d : α) : l.take (i + 1) = l.take i ++ [l.getD i d] := by rw [List.take_succ_eq_append_getElem h, getD_at h]
theorem findW_at {l : List Word} {p : Word → Bool} {i : Nat} {d : Word} (h : ∀ e ∈ l.take i, p e = false) (hi : i < l.length) (hp : p (l.getD i d) = true) : (i : Int) = findW p l := by
  rw [getD_at hi] at hp
  unfold findW
  have : l.findIdx? p = some i := by
    rw [List.findIdx?_eq_some_iff_getElem]
    refine ⟨hi, hp, fun j hj => ?_⟩
    have := h l[j] (List.mem_take_iff_getElem.2 ⟨j, by omega, rfl⟩)
    rw [this]; simp
  rw [this]
theorem findW_none {l : List Word} {p : Word → Bool} (h : ∀ e ∈ l, p e = false) : (-1 : Int) = findW p l := by
  unfold findW
  have : l.findIdx? p = none := by
    rw [List.findIdx?_eq_none_iff]; exact h
  rw [this]
/-- What find finds. -/
theorem findW_cases (p : Word → Bool) (l : List Word) : (findW p l = -1 ∧ ∀ e ∈ l, p e = false) ∨ ∃ k : Nat, findW p l = k ∧ k < l.length ∧ (∀ e ∈ l.take k, p e = false) ∧ p (wd l k) = true := by
  cases h : l.findIdx? p with
  | none =>
    refine .inl ⟨by unfold findW; rw [h], ?_⟩
    rw [List.findIdx?_eq_none_iff] at h
    exact h
  | some i =>
    refine .inr ⟨i, by unfold findW; rw [h], ?_⟩
    rw [List.findIdx?_eq_some_iff_getElem] at h
    obtain ⟨hi, hp, hn⟩ := h
    refine ⟨hi, ?_, ?_⟩
    · intro e he
      obtain ⟨j, hj, rfl⟩ := List.mem_take_iff_getElem.1 he
      have := hn j (by omega)
      simpa using this
    · unfold wd
      rw [Int.toNat_natCast, getD_at hi]; exact hp
end Sp
namespace Go.User
open Go.Lf
theorem lim_eq : lim = 140737488355328 := rfl
theorem maxNew_eq : maxNew = 2147483648 := rfl
theorem inK_of {z : Int} (h1 : -9223372036854775808 ≤ z) (h2 : z ≤ 9223372036854775807) : inK .i64 z := ⟨h1, h2⟩
/-- A counter below a length may go on. -/
theorem inK_succ {i n : Nat} (h : (i : Int) < (n : Int)) (hn : n ≤ lim) : inK .i64 ((i : Int) + 1) := by rw [lim_eq] at hn; exact inK_of (by omega) (by omega)
theorem inN_of {i n : Nat} (h : (i : Int) < (n : Int)) : inN (i : Int) n := ⟨by omega, h⟩
end Go.User
namespace Go.User
open Go.Proofs Go.Lf
set_option maxRecDepth 100000
theorem vc42 : (funI C42 (stpQ C42) S42 L42 Try.f42) = (
let q0 : Prop := (True ∧ True) ∧ True;
∀ (x : List (Int × Int × Int × Bool × Unit) × Unit),
  let q1 : Nat := x.1.length;
  q1 ≤ (1000000 : Nat) → dFact ((Ty.int IntKind.i64).prod ((Ty.int IntKind.i64).prod ((Ty.int IntKind.i32).prod (Ty.bool.prod Ty.unit)))).slice x.1 ∧ True → q0 ∧ ((True ∧ True ∧ True) ∧ True) ∧ (x.1 = ([] : List tW.den) → q0 ∧ ([] : List tW.den) = x.1) ∧ (True → ((True ∧ True ∧ (↑((0 : Nat) + q1) : Int) ≤ maxNew ∧ True) ∧ True ∧ True) ∧ x.1 = x.1)) := by kernel_rfl
theorem vc60 : (funI C60 (stpQ C60) S60 L60 Try.f60) = (
let q0 : Prop := (True ∧ True) ∧ True;
let q1 : List (List Int) := ([] : List (Ty.int IntKind.i32).slice.den);
∀ (x : List (List Int) × Unit),
  let q2 : Nat := x.1.length;
  q2 ≤ (1000000 : Nat) → dFact (Ty.int IntKind.i32).slice.slice x.1 ∧ True → q0 ∧ ((True ∧ True ∧ True) ∧ True) ∧ (x.1 = q1 → q0 ∧ q1 = x.1) ∧ (True → ((True ∧ True ∧ (↑((0 : Nat) + q2) : Int) ≤ maxNew ∧ True) ∧ True ∧ True) ∧ x.1 = x.1)) := by kernel_rfl
theorem vc61 : (funI C61 (stpQ C61) S61 L61 Try.f61) = (
let q0 : Prop := (True ∧ True) ∧ True;
let q1 : List Int := ([] : List (Ty.int IntKind.i32).den);
∀ (x : List Int × Unit),
  let q2 : Nat := x.1.length;
  q2 ≤ (1000000 : Nat) → dFact (Ty.int IntKind.i32).slice x.1 ∧ True → q0 ∧ ((True ∧ True ∧ True) ∧ True) ∧ (x.1 = q1 → q0 ∧ q1 = x.1) ∧ (True → ((True ∧ True ∧ (↑((0 : Nat) + q2) : Int) ≤ maxNew ∧ True) ∧ True ∧ True) ∧ x.1 = x.1)) := by kernel_rfl
theorem vc54 : (funI C54 (stpQ C54) S54 L54 Try.f54) = (
let q0 : Nat × List Int := ((0 : Go.FuncId), ([] : List Int));
let q1 : Nat := (55 : Go.FuncId);
let q2 : Nat := (2 : Nat);
let q3 : Prop := (True ∧ True) ∧ True;
let q4 : Prop := True ∧ True ∧ True;
let q5 : Int := (0 : Int);
let q6 : Prop := q4 ∧ True;
let q7 : Int := (1 : Int);
∀ (x : List (Int × Int × Int × Bool × Unit) × Option (Nat × List Int) × Unit),
  let q8 : Nat × List Int := Option.rec q0 (fun (val : Go.FuncId × List Int) => (fun (x : Go.FuncId × List Int) => x) val) x.2.1;
  let q9 : Prop := x.2.1.isSome = true ∧ q8.1 = q1 ∧ q8.2.length = q2;
  let q10 : Nat := x.1.length;
  let q11 : Int := (↑q10 : Int);
  let q12 : Prop := x.1 = x.1 ∧ x.2.1 = x.2.1 ∧ q11 = q11 ∧ True;
  let q13 : Int := Sp.findW (Sp.cloW q8) x.1;
  q9 →
    dFact ((Ty.int IntKind.i64).prod ((Ty.int IntKind.i64).prod ((Ty.int IntKind.i32).prod (Ty.bool.prod Ty.unit)))).slice x.1 ∧ dFact (Ty.abs Abs.clo) x.2.1 ∧ True →
      q3 ∧
        ((True ∧ q4) ∧ True) ∧
          (∃ (x_1 : Nat), (x_1 ≤ q10 ∧ ∀ (e : Int × Int × Int × Bool × Unit), e ∈ List.take x_1 x.1 → Sp.cloW q8 e = false) ∧ q5 = (↑x_1 : Int) ∧ q12) ∧
            ∀ (x_1 : Nat),
              let q14 : Bool := decide ((↑x_1 : Int) < q11);
              let q15 : Bool := Sp.cloW q8 (x.1.getD (↑x_1 : Int).toNat (q5, q5, q5, false, ()));
              let q16 : Int := (↑x_1 : Int) + q7;
              (x_1 ≤ q10 ∧ ∀ (e : Int × Int × Int × Bool × Unit), e ∈ List.take x_1 x.1 → Sp.cloW q8 e = false) → dFact (Ty.int IntKind.i64) (↑x_1 : Int) ∧ True → q3 ∧ (q14 = true → q6 ∧ ((True ∧ True ∧ True ∧ inN (↑x_1 : Int) q10 ∧ True ∧ q9 ∧ True) ∧ True) ∧ (q15 = true → q6 ∧ (↑x_1 : Int) = q13) ∧ (q15 = false → ((inK IntKind.i64 q16 ∧ True ∧ True) ∧ True) ∧ ∃ (y : Nat), (y ≤ q10 ∧ ∀ (e : Int × Int × Int × Bool × Unit), e ∈ List.take y x.1 → Sp.cloW q8 e = false) ∧ q10 - y < q10 - x_1 ∧ q16 = (↑y : Int) ∧ q12)) ∧ (q14 = false → q3 ∧ -q7 = q13)) := by kernel_rfl
theorem vc55 : (funI C55 (stpQ C55) S55 L55 Try.f55) = (
let q0 : Prop := True ∧ True ∧ True;
∀ (x : (Int × Int × Int × Bool × Unit) × Int × Int × Unit),
  let q1 : Bool := x.1.1 == x.2.1;
  let q2 : Prop := (true && bif q1 then true else false) = true → True;
  True → dFact ((Ty.int IntKind.i64).prod ((Ty.int IntKind.i64).prod ((Ty.int IntKind.i32).prod (Ty.bool.prod Ty.unit)))) x.1 ∧ dFact (Ty.int IntKind.i64) x.2.1 ∧ dFact (Ty.int IntKind.i64) x.2.2.1 ∧ True → (q0 ∧ True) ∧ ((True ∧ True ∧ True ∧ True ∧ True ∧ q2 ∧ q2 ∧ q2 ∧ q2 ∧ q0) ∧ True) ∧ (bif q1 then x.1.2.1 == x.2.2.1 else false) = Sp.atW x.2.1 x.2.2.1 x.1) := by kernel_rfl
theorem vc41 : (funI C41 (stpQ C41) S41 L41 Try.f41) = (
let q0 : Prop := True ∧ True ∧ True ∧ True;
∀ (x : Int × Int × Unit),
  let q1 : List Int := x.1 :: x.2.1 :: ([] : List Int);
  True → dFact (Ty.int IntKind.i64) x.1 ∧ dFact (Ty.int IntKind.i64) x.2.1 ∧ True → (q0 ∧ True) ∧ q0 ∧ Option.some ((55 : Nat), q1) = Option.some ((55 : Go.FuncId), q1)) := by kernel_rfl
theorem vc40 : (funI C40 (stpQ C40) S40 L40 Try.f40) = (
let q0 : Nat × List Int := ((0 : Go.FuncId), ([] : List Int));
let q1 : Nat := (55 : Go.FuncId);
let q2 : Nat := (2 : Nat);
let q3 : Prop := True ∧ True ∧ True;
let q4 : Int := (0 : Int);
∀ (x : List (Int × Int × Int × Bool × Unit) × Option (Nat × List Int) × Unit),
  let q5 : Nat × List Int := Option.rec q0 (fun (val : Go.FuncId × List Int) => (fun (x : Go.FuncId × List Int) => x) val) x.2.1;
  let q6 : Prop := x.2.1.isSome = true ∧ q5.1 = q1 ∧ q5.2.length = q2;
  let q7 : Int := Sp.findW (Sp.cloW q5) x.1;
  q6 → dFact ((Ty.int IntKind.i64).prod ((Ty.int IntKind.i64).prod ((Ty.int IntKind.i32).prod (Ty.bool.prod Ty.unit)))).slice x.1 ∧ dFact (Ty.abs Abs.clo) x.2.1 ∧ True → (q3 ∧ True) ∧ ((True ∧ True ∧ q6 ∧ True ∧ True) ∧ True) ∧ ((True ∧ True ∧ True ∧ q3) ∧ True) ∧ (q7, decide (q7 ≥ q4), ()) = (q7, decide (q4 ≤ q7), ())) := by kernel_rfl
end Go.User
namespace Go.User
open Go.Lf Go.Proofs

theorem okA0 {n : Nat} {fns : List (FuncId × FSpec)} (h : ∀ f s, Lf.look fns f = some s → FOk Try.prog f s) : CtxOK Try.prog { mkC n fns with clo := none } :=
  ctx_okQ 0 rfl rfl h ptrs_nil (fun _ h => by cases h) (fun _ h => by cases h) ins_nil
theorem ok55 : FOk Try.prog 55 S55 := by
  have hC : CtxOK Try.prog C55 := okA0 fns_nil
  refine FOk.intro hC (stpQ_ok hC) Try.call55 Try.func55 (by kernel_rfl) (by kernel_rfl) L55 (vc55.mpr ?_)
  simp only [z1, z2, z3, z4, z5, z6, z7, z8, z9, z10, z11, z12, z13, z14, z15, z16, z17, z18, z19, z20, z21, z22, z23, z24, z25, z26, z27, z28, z29, z30, z31, z32, z33, z34, z35, z36, z37, z38]
  intro x hx
  simp only [Sp.atW]
  rfl
theorem clo_ok : ClOk Try.prog tClo := by
  rintro ⟨f, l⟩ w F caps vs xs hF hc hv ⟨hf, hl⟩
  simp only at hf hl hc
  subst hf
  refine ⟨ok55.1, ?_⟩
  match l, hl with
  | [a, b], _ =>
    match caps, hc with
    | v1 :: r1, ⟨n1, s1, e1, q1, g1, g1', q2⟩ =>
      injection e1 with e1 e2
      subst e1; subst e2
      match r1, q2 with
      | v2 :: r2, ⟨n2, s2, e1, p1, g2, g2', p2⟩ =>
        injection e1 with e1 e2
        subst e1; subst e2
        match r2, p2 with
        | v3 :: r3, ⟨_, _, e1, _⟩ => cases e1
        | [], _ =>
          obtain ⟨v, r, rfl, h1, h2⟩ := hv
          have h2 : r = [] := h2
          subst h2
          have hS : ∀ {v : Value} {n : Int}, CellAt F w v (.int .i64 n) → IntKind.i64.min ≤ n → n ≤ IntKind.i64.max → SAddr F w v tI n := by
            rintro v n ⟨b, off, row, T, fr, k1, k2, k3, k4⟩ k5 k6
            have hlt : off < row.size := (Array.getElem?_eq_some_iff.1 k4).1
            refine ⟨b, off, row, T, fr, k1, k2, k3, hlt, ?_, k5, k6⟩
            have : row[off] = .int .i64 n := (Array.getElem?_eq_some_iff.1 k4).2
            simp only [seg, Ty.size]
            rw [List.drop_eq_getElem_cons (by simpa using hlt)]
            simp [this]
          have := ok55.2 w F [v, v1, v2] (xs.1, a, b, ()) hF ⟨v, _, rfl, h1, v1, _, rfl, hS q1 g1 g1', v2, _, rfl, hS p1 g2 g2', rfl⟩ trivial
          exact this
    | [], hc => cases hc
theorem okA {n : Nat} {fns : List (FuncId × FSpec)} (h : ∀ f s, Lf.look fns f = some s → FOk Try.prog f s) : CtxOK Try.prog (mkC n fns) :=
  ctx_okQ 0 rfl rfl h ptrs_nil (fun _ h => by cases h) (fun t h => by injection h with h; subst h; exact clo_ok) ins_nil
theorem okC {C : Ctx} (h : ∀ f s, Lf.look C.fns f = some s → FOk Try.prog f s) (h1 : C.tys = tysQ 0) (h2 : C.eqs = eqs) (h3 : C.ptrs = []) (h4 : C.thk = none) (h5 : C.clo = some tClo) (h6 : C.ins = []) : CtxOK Try.prog C :=
  ctx_okQ 0 h1 h2 h (by rw [h3]; exact ptrs_nil) (fun _ h => by rw [h4] at h; cases h) (fun t h => by rw [h5] at h; injection h with h; subst h; exact clo_ok) (by rw [h6]; exact ins_nil)
theorem ok42 : FOk Try.prog 42 S42 := by
  have hC : CtxOK Try.prog C42 := okA fns_nil
  refine FOk.intro hC (stpQ_ok hC) Try.call42 Try.func42 (by kernel_rfl) (by kernel_rfl) L42 (vc42.mpr ?_)
  simp only [z1, z2, z3, z4, z5, z6, z7, z8, z9, z10, z11, z12, z13, z14, z15, z16, z17, z18, z19, z20, z21, z22, z23, z24, z25, z26, z27, z28, z29, z30, z31, z32, z33, z34, z35, z36, z37, z38]
  intro x hp hx
  refine ⟨fun h => h.symm, ?_⟩
  rw [maxNew_eq]; omega
theorem ok60 : FOk Try.prog 60 S60 := by
  have hC : CtxOK Try.prog C60 := okA fns_nil
  refine FOk.intro hC (stpQ_ok hC) Try.call60 Try.func60 (by kernel_rfl) (by kernel_rfl) L60 (vc60.mpr ?_)
  simp only [z1, z2, z3, z4, z5, z6, z7, z8, z9, z10, z11, z12, z13, z14, z15, z16, z17, z18, z19, z20, z21, z22, z23, z24, z25, z26, z27, z28, z29, z30, z31, z32, z33, z34, z35, z36, z37, z38]
  intro x hp hx
  refine ⟨fun h => h.symm, ?_⟩
  rw [maxNew_eq]; omega
theorem ok61 : FOk Try.prog 61 S61 := by
  have hC : CtxOK Try.prog C61 := okA fns_nil
  refine FOk.intro hC (stpQ_ok hC) Try.call61 Try.func61 (by kernel_rfl) (by kernel_rfl) L61 (vc61.mpr ?_)
  simp only [z1, z2, z3, z4, z5, z6, z7, z8, z9, z10, z11, z12, z13, z14, z15, z16, z17, z18, z19, z20, z21, z22, z23, z24, z25, z26, z27, z28, z29, z30, z31, z32, z33, z34, z35, z36, z37, z38]
  intro x hp hx
  refine ⟨fun h => h.symm, ?_⟩
  rw [maxNew_eq]; omega
theorem ok54 : FOk Try.prog 54 S54 := by
  have hC : CtxOK Try.prog C54 := okA fns_nil
  refine FOk.intro hC (stpQ_ok hC) Try.call54 Try.func54 (by kernel_rfl) (by kernel_rfl) L54 (vc54.mpr ?_)
  simp only [z1, z2, z3, z4, z5, z6, z7, z8, z9, z10, z11, z12, z13, z14, z15, z16, z17, z18, z19, z20, z21, z22, z23, z24, z25, z26, z27, z28, z29, z30, z31, z32, z33, z34, z35, z36, z37, z38]
  intro x hp hx
  refine ⟨⟨0, ⟨Nat.zero_le _, by simp⟩, rfl⟩, ?_⟩
  intro i hi hk
  refine ⟨fun hlt => ⟨⟨inN_of hlt, hp⟩, fun h => Sp.findW_at hi.2 (by omega) h, fun h => ⟨inK_succ hlt hx.1.1, i + 1, ⟨by omega, ?_⟩, by omega, by omega⟩⟩, fun hge => ?_⟩
  · rw [Sp.take_succ (by omega) (0, 0, 0, false, ())]
    intro e he
    rcases List.mem_append.1 he with he | he
    · exact hi.2 e he
    · rw [List.mem_singleton] at he; rw [he]; exact h
  · have := hi.2
    rw [Sp.take_all hi.1 hge] at this
    exact Sp.findW_none this
theorem ok41 : FOk Try.prog 41 S41 := by
  have hC : CtxOK Try.prog C41 := okA fns_nil
  refine FOk.intro hC (stpQ_ok hC) Try.call41 Try.func41 (by kernel_rfl) (by kernel_rfl) L41 (vc41.mpr ?_)
  simp only [z1, z2, z3, z4, z5, z6, z7, z8, z9, z10, z11, z12, z13, z14, z15, z16, z17, z18, z19, z20, z21, z22, z23, z24, z25, z26, z27, z28, z29, z30, z31, z32, z33, z34, z35, z36, z37, z38]
theorem ok40 : FOk Try.prog 40 S40 := by
  have hC : CtxOK Try.prog C40 := okA (fns_cons ok54 fns_nil)
  refine FOk.intro hC (stpQ_ok hC) Try.call40 Try.func40 (by kernel_rfl) (by kernel_rfl) L40 (vc40.mpr ?_)
  simp only [z1, z2, z3, z4, z5, z6, z7, z8, z9, z10, z11, z12, z13, z14, z15, z16, z17, z18, z19, z20, z21, z22, z23, z24, z25, z26, z27, z28, z29, z30, z31, z32, z33, z34, z35, z36, z37, z38]
  intro x hp hx
  exact hp
end Go.User
namespace Go.Lf

def storeO (C : Ctx) (st : St) (T : TypeId) (va vv : View) : Option (Prop × St) :=
  match va.e, vv.e, vv.s with
  | .addr r [.idx i], .own σ μ' y, some t => (match st r with
    | .own (.slice e) (.own _) xs => (match castD (τ := σ) (σ := e) y with
      | some y => bif decide (look C.tys T = some e) && !Nat.beq t r then some (List.length xs = 1, upd (kill (drop st t) r) r (.own (.slice e) (.own μ') [y])) else none
      | none => none)
    | _ => none)
  | _, _, _ => none

/-- A part of an owner that is given up goes into a variable. -/
def storeT (C : Ctx) (st : St) (T : TypeId) (va vv : View) : Option (Prop × St) :=
  match vv.sub?, va.addr? with
  | some al, some l => match getP al.p al.τ al.x, getM al.p al.τ al.m, getP l.p l.τ l.x, getM l.p l.τ l.m with
    | some ⟨σ', y⟩, some μ', some ⟨σ, _⟩, some μ => (match castD (τ := σ') (σ := σ) y with
      | some y => bif decide (look C.tys T = some σ) && memN C.take al.r && nodupN [l.r, al.r] then (match setP l.p l.τ l.x σ y, modeS l μ μ' with
        | some x', some m' => some (True, upd (keepAS (dropAll st [al.r]) l.r l.p) l.r (reown (st l.r) l.τ m' x'))
        | _, _ => none) else none
      | none => none)
    | _, _, _, _ => none
  | _, _ => none

section
variable {P : Program} {C : Ctx} {N : NP} {w0 : World} {F0 H : NSet} {env : St} {a : Act} {w : World} {F : NSet} {S : Nat → NSet} {d : Nat}

theorem storeO_ok (hC : CtxOK P C) (hi : Inv0 P C.np w0 F0 H env a w F S) {T : TypeId} {x z : Operand} {o : Oper} (ho : o.op = .store T x z) (hod : o.dst = none)
    {c : Prop} {st' : St} (h : storeO C env T (viewO env x) (viewO env z) = some (c, st')) (hc : c) {K : Act → World → Prop} {Q : Exit → Act → World → Prop} (hK : ∀ a' w', Inv P C.np w0 F0 H st' a' w' → K a' w') : o.wp P a w K Q := by
  have hx := viewO_ok hi x
  have hz := viewO_ok hi z
  unfold storeO at h
  split at h
  · rename_i r i σ μ' y t hxe hze hzs
    split at h
    · rename_i e μ0 xs hr
      split at h
      · rename_i y' hcast
        cases hb : (decide (look C.tys T = some e) && !Nat.beq t r)
        · rw [hb] at h; cases h
        rw [hb] at h
        simp only [cond_true, Option.some.injEq, Prod.mk.injEq] at h
        obtain ⟨rfl, rfl⟩ := h
        simp only [Bool.and_eq_true, decide_eq_true_eq, Bool.not_eq_true'] at hb
        obtain ⟨hT, htr⟩ := hb
        have htr : t ≠ r := fun e => by rw [nbeq_iff.2 e] at htr; cases htr
        have hcd := castD_some hcast
        injection hcd with e1 e2
        subst e1; cases e2
        have hown := ownAs_ok (e := σ) (m := μ') (x := y) (l := [t]) hi hz (by unfold View.ownAs; rw [hze, hzs]; simp [castD])
        rcases hown with ⟨h, _⟩ | ⟨t', h, hown⟩
        · cases h
        injection h with h _
        subst h
        have hroot : (viewO env x).r = env r := by rw [hx.root, hxe]; rfl
        obtain ⟨σ1, y1, μ1, pl, S0, cs, b, off, hA, hv⟩ := addr?_ok (l := ⟨r, [.idx i], .slice σ, .own μ0, xs⟩) hi hx (by unfold View.addr?; rw [hxe, hroot, hr]; rfl)
        have hR := hA.root
        simp only at hR
        rw [hr] at hR
        obtain ⟨_, _, hpl, hS0, hV⟩ := hR.own_inj
        subst hS0; subst hpl
        have hO := hR.2.2
        obtain ⟨ao, cap, hcs, hcap, hlim, hm⟩ := hO
        have hir := hA.inr
        simp only [inR] at hir
        have hi0 : i = 0 := by have := hir.1; omega
        subst hi0
        rcases hm with ⟨_, h⟩ | ⟨b1, off1, row, T1, Si, rfl, hb1, hrow, hsz, s, nb, dd, he⟩
        · omega
        have hloc := hA.loc
        rw [hcs] at hloc
        simp only [loc, Place.read] at hloc
        rw [if_pos (by omega)] at hloc
        simp only [Option.some.injEq, Prod.mk.injEq, Place.mem.injEq] at hloc
        obtain ⟨rfl, rfl, rfl⟩ := hloc
        obtain ⟨c', hc', hvo⟩ := hown
        have hsize : off1 + 0 * σ.size + σ.size ≤ row.size := by
          have : 1 * σ.size ≤ cap * σ.size := Nat.mul_le_mul_right _ (by omega)
          omega
        obtain ⟨w', k1, k2, k3, k4, k5, k6, k7⟩ := (hC.types T _ hT).storeVar (P := P) hrow hsize hvo.len hvo.one
        have hF : ∀ k, F k → w'.heap[k]? = w.heap[k]? := fun k hk => k3 k (fun e => (hi.sb r b1 hb1).2.2 (e ▸ hk))
        have hSt : ∀ u, u ≠ r → ∀ k, S u k → w'.heap[k]? = w.heap[k]? := fun u hu k hk => k3 k (fun e => hi.sd u r hu k hk (e ▸ hb1))
        have hvo' : Own F w' σ μ' (S t) c' y := hvo.congr hF (hSt t htr)
        have hi2 := hi.drop t
        have hdr : Go.Lf.drop env t r = env r := by
          unfold Go.Lf.drop
          rw [upd_ne _ _ (fun e => htr e.symm)]
          unfold kill killE
          rw [hr]; rfl
        have hnew : Own F w' (.slice σ) (.own μ') (fun k => k = b1 ∨ S t k) [.slice (some ⟨b1, off1, none⟩) 1 cap] [y] := by
          obtain ⟨g1, row0, row1, T0, g2, g3, g4, g5⟩ := k2
          rw [hrow] at g2
          injection g2 with g2
          injection g2 with g2 _ _
          subst g2
          refine ⟨_, cap, rfl, by rw [hc] at hcap; exact hcap, by simp [lim], .inr ⟨b1, off1, row1, T0, fun i => if i = 0 then S t else none', rfl, .inl rfl, g3, ?_, ?_, ?_, ?_, ?_⟩⟩
          · have : row1.size = row.size := by
              have := congrArg List.length g5
              simp only [Array.length_toList, List.length_append, List.length_take, List.length_drop, g1] at this
              omega
            rw [this]; exact hsz
          · intro i b hb
            by_cases h : i = 0
            · rw [if_pos h] at hb; exact .inr hb
            · rw [if_neg h] at hb; exact hb.elim
          · intro i hb
            by_cases h : i = 0
            · rw [if_pos h] at hb; exact hi.sd t r htr b1 hb hb1
            · rw [if_neg h] at hb; exact hb.elim
          · intro i j hij b h1 h2
            by_cases h : i = 0
            · by_cases h' : j = 0
              · exact hij (h.trans h'.symm)
              · rw [if_neg h'] at h2; exact h2.elim
            · rw [if_neg h] at h1; exact h1.elim
          · intro i x hix
            cases i with
            | succ i => simp at hix
            | zero =>
              simp only [List.getElem?_cons_zero, Option.some.injEq] at hix
              subst hix
              simp only [if_true]
              have : seg row1.toList (off1 + 0 * σ.size) σ.size = c' := by
                rw [g5]
                unfold seg
                rw [List.append_assoc, List.drop_append, List.drop_eq_nil_of_le (by rw [List.length_take]; omega), List.nil_append, List.length_take, Array.length_toList, Nat.min_eq_left (by omega), Nat.sub_self, List.drop_zero, List.take_append, List.take_of_length_le (by omega), g1, Nat.sub_self, List.take_zero, List.append_nil]
              rw [this]; exact hvo'
        have hset2 := hi2.setRoot (r := r) (by rw [hdr, hr]; rfl) (w' := w') (Sr := fun k => k = b1 ∨ S t k) (E := .own (.slice σ) (.own μ') [y]) rfl
          k5 k6 k7 (by omega) (fun k hk hH => k3 k (fun e => by subst e; exact (hi.sb r k hb1).1.elim (fun h => by omega) hH))
          (by
            rintro k (hk | ⟨u, hu, hk⟩)
            · exact hF k hk
            · by_cases h : u = t
              · simp [h] at hk; exact hk.elim
              · simp only [h, if_false] at hk; exact hSt u hu k hk)
          (by
            intro k hk
            have hk2 : ∃ u, (u = r ∨ u = t) ∧ S u k := by
              rcases hk with rfl | hk
              · exact ⟨r, .inl rfl, hb1⟩
              · exact ⟨t, .inr rfl, hk⟩
            obtain ⟨u, hu, hk2⟩ := hk2
            obtain ⟨q1, q2, q3⟩ := hi.sb u k hk2
            refine ⟨q1, by omega, q3, fun v hv hk3 => ?_⟩
            by_cases h : v = t
            · simp [h] at hk3; exact hk3
            · simp only [h, if_false] at hk3
              exact hi.sd v u (fun e => by rcases hu with rfl | rfl <;> contradiction) k hk3 hk2)
          (by
            simp only [EntOK, if_true]
            refine ⟨.val cs, _, cs, .inl ⟨rfl, rfl, rfl, hV⟩, rfl, ?_⟩
            rw [hcs, hc]; exact hnew)
        unfold Oper.wp
        have fin : (execOp a.eval o).run P w = .ok .skip w' := by
          simp [execOp, ho, Instr.storeAt, hv, Instr.sureAddr]
          rw [hc', show off1 = off1 + 0 * σ.size by omega, k1]; rfl
        rw [fin, Oper.upon_skip, hod]
        exact hK a w' ⟨F, _, hset2⟩
      · cases h
    · cases h
  · cases h

theorem storeT_ok (hC : CtxOK P C) (hi : Inv0 P C.np w0 F0 H env a w F S) {T : TypeId} {x z : Operand} {o : Oper} (ho : o.op = .store T x z) (hod : o.dst = none)
    {c : Prop} {st' : St} (h : storeT C env T (viewO env x) (viewO env z) = some (c, st')) {K : Act → World → Prop} {Q : Exit → Act → World → Prop} (hK : ∀ a' w', Inv P C.np w0 F0 H st' a' w' → K a' w') : o.wp P a w K Q := by
  have hx := viewO_ok hi x
  have hz := viewO_ok hi z
  unfold storeT at h
  split at h
  · rename_i al l hal hl
    obtain ⟨σ1, y1, μ1, pl1, S1, cs1, pl1', cs1', hB, hrd, hvz⟩ := sub?_ok hi hz hal
    obtain ⟨σ2, y2, μ2, pl, S0, cs, b, off, hA, hv⟩ := addr?_ok hi hx hl
    rw [hB.get, hB.mode, hA.get, hA.mode] at h
    simp only at h
    split at h
    · rename_i y hcast
      have hcd := castD_some hcast
      injection hcd with e1 e2
      subst e1; cases e2
      cases hb : (decide (look C.tys T = some σ1) && memN C.take al.r && nodupN [l.r, al.r])
      · rw [hb] at h; cases h
      rw [hb] at h
      simp only [Bool.and_eq_true, decide_eq_true_eq] at hb
      obtain ⟨⟨hT, _⟩, hn⟩ := hb
      simp only [cond_true] at h
      split at h
      · rename_i x' m' hset hmode
        simp only [Option.some.injEq, Prod.mk.injEq] at h
        obtain ⟨_, rfl⟩ := h
        have hm : μ1 = μ2 ∧ m' = l.m ∨ setM l.p l.τ l.m μ1 = some m' := by
          unfold modeS at hmode
          cases hd : decide (μ1 = μ2)
          · rw [hd] at hmode; exact .inr hmode
          · rw [hd] at hmode
            simp only [cond_true, Option.some.injEq] at hmode
            exact .inl ⟨of_decide_eq_true hd, hmode.symm⟩
        obtain ⟨cs2, S', f⟩ := hA.focus (fun b hb => (hi.sb _ b hb).2.2)
        obtain ⟨q1, q2, row, T0, q3, q4, q5⟩ := f.ok
        have hbS : S l.r b := (f.blk b rfl).elim (hA.root.sub b) hA.root.isB
        obtain ⟨cs3, S3, f3⟩ := hB.focus (fun b hb => (hi.sb _ b hb).2.2)
        have e3 := f3.ok.read.symm.trans hrd
        simp only [Option.some.injEq] at e3; subst e3
        have hown : OwnV F w σ1 μ1 S3 (a.eval z) y1 := ⟨_, hvz, f3.own⟩
        have hS3 : ∀ k, S3 k → S al.r k := fun k hk => hB.root.sub k (f3.sub k hk)
        obtain ⟨hnr, _⟩ := nodup_cons hn
        have hne : al.r ≠ l.r := fun e => hnr (by simp [e])
        have hdis : ∀ k, S3 k → ¬ S l.r k := fun k hk hr => hi.sd al.r l.r hne k (hS3 k hk) hr
        obtain ⟨w', g1, g2⟩ := store_core hC hi hT hA.root f.toPlug ⟨row, T0, q3, q4⟩ hown hn (fun k hk => ⟨fun h => hdis k hk (hA.root.sub k h.1), fun h => hdis k hk (hA.root.isB h), .inr ⟨al.r, by simp, hS3 k hk⟩, fun e => hdis k hk (e ▸ hbS)⟩) hset hm hA.get hA.mode hA.inr
        unfold Oper.wp
        have fin : (execOp a.eval o).run P w = .ok .skip w' := by
          simp [execOp, ho, Instr.storeAt, hv, Instr.sureAddr, g1]
        rw [fin, Oper.upon_skip, hod]
        exact hK a w' g2
      · cases h
    · cases h
  · cases h

/-- All of a region's tail. -/
def stpR (C : Ctx) (st : St) (o : Oper) : Option (Prop × St) :=
  match stpQ C st o with
  | some r => some r
  | none => match o.op with
    | .store T x v => bif isNone o.dst then (match storeO C st T (viewO st x) (viewO st v) with
      | some r => some r
      | none => storeT C st T (viewO st x) (viewO st v)) else none
    | _ => none

theorem stpR_ok (hC : CtxOK P C) : StpOK P C (stpR C) := by
  intro w0 F0 H env env' a w o c hi h hc K Q hK
  unfold stpR at h
  split at h
  · rename_i r hr
    simp only [Option.some.injEq] at h
    subst h
    exact stpQ_ok hC hi hr hc K Q hK
  · split at h
    · rename_i T x v hop
      obtain ⟨F, S, hi⟩ := hi
      cases hd : isNone o.dst
      · rw [hd] at h; cases h
      · rw [hd] at h
        simp only [cond_true] at h
        split at h
        · rename_i r hr
          simp only [Option.some.injEq] at h
          subst h
          exact storeO_ok hC hi hop (isNone_iff.1 hd) hr hc hK
        · exact storeT_ok hC hi hop (isNone_iff.1 hd) h hK
    · cases h
end
end Go.Lf
namespace Go.Lf
section
variable {P : Program} {C : Ctx} {ops : Array Oper} {Q : Exit → Act → World → Prop} {a : Act} {w w' : World} {o : Oper} {v : Value} {i : Nat} {rest : List Nat}

theorem ev_put {d : Nat} {t : Nat} (h : d < a.tmps.size) : (a.put (some d) v).eval (.tmp t) = if t = d then v else a.eval (.tmp t) := Act.getD_put h
theorem mv_run {x : Operand} (h : o.op = .move x ∨ o.op = .assign x) : (execOp a.eval o).run P w = .ok (.value (a.eval x)) w := by
  rcases h with h | h <;> simp [execOp, h]
theorem mv_eq {x : Operand} {u : Value} (h : o.op = .move x ∨ o.op = .assign x) (e : a.eval x = u) : (execOp a.eval o).run P w = .ok (.value u) w := by rw [mv_run h, e]
theorem ops_value (ho : ops[i]? = some o) (hg : o.guard = none) (hrun : (execOp a.eval o).run P w = .ok (.value v) w') (hK : wpOps P ops Q rest (a.put o.dst v) w') : wpOps P ops Q (i :: rest) a w := by
  rw [wpOps_cons]
  unfold wpOp
  have hw : Region.wanted o (yielded ops a.tmps) = true := by simp [Region.wanted, hg]
  simp only [ho, hw, if_true]
  refine .inl ?_
  unfold Oper.wp
  rw [hrun, Oper.upon_value]
  exact hK
theorem ops_nil (h : Q .normal a w) : wpOps P ops Q [] a w := by simpa [wpOps] using h
theorem run_cut (hC : CtxOK P C) {T : TypeId} {e : Ty} (hT : look C.tys T = some (.slice e)) {ao : Option Addr} {n cap : Nat} {lo hi mx : Option Value} {l h m : Int} (hl : lo = none ∧ l = 0 ∨ ∃ k, lo = some (.int k l)) (hh : hi = none ∧ mx = none ∧ h = n ∨ ∃ k, hi = some (.int k h))
    (hm : mx = none ∧ m = cap ∨ ∃ k, mx = some (.int k m)) (h0 : 0 ≤ l) (h1 : l ≤ h) (h2 : h ≤ m) (h3 : m ≤ cap) (w : World) :
    (Instr.sliceAt T (.slice ao n cap) lo hi mx).run P w = .ok (.slice (if m.toNat = l.toNat then ao else ao.map (·.add (l.toNat * e.size))) (h.toNat - l.toNat) (m.toNat - l.toNat)) w := by
  obtain ⟨E, t1, t2, t3⟩ := (hC.types T _ hT).slice
  have hs := (hC.types E _ t2).run_size w
  have hb := run_sliceBounds (P := P) (w := w) n cap lo hi mx l h m hl hh hm h0 h1 h2 h3
  simp [Instr.sliceAt, Instr.slice, run_underlying t1, hb, hs]
/-- Cells are stored in a row. -/
theorem run_cells {b off : Nat} {row : Array Value} {T0 : TypeId} (hr : w.heap[b]? = some (.cells row T0 (0, 0))) {cs : List Value} (ho : off + cs.length ≤ row.size) (h1 : ∀ v ∈ cs, v.oneCell' = true) :
    ∃ w', (storeCells ⟨b, off, none⟩ cs).run P w = .ok () w' ∧ w'.heap[b]? = some (.cells (row.toList.take off ++ cs ++ row.toList.drop (off + cs.length)).toArray T0 (0, 0)) ∧ (∀ k, k ≠ b → w'.heap[k]? = w.heap[k]?) ∧
      w'.heap.size = w.heap.size ∧ w'.os = w.os ∧ w'.tape = w.tape ∧ w'.output = w.output := by
  have hs := run_storeCells_at (P := P) b off T0 cs 0 row w hr (by omega) h1
  refine ⟨w.setRow b (row.toList.take (off + 0) ++ cs ++ row.toList.drop (off + 0 + cs.length)).toArray, ?_, ?_, ?_, ?_, rfl, rfl, rfl⟩
  · simpa using hs
  · simp [World.setRow, Array.getElem?_modify, hr]
  · intro k hk
    simp only [World.setRow, Array.getElem?_modify]
    rw [if_neg (Ne.symm hk)]
  · simp [World.setRow]
theorem run_len (hC : CtxOK P C) {T : TypeId} {e : Ty} (hT : look C.tys T = some (.slice e)) {x : Operand} (ho : o.op = .call { callee := .builtin .len, args := #[x], argTypes := #[T] }) {ao : Option Addr} {n cap : Nat} (hx : a.eval x = .slice ao n cap) (w : World) :
    (execOp a.eval o).run P w = .ok (.value (.int .i64 n)) w := by
  obtain ⟨E, t1, t2, t3⟩ := (hC.types T _ hT).slice
  have hv : (Builtin.len_ #[T] o.type #[a.eval x]).run P w = .ok (.int .i64 n) w := by rw [hx]; simp [Builtin.len_, run_underlying t1, goInt]
  simp only [execOp, ho, resolve, invoke, builtin, Sem.run_bind, Sem.run_pure, Result.andThen, List.map_toArray, List.map_cons, List.map_nil]
  rw [hv]
theorem run_sliceOp {T : TypeId} {x : Operand} {lo hi mx : Option Operand} (ho : o.op = .slice T x lo hi mx) {V : Value} (hV : a.eval x = V) {l h m : Option Value} (hl : lo.map a.eval = l) (hh : hi.map a.eval = h) (hm : mx.map a.eval = m)
    (hr : (Instr.sliceAt T V l h m).run P w = .ok v w) : (execOp a.eval o).run P w = .ok (.value v) w := by
  subst hl; subst hh; subst hm; subst hV
  simp [execOp, ho, hr]
theorem run_appendOp {T T2 : TypeId} {x y : Operand} (ho : o.op = .call { callee := .builtin .append, args := #[x, y], argTypes := #[T, T2] }) {X Y : Value} (hx : a.eval x = X) (hy : a.eval y = Y)
    (hr : (Builtin.append_ #[T, T2] o.type #[X, Y]).run P w = .ok v w') : (execOp a.eval o).run P w = .ok (.value v) w' := by
  subst hx; subst hy
  simp only [execOp, ho, resolve, invoke, builtin, Sem.run_bind, Sem.run_pure, Result.andThen, List.map_toArray, List.map_cons, List.map_nil]
  rw [hr]
theorem run_clearOp {T : TypeId} {x : Operand} (ho : o.op = .call { callee := .builtin .clear, args := #[x], argTypes := #[T] }) {X : Value} (hx : a.eval x = X)
    (hr : (Builtin.clear_ #[T] o.type #[X]).run P w = .ok v w') : (execOp a.eval o).run P w = .ok (.value v) w' := by
  subst hx
  simp only [execOp, ho, resolve, invoke, builtin, Sem.run_bind, Sem.run_pure, Result.andThen, List.map_toArray, List.map_cons, List.map_nil]
  rw [hr]
theorem zeros_one {e : Ty} (n : Nat) : ∀ v ∈ (Builtin.zeroCells e.zero.toArray n).toList, v.oneCell' = true := by
  intro v hv
  have hz := Own.zero none' (default : World) e .shr none'
  simp only [Builtin.zeroCells, Array.toList_map, List.mem_map] at hv
  obtain ⟨i, hi, rfl⟩ := hv
  by_cases h : e.zero.length = 0
  · have : e.zero = [] := List.length_eq_zero_iff.1 h
    rw [this] at hi ⊢
    simp at hi
  · refine hz.one _ ?_
    have hlt : i % e.zero.toArray.size < e.zero.toArray.size := Nat.mod_lt _ (by simp; omega)
    rw [getElem!_pos e.zero.toArray _ hlt]
    simp
theorem run_clear (hC : CtxOK P C) {T ty : TypeId} {e : Ty} (hT : look C.tys T = some (.slice e)) {b off n cap : Nat} {row : Array Value} {T0 : TypeId} (hr : w.heap[b]? = some (.cells row T0 (0, 0))) (ho : off + n * e.size ≤ row.size) (hn : 0 < n) :
    ∃ w' zs, (Builtin.clear_ #[T] ty #[.slice (some ⟨b, off, none⟩) n cap]).run P w = .ok (.tuple #[]) w' ∧ w'.heap[b]? = some (.cells (row.toList.take off ++ zs ++ row.toList.drop (off + zs.length)).toArray T0 (0, 0)) ∧ zs.length = n * e.size ∧
      (∀ k, k ≠ b → w'.heap[k]? = w.heap[k]?) ∧ w'.heap.size = w.heap.size ∧ w'.os = w.os ∧ w'.tape = w.tape ∧ w'.output = w.output := by
  obtain ⟨E, t1, t2, t3⟩ := (hC.types T _ hT).slice
  obtain ⟨i, dd, q1, q2, q3, q4, q5, q6⟩ := hC.types E _ t2
  have hz := Own.zero none' w e .shr none'
  have hzc := slotv_cells hz.len hz.one
  have hl : (Builtin.zeroCells e.zero.toArray n).toList.length = n * e.size := by simp [Builtin.zeroCells, hz.len]
  obtain ⟨w', k1, k2, k3, k4, k5, k6, k7⟩ := run_cells (P := P) (off := off) hr (cs := (Builtin.zeroCells e.zero.toArray n).toList) (by rw [hl]; exact ho) (zeros_one n)
  refine ⟨w', (Builtin.zeroCells e.zero.toArray n).toList, ?_, k2, hl, k3, k4, k5, k6, k7⟩
  obtain ⟨m, rfl⟩ : ∃ m, n = m + 1 := ⟨n - 1, by omega⟩
  simp only [Builtin.clear_, List.getElem?_toArray, List.getElem?_cons_zero, Sem.run_bind, run_underlying t1, Result.andThen, zeroValue, typeInfo, run_program, q1, q5, Sem.run_pure, hzc, k1]
theorem ret_one {fn : Func} {R : Ending → World → Prop} {t : Nat} (hf : fn.results.toList = [.tmp t]) (hd : a.defers = []) (hv : a.eval (.tmp t) = v) (hR : R (.returned v) w) : Code.ret.wp P (bodyPost P fn R) a w := by
  refine wp_ret ⟨hd, v, ?_, hR⟩
  rw [results_run (vs := [v])]
  · rfl
  · rw [hf]
    simp only [List.mapM_cons, List.mapM_nil, resG, Sem.run_bind, Sem.run_pure, Result.andThen]
    have hv : a.tmps.getD t undef = v := hv
    rw [hv]
theorem run_cell (hC : CtxOK P C) {F : NSet} {T : TypeId} {τ : Ty} (hT : look C.tys T = some τ) (hs : τ.size = 1) {x : Operand} (ho : o.op = .load T x) {u c : Value} (hx : a.eval x = u) (hc : CellAt F w u c) (hsl : slotv τ [c] = c) :
    (execOp a.eval o).run P w = .ok (.value c) w := by
  obtain ⟨b, off, row, T0, fr, rfl, h2, h3, h4⟩ := hc
  have hlt : off < row.size := (Array.getElem?_eq_some_iff.1 h4).1
  have hl := (hC.types T _ hT).loadVar (P := P) h3 (show off + τ.size ≤ row.size by rw [hs]; exact hlt)
  have e1 : seg row.toList off τ.size = [c] := by
    rw [hs]
    unfold seg
    rw [List.drop_eq_getElem_cons (by simpa using hlt)]
    have : row[off] = c := (Array.getElem?_eq_some_iff.1 h4).2
    simp [this]
  rw [e1, hsl] at hl
  simp [execOp, ho, Instr.loadAt, hx, Instr.sureAddr, hl]
theorem ops_call {R : Ending → World → Prop} {f : FuncId} {args : Array Value} (ho : ops[i]? = some o) (hg : o.guard = none) (hrun : (execOp a.eval o).run P w = .ok (.enter f args) w) (hcall : Calls P f args w R)
    (hK : ∀ e w', R e w' → ∃ v, e = .returned v ∧ wpOps P ops Q rest (a.put o.dst v) w') : wpOps P ops Q (i :: rest) a w := by
  rw [wpOps_cons]
  unfold wpOp
  have hw : Region.wanted o (yielded ops a.tmps) = true := by simp [Region.wanted, hg]
  simp only [ho, hw, if_true]
  refine .inl ?_
  unfold Oper.wp
  rw [hrun, Oper.upon_enter]
  refine hcall.mono ?_
  intro e w' h
  obtain ⟨v, rfl, hh⟩ := hK e w' h
  exact hh
theorem run_call {f : FuncId} {args : Array Operand} {ts : Array TypeId} (ho : o.op = .call { callee := .value (.func f), args, argTypes := ts }) (hf : FnDef P f) {vs : List Value} (hv : args.toList.map a.eval = vs) : (execOp a.eval o).run P w = .ok (.enter f vs.toArray) w := by
  simp only [execOp, ho, resolve, Sem.run_bind, Act.eval, Deferred.ofValue, Sem.run_pure, Result.andThen, invoke]
  have := hf vs.toArray w
  rw [← this]
  congr 1
  congr 1
  apply Array.ext'
  simp [← hv]
end
end Go.Lf
namespace Go.User
open Go.Lf Go.Proofs

theorem seg_mid {A B D : List Value} {o n k : Nat} (hA : A.length = k) (h : o + n ≤ k) : seg (A ++ B ++ D) o n = seg A o n := by
  unfold seg
  rw [List.append_assoc, List.drop_append_of_le_length (by omega), List.take_append_of_le_length (by rw [List.length_drop]; omega)]
theorem seg_take {A : List Value} {o n k : Nat} (h : o + n ≤ k) : seg (A.take k) o n = seg A o n := by
  unfold seg
  rw [List.drop_take, List.take_take, Nat.min_eq_left (by omega)]
theorem seg_in {A B D : List Value} {o n k : Nat} (hA : A.length = k) (h1 : k ≤ o) (h2 : o + n ≤ k + B.length) : seg (A ++ B ++ D) o n = seg B (o - k) n := by
  unfold seg
  rw [List.append_assoc, List.drop_append, List.drop_eq_nil_of_le (by omega), List.nil_append, hA, List.drop_append_of_le_length (by omega), List.take_append_of_le_length (by rw [List.length_drop]; omega)]
theorem seg_seg' {A : List Value} {o m p n : Nat} (h : p + n ≤ m) : seg (seg A o m) p n = seg A (o + p) n := by
  unfold seg
  rw [List.drop_take, List.take_take, Nat.min_eq_left (by omega), List.drop_drop]

theorem start_ev {vs : List Value} {k t : Nat} {v : Value} (h : vs[t]? = some v) : ({ tmps := vs.toArray ++ Array.replicate k undef, defers := [] } : Act).eval (.tmp t) = v := by
  have hlt : t < vs.length := (List.getElem?_eq_some_iff.1 h).1
  show (vs.toArray ++ Array.replicate k undef).getD t undef = v
  rw [Array.getD_eq_getD_getElem?, Array.getElem?_append_left (by simpa using hlt)]
  simp only [List.getElem?_toArray, h, Option.getD_some]

/-- A slice, two numbers in the first three slots. -/
structure DelAt (a : Act) (v : Value) (i j : Int) : Prop where
  size : a.tmps.size = 33
  dfs : a.defers = []
  e0 : a.eval (.tmp 0) = v
  e1 : a.eval (.tmp 1) = .int .i64 i
  e2 : a.eval (.tmp 2) = .int .i64 j
theorem DelAt.put {a : Act} {v : Value} {i j : Int} (h : DelAt a v i j) {d : Nat} (u : Value) (hd : d < 33) (hd3 : 3 ≤ d) : DelAt (a.put (some d) u) v i j := by
  have hs : d < a.tmps.size := by rw [h.size]; exact hd
  exact ⟨by rw [Act.size_put]; exact h.size, by rw [Act.defers_put]; exact h.dfs, by rw [ev_put hs, if_neg (by omega)]; exact h.e0, by rw [ev_put hs, if_neg (by omega)]; exact h.e1, by rw [ev_put hs, if_neg (by omega)]; exact h.e2⟩

theorem ev_none {a : Act} {v : Value} {x : Operand} : (a.put none v).eval x = a.eval x := rfl
theorem run_eqlOp {P : Program} {a : Act} {o : Oper} {x y : Operand} (ho : o.op = .binOp .eql 3 x y 3) {i j : Nat} (hx : a.eval x = .int .i64 i) (hy : a.eval y = .int .i64 j) (hn : i ≠ j) (w : World) : (execOp a.eval o).run P w = .ok (.value (.bool false)) w := by
  have : ¬ ((i : Int) = (j : Int)) := by omega
  simp [execOp, ho, hx, hy, eqGuard, binOp, Op.equal, Op.equalIn, Op.intCmp, this]
theorem AnyAt {P : Program} {ops : Array Oper} {Q : Exit → Act → World → Prop} {i : Nat} {o : Oper} {v : Value} {fuel : Nat} {listed : Array Bool} {a : Act} {w : World} (hi : ops[i]? = some o) (hg : o.guard = none)
    (hs : Region.noSelect ops = true) (hf : Region.free .any ops listed i = true) (hr : (Region.ready .any ops listed).contains i = true) (hQ : ∀ c a w, Q (.panic c) (a.put o.dst v) w → Q (.panic c) a w)
    (hv : ∀ w, (execOp a.eval o).run P w = .ok (.value v) w) (h : wpAny P .any ops Q fuel (listed.setIfInBounds i true) (a.put o.dst v) w) : wpAny P .any ops Q (fuel + 1) listed a w :=
  wpAny_take hi hs hf hr hQ (.inl ⟨by simp [Region.wanted, hg], hv⟩) h
theorem AnyOne {P : Program} {ops : Array Oper} {Q : Exit → Act → World → Prop} {i : Nat} {o : Oper} {v : Value} {fuel : Nat} {listed : Array Bool} {a : Act} {w w' : World} (hi : ops[i]? = some o) (hg : o.guard = none)
    (hr : Region.ready .any ops listed = [i]) (hv : (execOp a.eval o).run P w = .ok (.value v) w') (h : wpAny P .any ops Q fuel (listed.setIfInBounds i true) (a.put o.dst v) w') : wpAny P .any ops Q (fuel + 1) listed a w := by
  refine wpAny_all hr (by simp) ?_
  intro k hk
  rw [List.mem_singleton] at hk
  subst hk
  unfold wpOp
  have hw : Region.wanted o (yielded ops a.tmps) = true := by simp [Region.wanted, hg]
  simp only [hi, hw, if_true]
  refine .inl ?_
  unfold Oper.wp
  rw [hv, Oper.upon_value]
  exact h

set_option maxRecDepth 10000 in
theorem del_code {R : Ending → World → Prop} {a : Act} {w : World} {b off n cap i j : Nat} {row : Array Value} {T0 : TypeId} (h : DelAt a (.slice (some ⟨b, off, none⟩) n cap) i j) {c : Code} (hc : Try.f56.body = some c)
    (h1 : i < j) (h2 : j ≤ n) (h3 : n ≤ cap) (h4 : n ≤ 1000000) (hrow : w.heap[b]? = some (.cells row T0 (0, 0))) (hsz : off + cap * 4 ≤ row.size) (hone : ∀ v ∈ seg row.toList off (n * 4), v.oneCell' = true)
    (hR : ∀ (w' : World) (row' : Array Value), w'.os = w.os → w'.tape = w.tape → w'.output = w.output → w'.heap.size = w.heap.size → (∀ k, k ≠ b → w'.heap[k]? = w.heap[k]?) → w'.heap[b]? = some (.cells row' T0 (0, 0)) → row'.size = row.size →
      (∀ k, k < i + (n - j) → seg row'.toList (off + k * 4) 4 = seg row.toList (off + (if k < i then k else k - i + j) * 4) 4) → R (.returned (.slice (some ⟨b, off, none⟩) (i + (n - j)) cap)) w') : c.wp Try.prog (bodyPost Try.prog Try.f56 R) a w := by
  have hC : CtxOK Try.prog (mkC 33 []) := okA fns_nil
  have hT : Lf.look (mkC 33 []).tys 38 = some (.slice tW) := by kernel_rfl
  have hT41 : Lf.look (mkC 33 []).tys 41 = some tW := by kernel_rfl
  injection (show some _ = some c from hc) with hc
  subst hc
  have cutA : ∀ w, (Instr.sliceAt 38 (.slice (some ⟨b, off, none⟩) n cap) none (some (.int .i64 i)) none).run Try.prog w = .ok (.slice (some ⟨b, off, none⟩) i cap) w := by
    intro w
    have := run_cut (P := Try.prog) (ao := some ⟨b, off, none⟩) (n := n) (cap := cap) (lo := none) (hi := some (.int .i64 i)) (mx := none) (l := 0) (h := i) (m := cap) hC hT (.inl ⟨rfl, rfl⟩) (.inr ⟨_, rfl⟩) (.inl ⟨rfl, rfl⟩) (by omega) (by omega) (by omega) (by omega) w
    rw [this]
    have : cap ≠ 0 := by omega
    simp [add_mk, this]
  obtain ⟨W2, hW2, cutB⟩ : ∃ W2, (∃ ao, W2 = Value.slice (some ao) (n - j) (cap - j) ∧ ∃ o', ao = ⟨b, o', none⟩ ∧ (n - j = 0 ∨ o' = off + j * 4) ∧ o' ≤ off + cap * 4) ∧ ∀ w, (Instr.sliceAt 38 (.slice (some ⟨b, off, none⟩) n cap) (some (.int .i64 j)) none none).run Try.prog w = .ok W2 w := by
    refine ⟨_, ?_, fun w => run_cut (P := Try.prog) (ao := some ⟨b, off, none⟩) (n := n) (cap := cap) (lo := some (.int .i64 j)) (hi := none) (mx := none) (l := j) (h := n) (m := cap) hC hT (.inr ⟨_, rfl⟩) (.inl ⟨rfl, rfl, rfl⟩) (.inl ⟨rfl, rfl⟩) (by omega) (by omega) (by omega) (by omega) w⟩
    by_cases hcj : cap = j
    · refine ⟨⟨b, off, none⟩, ?_, off, rfl, .inl (by omega), by omega⟩
      simp [hcj]
    · refine ⟨⟨b, off + j * 4, none⟩, ?_, _, rfl, .inr rfl, by omega⟩
      have : (cap : Int).toNat ≠ (j : Int).toNat := by omega
      rw [if_neg this]
      simp [add_mk, show tW.size = 4 from rfl]
  -- region 0
  refine wp_seq (wp_region (ops_value rfl rfl (mv_run (.inr rfl)) (ops_nil ?_)))
  -- region 1
  refine wp_seq (wp_region ?_)
  refine ops_value (v := (.slice (some ⟨b, off, none⟩) n cap)) rfl rfl (mv_eq (.inl rfl) (by simp [ev_put, Act.size_put, h.size, h.e0, h.e1, h.e2])) ?_
  refine ops_value (v := (.int .i64 i)) rfl rfl (mv_eq (.inl rfl) (by simp [ev_put, Act.size_put, h.size, h.e0, h.e1, h.e2])) ?_
  refine ops_value (v := (.int .i64 j)) rfl rfl (mv_eq (.inl rfl) (by simp [ev_put, Act.size_put, h.size, h.e0, h.e1, h.e2])) ?_
  refine ops_value (v := (.slice (some ⟨b, off, none⟩) n cap)) rfl rfl (mv_eq (.inl rfl) (by simp [ev_put, Act.size_put, h.size, h.e0, h.e1, h.e2])) ?_
  refine ops_value rfl rfl (run_len (ao := some ⟨b, off, none⟩) (n := n) (cap := cap) hC hT rfl (by simp [ev_put, Act.size_put, h.size, h.e0, h.e1, h.e2]) _) ?_
  refine ops_value rfl rfl (run_sliceOp (V := (.slice (some ⟨b, off, none⟩) n cap)) (l := some (.int .i64 i)) (h := some (.int .i64 j)) (m := some (.int .i64 n)) rfl (by simp [ev_put, Act.size_put, h.size, h.e0, h.e1, h.e2]) (by simp [ev_put, Act.size_put, h.size, h.e0, h.e1, h.e2]) (by simp [ev_put, Act.size_put, h.size, h.e0, h.e1, h.e2]) (by simp [ev_put, Act.size_put, h.size, h.e0, h.e1, h.e2]) (run_cut (l := i) (h := j) (m := n) hC hT (.inr ⟨_, rfl⟩) (.inr ⟨_, rfl⟩) (.inr ⟨_, rfl⟩) (by omega) (by omega) (by omega) (by omega) _)) (ops_nil ?_)
  -- region 2
  refine wp_seq (wp_seq (wp_region ?_))
  refine ops_value (v := (.int .i64 i)) rfl rfl (mv_eq (.inl rfl) (by simp [ev_put, Act.size_put, h.size, h.e0, h.e1, h.e2])) ?_
  refine ops_value (v := (.int .i64 j)) rfl rfl (mv_eq (.inl rfl) (by simp [ev_put, Act.size_put, h.size, h.e0, h.e1, h.e2])) ?_
  refine ops_value (v := .bool false) rfl rfl (run_eqlOp (i := i) (j := j) rfl (by simp [ev_put, Act.size_put, h.size, h.e0, h.e1, h.e2]) (by simp [ev_put, Act.size_put, h.size, h.e0, h.e1, h.e2]) (by omega) _) (ops_nil ?_)
  refine wp_cond (t := false) (by simp [ev_put, Act.size_put, h.size, h.e0, h.e1, h.e2]) (wp_skip ?_)
  -- region 4
  refine wp_seq (wp_region ?_)
  refine ops_value (v := (.slice (some ⟨b, off, none⟩) n cap)) rfl rfl (mv_eq (.inl rfl) (by simp [ev_put, Act.size_put, h.size, h.e0, h.e1, h.e2])) ?_
  refine ops_value rfl rfl (run_len (ao := some ⟨b, off, none⟩) (n := n) (cap := cap) hC hT rfl (by simp [ev_put, Act.size_put, h.size, h.e0, h.e1, h.e2]) _) ?_
  refine ops_value (v := (.int .i64 n)) rfl rfl (mv_eq (.inr rfl) (by simp [ev_put, Act.size_put, h.size, h.e0, h.e1, h.e2])) (ops_nil ?_)
  -- region 5
  refine wp_seq (wp_region_any hC.mixed ?_)
  refine AnyAt (i := 0) (v := (.slice (some ⟨b, off, none⟩) n cap)) rfl rfl (by kernel_rfl) (by kernel_rfl) (by kernel_rfl) (fun _ _ _ h => h) (fun w => mv_eq (.inl rfl) (by simp [ev_put, Act.size_put, h.size, h.e0, h.e1, h.e2])) ?_
  refine AnyAt (i := 1) (v := (.int .i64 i)) rfl rfl (by kernel_rfl) (by kernel_rfl) (by kernel_rfl) (fun _ _ _ h => h) (fun w => mv_eq (.inl rfl) (by simp [ev_put, Act.size_put, h.size, h.e0, h.e1, h.e2])) ?_
  refine AnyAt (i := 2) (v := (.slice (some ⟨b, off, none⟩) i cap)) rfl rfl (by kernel_rfl) (by kernel_rfl) (by kernel_rfl) (fun _ _ _ h => h) (fun w => run_sliceOp (V := (.slice (some ⟨b, off, none⟩) n cap)) (l := none) (h := some (.int .i64 i)) (m := none) rfl (by simp [ev_put, Act.size_put, h.size, h.e0, h.e1, h.e2]) rfl (by simp [ev_put, Act.size_put, h.size, h.e0, h.e1, h.e2]) rfl (cutA w)) ?_
  refine AnyAt (i := 3) (v := (.slice (some ⟨b, off, none⟩) n cap)) rfl rfl (by kernel_rfl) (by kernel_rfl) (by kernel_rfl) (fun _ _ _ h => h) (fun w => mv_eq (.inl rfl) (by simp [ev_put, Act.size_put, h.size, h.e0, h.e1, h.e2])) ?_
  refine AnyAt (i := 4) (v := (.int .i64 j)) rfl rfl (by kernel_rfl) (by kernel_rfl) (by kernel_rfl) (fun _ _ _ h => h) (fun w => mv_eq (.inl rfl) (by simp [ev_put, Act.size_put, h.size, h.e0, h.e1, h.e2])) ?_
  refine AnyAt (i := 5) (v := W2) rfl rfl (by kernel_rfl) (by kernel_rfl) (by kernel_rfl) (fun _ _ _ h => h) (fun w => run_sliceOp (V := (.slice (some ⟨b, off, none⟩) n cap)) (l := some (.int .i64 j)) (h := none) (m := none) rfl (by simp [ev_put, Act.size_put, h.size, h.e0, h.e1, h.e2]) (by simp [ev_put, Act.size_put, h.size, h.e0, h.e1, h.e2]) rfl rfl (cutB w)) ?_
  obtain ⟨⟨b2, o2, f2⟩, hW, o', hao, ho', ho2⟩ := hW2
  injection hao with e1 e2 e3
  subst e1; subst e2; subst e3
  subst hW
  have hlt : off + i * 4 + (n - j) * 4 ≤ row.size := by
    have : (i + (n - j)) * 4 ≤ cap * 4 := Nat.mul_le_mul_right _ (by omega)
    omega
  have hsrc : o2 + (n - j) * 4 ≤ row.size := by
    rcases ho' with h0 | h0
    · rw [h0]; omega
    · have : (j + (n - j)) * 4 ≤ cap * 4 := Nat.mul_le_mul_right _ (by omega)
      omega
  have hap := (run_append_gen (P := Try.prog) (w := { w with drawn := w.drawn + 1 }) (ty := 38) hC hT hT (ao := some ⟨b2, off, none⟩) (sLen := i) (sCap := cap) (olds := seg row.toList off (i * 4)) (ax := some ⟨b2, o2, none⟩) (n := n - j) (cx := cap - j) (news := seg row.toList o2 ((n - j) * 4))
    (fun w' hw' => firstCells_row (by rw [hw']; exact hrow) (show off + i * 4 ≤ row.size by omega)) (fun w' hw' => firstCells_row (by rw [hw']; exact hrow) (show o2 + (n - j) * 4 ≤ row.size from hsrc)) (by rw [maxNew_eq]; omega)).1 (by omega)
  have hnl : (seg row.toList o2 ((n - j) * 4)).length = (n - j) * 4 := seg_len _ _ _ (by simpa using hsrc)
  have hn1 : ∀ v ∈ seg row.toList o2 ((n - j) * 4), v.oneCell' = true := by
    rcases ho' with h0 | h0
    · rw [h0]; intro v hv; simp [seg] at hv
    · subst h0
      have : seg row.toList (off + j * 4) ((n - j) * 4) = seg (seg row.toList off (n * 4)) (j * 4) ((n - j) * 4) := (seg_seg' (by omega)).symm
      rw [this]
      intro v hv
      exact hone v (List.mem_of_mem_drop (List.mem_of_mem_take hv))
  obtain ⟨w1, k1, k2, k3, k4, k5, k6, k7⟩ := run_cells (P := Try.prog) (w := { w with drawn := w.drawn + 1 }) (b := b2) (off := off + i * 4) (row := row) (T0 := T0) hrow (cs := seg row.toList o2 ((n - j) * 4)) (by rw [hnl]; exact hlt) hn1
  have hap2 : (Builtin.append_ #[38, 38] 38 #[.slice (some ⟨b2, off, none⟩) i cap, .slice (some ⟨b2, o2, none⟩) (n - j) (cap - j)]).run Try.prog { w with drawn := w.drawn + 1 } = .ok (.slice (some ⟨b2, off, none⟩) (i + (n - j)) cap) w1 := by
    rw [hap]
    unfold appFit
    simp only [add_mk]
    show ((storeCells ⟨b2, off + i * 4, none⟩ (seg row.toList o2 ((n - j) * 4))).run Try.prog { w with drawn := w.drawn + 1 }).andThen (fun _ w' => Result.ok (Value.slice (some ⟨b2, off, none⟩) (i + (n - j)) cap) w') = _
    rw [k1]; rfl
  refine AnyOne (i := 6) rfl rfl (by kernel_rfl) (run_appendOp rfl (by simp [ev_put, Act.size_put, h.size, h.e0, h.e1, h.e2]) (by simp [ev_put, Act.size_put, h.size, h.e0, h.e1, h.e2]) hap2) ?_
  refine AnyOne (i := 7) (v := (.slice (some ⟨b2, off, none⟩) (i + (n - j)) cap)) rfl rfl (by kernel_rfl) (mv_eq (.inr rfl) (by simp [ev_put, Act.size_put, h.size, h.e0, h.e1, h.e2])) ?_
  refine wpAny_done (by kernel_rfl) ?_ _
  -- region 6
  generalize hr1 : (row.toList.take (off + i * 4) ++ seg row.toList o2 ((n - j) * 4) ++ row.toList.drop (off + i * 4 + (seg row.toList o2 ((n - j) * 4)).length)).toArray = row1 at k2
  have hl1 : row1.size = row.size := by
    rw [← hr1]
    simp only [List.size_toArray, List.length_append, List.length_take, List.length_drop, Array.length_toList, hnl]
    omega
  have cutC : ∀ w, (Instr.sliceAt 38 (.slice (some ⟨b2, off, none⟩) (i + (n - j)) cap) (some (.int .i64 ((i + (n - j) : Nat) : Int))) (some (.int .i64 n)) none).run Try.prog w = .ok (.slice (some ⟨b2, off + (i + (n - j)) * 4, none⟩) (n - (i + (n - j))) (cap - (i + (n - j)))) w := by
    intro w
    have := run_cut (P := Try.prog) (ao := some ⟨b2, off, none⟩) (n := i + (n - j)) (cap := cap) (lo := some (.int .i64 ((i + (n - j) : Nat) : Int))) (hi := some (.int .i64 n)) (mx := none) (l := ((i + (n - j) : Nat) : Int)) (h := n) (m := cap) hC hT (.inr ⟨_, rfl⟩) (.inr ⟨_, rfl⟩) (.inl ⟨rfl, rfl⟩) (by omega) (by omega) (by omega) (by omega) w
    rw [this]
    have : ((cap : Nat) : Int).toNat ≠ ((i + (n - j) : Nat) : Int).toNat := by omega
    rw [if_neg this]
    simp only [Int.toNat_natCast, Option.map_some, add_mk]
    rfl
  refine wp_seq (wp_region ?_)
  refine ops_value (v := (.slice (some ⟨b2, off, none⟩) (i + (n - j)) cap)) rfl rfl (mv_eq (.inl rfl) (by simp [ev_put, Act.size_put, h.size, h.e0, h.e1, h.e2])) ?_
  refine ops_value (v := (.slice (some ⟨b2, off, none⟩) (i + (n - j)) cap)) rfl rfl (mv_eq (.inl rfl) (by simp [ev_put, Act.size_put, h.size, h.e0, h.e1, h.e2])) ?_
  refine ops_value rfl rfl (run_len (ao := some ⟨b2, off, none⟩) (n := i + (n - j)) (cap := cap) hC hT rfl (by simp [ev_put, Act.size_put, h.size, h.e0, h.e1, h.e2]) _) ?_
  refine ops_value (v := (.int .i64 n)) rfl rfl (mv_eq (.inl rfl) (by simp [ev_put, Act.size_put, h.size, h.e0, h.e1, h.e2])) ?_
  refine ops_value rfl rfl (run_sliceOp (V := (.slice (some ⟨b2, off, none⟩) (i + (n - j)) cap)) (l := some (.int .i64 ((i + (n - j) : Nat) : Int))) (h := some (.int .i64 n)) (m := none) rfl (by simp [ev_put, Act.size_put, h.size, h.e0, h.e1, h.e2]) (by simp [ev_put, Act.size_put, h.size, h.e0, h.e1, h.e2]) (by simp [ev_put, Act.size_put, h.size, h.e0, h.e1, h.e2]) rfl (cutC _)) ?_
  obtain ⟨w2, zs, m1, m2, m3, m4, m5, m6, m7, m8⟩ := run_clear (P := Try.prog) (w := w1) (ty := 0) hC hT (b := b2) (off := off + (i + (n - j)) * 4) (n := n - (i + (n - j))) (cap := cap - (i + (n - j))) (row := row1) (T0 := T0) k2 (by
    rw [hl1]
    show off + (i + (n - j)) * 4 + (n - (i + (n - j))) * 4 ≤ row.size
    have : n * 4 ≤ cap * 4 := Nat.mul_le_mul_right _ h3
    omega) (by omega)
  refine ops_value rfl rfl (run_clearOp rfl (by simp [ev_put, Act.size_put, h.size, h.e0, h.e1, h.e2]) m1) (ops_nil ?_)
  -- region 7
  refine wp_seq (wp_region ?_)
  refine ops_value (v := (.slice (some ⟨b2, off, none⟩) (i + (n - j)) cap)) rfl rfl (mv_eq (.inl rfl) (by simp [ev_put, ev_none, Act.size_put, h.size, h.e0, h.e1, h.e2])) ?_
  refine ops_value (v := (.slice (some ⟨b2, off, none⟩) (i + (n - j)) cap)) rfl rfl (mv_eq (.inr rfl) (by simp [ev_put, ev_none, Act.size_put, h.size, h.e0, h.e1, h.e2])) (ops_nil ?_)
  refine ret_one (t := 6) (v := (.slice (some ⟨b2, off, none⟩) (i + (n - j)) cap)) (by kernel_rfl) (by simp [Act.defers_put, h.dfs]) (by simp [ev_put, ev_none, Act.size_put, h.size, h.e0, h.e1, h.e2]) ?_
  · have hlen : off + (i + (n - j)) * 4 ≤ row.size := by
      have : (i + (n - j)) * 4 ≤ cap * 4 := Nat.mul_le_mul_right _ (by omega)
      omega
    have hzl : off + (i + (n - j)) * 4 + zs.length ≤ row.size := by
      rw [m3]
      show off + (i + (n - j)) * 4 + (n - (i + (n - j))) * 4 ≤ row.size
      have : n * 4 ≤ cap * 4 := Nat.mul_le_mul_right _ h3
      omega
    refine hR w2 _ (m6.trans k5) (m7.trans k6) (m8.trans k7) (m5.trans k4) (fun k hk => (m4 k hk).trans (k3 k hk)) m2 ?_ ?_
    · simp only [List.size_toArray, List.length_append, List.length_take, List.length_drop, Array.length_toList, hl1]
      omega
    · intro k hk
      have ek : off + k * 4 + 4 ≤ off + (i + (n - j)) * 4 := by
        have : (k + 1) * 4 ≤ (i + (n - j)) * 4 := Nat.mul_le_mul_right _ hk
        omega
      show seg (row1.toList.take (off + (i + (n - j)) * 4) ++ zs ++ _) (off + k * 4) 4 = _
      rw [seg_mid (k := off + (i + (n - j)) * 4) (by rw [List.length_take, Array.length_toList, hl1]; omega) ek, seg_take ek, ← hr1]
      show seg (row.toList.take (off + i * 4) ++ seg row.toList o2 ((n - j) * 4) ++ _) (off + k * 4) 4 = _
      by_cases hki : k < i
      · have ek2 : off + k * 4 + 4 ≤ off + i * 4 := by
          have : (k + 1) * 4 ≤ i * 4 := Nat.mul_le_mul_right _ hki
          omega
        rw [seg_mid (k := off + i * 4) (by rw [List.length_take, Array.length_toList]; omega) ek2, seg_take ek2, if_pos hki]
      · have ek3 : i * 4 ≤ k * 4 := Nat.mul_le_mul_right _ (by omega)
        rw [seg_in (k := off + i * 4) (by rw [List.length_take, Array.length_toList]; omega) (by omega) (by rw [hnl]; omega), seg_seg' (by omega), if_neg hki]
        have : o2 = off + j * 4 := by
          rcases ho' with h0 | h0
          · omega
          · exact h0
        rw [this]
        congr 1
        have : (k - i + j) * 4 = k * 4 - i * 4 + j * 4 := by rw [Nat.add_mul, Nat.sub_mul]
        omega

theorem ok56 : IOk Try.prog 56 S56 := by
  refine ⟨Try.call56, ?_⟩
  intro w F S0 v x vs y hF hS0 hv ha hp
  obtain ⟨i, j, u⟩ := y
  change Int at i
  change Int at j
  change List tW.den at x
  obtain ⟨cs, rfl, hown⟩ := hv
  obtain ⟨ao, cap, rfl, hcap, hlim, hm⟩ := hown
  obtain ⟨v1, r1, rfl, h1, v2, r2, rfl, h2, h3⟩ := ha
  have h3 : r2 = [] := h3
  subst h3
  obtain ⟨c1, rfl, h1⟩ := h1
  obtain ⟨rfl, g1, g1'⟩ : c1 = [.int .i64 i] ∧ IntKind.i64.min ≤ i ∧ i ≤ IntKind.i64.max := h1
  obtain ⟨c2, rfl, h2⟩ := h2
  obtain ⟨rfl, g2, g2'⟩ : c2 = [.int .i64 j] ∧ IntKind.i64.min ≤ j ∧ j ≤ IntKind.i64.max := h2
  obtain ⟨p1, p2, p3, p4⟩ : 0 ≤ i ∧ i < j ∧ j ≤ (List.length x : Int) ∧ List.length x ≤ 1000000 := hp
  obtain ⟨i', rfl⟩ : ∃ i' : Nat, i = (i' : Int) := ⟨i.toNat, by omega⟩
  obtain ⟨j', rfl⟩ : ∃ j' : Nat, j = (j' : Int) := ⟨j.toNat, by omega⟩
  have q1 : i' < j' := by omega
  have q2 : j' ≤ List.length x := by omega
  rcases hm with ⟨_, h⟩ | ⟨b, off, row, T0, Si, rfl, hb, hrow, hsz, s, nb, dd, he⟩
  · omega
  have hsz : off + cap * 4 ≤ row.size := hsz
  have hbF : ¬ F b := (hS0 b hb).2
  have hbw : b < w.heap.size := (hS0 b hb).1
  have ei : ∀ z, slotv tI [z] = z := fun _ => rfl
  have es : ∀ z, slotv S56.τ [z] = z := fun _ => rfl
  simp only [ei, es]
  have hD : DelAt { tmps := [Value.slice (some ⟨b, off, none⟩) (List.length x) cap, .int .i64 i', .int .i64 j'].toArray ++ Array.replicate (Try.f56.ntmps - [Value.slice (some ⟨b, off, none⟩) (List.length x) cap, .int .i64 i', .int .i64 j'].toArray.size) undef, defers := [] }
      (.slice (some ⟨b, off, none⟩) (List.length x) cap) i' j' := by
    refine ⟨?_, rfl, start_ev rfl, start_ev rfl, start_ev rfl⟩
    have : Try.f56.ntmps = 33 := by kernel_rfl
    rw [this]; simp
  obtain ⟨c, hc⟩ : ∃ c, Try.f56.body = some c := ⟨_, rfl⟩
  refine calls_of_wp Try.func56 hc (del_code hD hc q1 q2 hcap p4 hrow hsz ?_ ?_)
  · intro v hv
    obtain ⟨k, hk, rfl⟩ := List.mem_iff_getElem.1 hv
    have hlen : (seg row.toList off (List.length x * 4)).length = List.length x * 4 := seg_len _ _ _ (by
      have : List.length x * 4 ≤ cap * 4 := Nat.mul_le_mul_right _ hcap
      have e : row.toList.length = row.size := Array.length_toList
      omega)
    rw [hlen] at hk
    have hk4 : k / 4 < List.length x := by omega
    have hx := he (k / 4) _ (List.getElem?_eq_getElem hk4)
    refine hx.one _ ?_
    have hs4 : tW.size = 4 := rfl
    rw [hs4]
    simp only [seg, List.getElem_take, List.getElem_drop]
    refine List.mem_iff_getElem.2 ⟨k % 4, ?_, ?_⟩
    · rw [List.length_take, List.length_drop, Array.length_toList]
      have : List.length x * 4 ≤ cap * 4 := Nat.mul_le_mul_right _ hcap
      omega
    · simp only [List.getElem_take, List.getElem_drop]
      congr 1
      omega
  · intro w' row' w1 w2 w3 w4 w5 w6 w7 w8
    refine ⟨_, F, fun k => k = b, rfl, w1, w2, w3, by omega, fun k hk hn => w5 k (fun e => hn (e ▸ hb)), fun _ h => h, fun k h1 h2 => absurd h1 h2, ?_, ?_, ?_⟩
    · rintro k (h | rfl)
      · have := hF k h; omega
      · omega
    · rintro k rfl
      exact ⟨.inr hb, hbF⟩
    · have hol : (List.take i' x ++ List.drop j' x).length = i' + (List.length x - j') := by
        rw [List.length_append, List.length_take, List.length_drop]; omega
      refine ⟨[.slice (some ⟨b, off, none⟩) (i' + (List.length x - j')) cap], rfl, ?_⟩
      show Own F w' (.slice tW) (.own .shr) (fun k => k = b) [.slice (some ⟨b, off, none⟩) (i' + (List.length x - j')) cap] (List.take i' x ++ List.drop j' x)
      refine ⟨some ⟨b, off, none⟩, cap, by rw [hol], by rw [hol]; omega, by rw [hol]; have := hlim; omega, .inr ⟨b, off, row', T0, fun _ => none', rfl, rfl, w6, by rw [w7]; exact hsz, fun _ _ h => h.elim, fun _ h => h, fun _ _ _ _ h => h.elim, ?_⟩⟩
      intro k z hk
      have hkl : k < i' + (List.length x - j') := by rw [← hol]; exact (List.getElem?_eq_some_iff.1 hk).1
      have hz : x[if k < i' then k else k - i' + j']? = some z := by
        by_cases h : k < i'
        · rw [if_pos h]
          rw [List.getElem?_append_left (by rw [List.length_take]; omega), List.getElem?_take_of_lt h] at hk
          exact hk
        · rw [if_neg h]
          rw [List.getElem?_append_right (by rw [List.length_take]; omega), List.length_take, List.getElem?_drop] at hk
          rw [← hk]
          congr 1
          omega
      have hx := he _ _ hz
      have hs4 : tW.size = 4 := rfl
      rw [hs4] at hx ⊢
      rw [w8 k hkl]
      exact Own.flat rfl hx
end Go.User
namespace Sp
abbrev CM := List Word × Memo × Unit
def mget (m : Memo) (i : Int) : Int := (m.getD 0 []).getD i.toNat 0
def setM (m : Memo) (i : Int) (v : Int) : Memo := m.set 0 ((m.getD 0 []).set i.toNat v)
def fW (i : Int) (c : List Word) : Int := findW (cloW (55, [0, i])) c
/-- A memory of one array; the words of a cache lie in it. -/
def okM (m : Memo) : Prop := m.length = 1 ∧ (m.getD 0 []).length ≤ 1000
def okS (c : List Word) (m : Memo) : Prop := okM m ∧ c.length ≤ 1000 ∧ ∀ w ∈ c, w.1 = 0 ∧ 0 ≤ w.2.1 ∧ w.2.1 < (m.getD 0 []).length
def wback (w : Word) (m : Memo) : Memo := if w.2.2.2.1 = true then setM m w.2.1 w.2.2.1 else m
def evict (c : List Word) (m : Memo) (k : Int) : CM := (c.take k.toNat ++ c.drop (k + 1).toNat, wback (wd c k) m, ())
def load (c : List Word) (m : Memo) (i : Int) : Int × List Word × Unit := if 0 ≤ fW i c then ((wd c (fW i c)).2.2.1, c, ()) else (mget m i, c ++ [(0, i, mget m i, false, ())], ())
def store (c : List Word) (i v : Int) : List Word := if 0 ≤ fW i c then c.set (fW i c).toNat (0, i, v, true, ()) else c ++ [(0, i, v, true, ())]
def atom0 (c : List Word) (m : Memo) (i : Int) : CM := if 0 ≤ fW i c then evict c m (fW i c) else (c, m, ())
def atom (c : List Word) (m : Memo) (i v : Int) : CM := ((atom0 c m i).1, setM (atom0 c m i).2.1 i (Go.IntKind.wrap .i32 (mget (atom0 c m i).2.1 i + v)), ())
def evictAt (c : List Word) (m : Memo) (k : Int) : CM := if c.length = 0 then (c, m, ()) else evict c m ((k.tmod c.length + c.length).tmod c.length)
def fl : List Word → Memo → Memo
  | [], m => m
  | w :: c, m => fl c (wback w m)
def step (s : World) (n kind i v : Int) : World × Int × Unit :=
  if kind = 0 then ((s.1.set n.toNat (load (s.1.getD n.toNat []) s.2.1 i).2.1, s.2.1, ()), (load (s.1.getD n.toNat []) s.2.1 i).1, ())
  else if kind = 1 then ((s.1.set n.toNat (store (s.1.getD n.toNat []) i v), s.2.1, ()), 0, ())
  else if kind = 2 then ((s.1.set n.toNat (atom (s.1.getD n.toNat []) s.2.1 i v).1, (atom (s.1.getD n.toNat []) s.2.1 i v).2.1, ()), 0, ())
  else if kind = 3 then ((s.1.set n.toNat (evictAt (s.1.getD n.toNat []) s.2.1 i).1, (evictAt (s.1.getD n.toNat []) s.2.1 i).2.1, ()), 0, ())
  else ((s.1.set n.toNat [], fl (s.1.getD n.toNat []) s.2.1, ()), 0, ())
def okW (s : World) : Prop := okM s.2.1 ∧ s.1.length = 3 ∧ ∀ c ∈ s.1, okS c s.2.1
end Sp
namespace Go.User
open Go.Lf
def mkD (n : Nat) (fns : List (FuncId × FSpec)) : Ctx := { N := n, tys := tysQ 0, fns := fns, eqs := eqs, clo := some tClo, ins := [(56, S56)] }
def S45 : FSpec := { args := [.val tMem, .val tI, .val tI, .val (.int .i32)], multi := false, res := tMem, mode := .shr, pre := fun x => Sp.okM x.1 ∧ x.2.1 = 0 ∧ 0 ≤ x.2.2.1 ∧ x.2.2.1 < ((x.1.getD 0 []).length : Int), fn := fun x => Sp.setM x.1 x.2.2.1 x.2.2.2.1 }
def C45 : Ctx := mkD 27 [(60, S60), (61, S61)]
def L45 (x : kdens S45.args) : List LoopI := []
def S43 : FSpec := { args := [.val (.slice tW), .val tMem, .val tI], multi := true, res := .prod (.slice tW) (.prod tMem .unit), mode := .shr, pre := fun x => Sp.okS x.1 x.2.1 ∧ 0 ≤ x.2.2.1 ∧ x.2.2.1 < (List.length x.1 : Int), fn := fun x => Sp.evict x.1 x.2.1 x.2.2.1 }
def C43 : Ctx := { mkD 30 [(45, S45), (42, S42)] with frz := [28] }
def L43 (x : kdens S43.args) : List LoopI := []
def S19 : FSpec := { args := [.val (.slice tW), .val tMem, .val tI, .val tI], multi := true, res := .prod (.int .i32) (.prod (.slice tW) .unit), mode := .shr, pre := fun x => Sp.okS x.1 x.2.1 ∧ x.2.2.1 = 0 ∧ 0 ≤ x.2.2.2.1 ∧ x.2.2.2.1 < ((x.2.1.getD 0 []).length : Int), fn := fun x => Sp.load x.1 x.2.1 x.2.2.2.1 }
def C19 : Ctx := { mkD 48 [(41, S41), (40, S40), (42, S42)] with frz := [47] }
def L19 (x : kdens S19.args) : List LoopI := []
def S20 : FSpec := { args := [.val (.slice tW), .val tI, .val tI, .val (.int .i32)], multi := false, res := .slice tW, mode := .shr, pre := fun x => List.length x.1 ≤ 1000 ∧ x.2.1 = 0, fn := fun x => Sp.store x.1 x.2.2.1 x.2.2.2.1 }
def C20 : Ctx := mkD 36 [(41, S41), (40, S40), (42, S42)]
def L20 (x : kdens S20.args) : List LoopI := []
end Go.User
namespace Sp
theorem okM_one {m : Memo} (h : okM m) : ∃ l, m = [l] ∧ l.length ≤ 1000 := by
  obtain ⟨h1, h2⟩ := h
  obtain ⟨l, rfl⟩ := List.length_eq_one_iff.1 h1
  exact ⟨l, rfl, h2⟩
theorem setM_one (l : List Int) (i v : Int) : setM [l] i v = [l.set i.toNat v] := rfl
theorem okM_set {m : Memo} (h : okM m) (i v : Int) : okM (setM m i v) ∧ ((setM m i v).getD 0 []).length = (m.getD 0 []).length := by
  obtain ⟨l, rfl, hl⟩ := okM_one h
  rw [setM_one]
  have : (l.set i.toNat v).length = l.length := List.length_set
  exact ⟨⟨rfl, by show (l.set i.toNat v).length ≤ 1000; omega⟩, this⟩
theorem okM_wback {m : Memo} (h : okM m) (w : Word) : okM (wback w m) ∧ ((wback w m).getD 0 []).length = (m.getD 0 []).length := by
  unfold wback
  split
  · exact okM_set h _ _
  · exact ⟨h, rfl⟩
theorem okS_wd {c : List Word} {m : Memo} (h : okS c m) {k : Int} (h0 : 0 ≤ k) (h1 : k < c.length) : (wd c k).1 = 0 ∧ 0 ≤ (wd c k).2.1 ∧ (wd c k).2.1 < (m.getD 0 []).length := by
  refine h.2.2 _ ?_
  unfold wd
  rw [getD_at (by omega)]
  exact List.getElem_mem _
theorem okS_del {c : List Word} {m : Memo} (h : okS c m) (k : Int) : okS (c.take k.toNat ++ c.drop (k + 1).toNat) m := by
  refine ⟨h.1, ?_, ?_⟩
  · rw [List.length_append, List.length_take, List.length_drop]
    have := h.2.1
    omega
  · intro w hw
    rcases List.mem_append.1 hw with hw | hw
    · exact h.2.2 w (List.mem_of_mem_take hw)
    · exact h.2.2 w (List.mem_of_mem_drop hw)
theorem okS_mem {c : List Word} {m m' : Memo} (h : okS c m) (h1 : okM m') (h2 : (m'.getD 0 []).length = (m.getD 0 []).length) : okS c m' :=
  ⟨h1, h.2.1, fun w hw => by rw [h2]; exact h.2.2 w hw⟩
theorem fW_cases (i : Int) (c : List Word) : (fW i c = -1 ∧ ∀ w ∈ c, atW 0 i w = false) ∨ ∃ k : Nat, fW i c = k ∧ k < c.length ∧ (∀ w ∈ c.take k, atW 0 i w = false) ∧ atW 0 i (wd c k) = true := findW_cases _ c
theorem fW_lt (i : Int) (c : List Word) : fW i c < c.length := by
  rcases fW_cases i c with ⟨h, _⟩ | ⟨k, h, hk, _⟩ <;> omega
theorem okS_nil {m : Memo} (h : okM m) : okS [] m := ⟨h, Nat.zero_le _, fun _ h => by cases h⟩
theorem mod_in (a : Int) (n : Nat) (h : 0 < n) (ha : -9223372036854775808 ≤ a ∧ a ≤ 9223372036854775807) (hn : n ≤ 1000) : 0 ≤ (a.tmod n + n).tmod n ∧ (a.tmod n + n).tmod n < n ∧ -9223372036854775808 ≤ a.tmod n + n ∧ a.tmod n + n ≤ 9223372036854775807 := by
  have h1 : a.tmod n < n := Int.tmod_lt_of_pos a (by omega)
  have h2 : -(n : Int) < a.tmod n := by
    have := Int.tmod_lt_of_pos (-a) (b := (n : Int)) (by omega)
    rw [Int.neg_tmod] at this; omega
  have h3 : 0 ≤ a.tmod n + n := by omega
  refine ⟨Int.tmod_nonneg _ h3, Int.tmod_lt_of_pos _ (by omega), by omega, by omega⟩
end Sp
namespace Sp
def ev0 : LEv := (0, (0, 0, 0, ()), 0, ())
def ev (e : List LEv) (n : Int) : LEv := e.getD n.toNat ev0
def setR (E : List LEv) (e r : Int) : List LEv := E.set e.toNat ((ev E e).1, (ev E e).2.1, r, ())
def readE (E : List LEv) (e f : Int) : List LEv :=
  if f < 0 then E else if (ev E f).2.1.1 = 3 then setR (setR E e (ev E f).2.1.2.2.1) e (Go.IntKind.wrap .i64 ((ev (setR E e (ev E f).2.1.2.2.1) e).2.2.1 + (ev E f).2.2.1)) else setR E e (ev E f).2.1.2.2.1
def readG (g : Gr) (e word : Int) : Gr := (readE g.1 e (word - 1), g.2.1.set e.toNat (word - 1), g.2.2.1, g.2.2.2.1, ())
def readM (s : Mach) (e word : Int) : Mach := (s.1, s.2.1, s.2.2.1, readG s.2.2.2.1 e word, ())
def co0 : Core := (0, 0, [], [[], [], []], ())
def co (l : List Core) (n : Int) : Core := l.getD n.toNat co0
def eC (c : Core) (m : Memo) (k : Int) : Core :=
  (c.1, c.2.1, (evict c.2.2.1 m k).1, (if (wd c.2.2.1 k).2.2.2.1 = true then c.2.2.2.1.set (wd c.2.2.1 k).2.1.toNat [] else c.2.2.2.1), ())
def eMo (Mo : List (List Int)) (c : Core) (k : Int) : List (List Int) :=
  if (wd c.2.2.1 k).2.2.2.1 = true then Mo.set (wd c.2.2.1 k).2.1.toNat (Mo.getD (wd c.2.2.1 k).2.1.toNat [] ++ c.2.2.2.1.getD (wd c.2.2.1 k).2.1.toNat []) else Mo
def evictM (s : Mach) (n k : Int) : Mach :=
  (s.1, s.2.1.set n.toNat (eC (co s.2.1 n) s.2.2.1 k), wback (wd (co s.2.1 n).2.2.1 k) s.2.2.1,
    (s.2.2.2.1.1, s.2.2.2.1.2.1, eMo s.2.2.2.1.2.2.1 (co s.2.1 n) k, s.2.2.2.1.2.2.2.1, ()), ())
def flushN : Nat → Mach → Int → Mach
  | 0, s, _ => s
  | k + 1, s, n => flushN k (evictM s n 0) n
def flushM (s : Mach) (n : Int) : Mach := flushN (co s.2.1 n).2.2.1.length s n
def op0 : LOp := (0, 0, 0, ())
def opAt (s : Mach) (n : Int) : LOp := (s.1.1.getD n.toNat []).getD (co s.2.1 n).2.1.toNat op0
def incD (s : Mach) (n : Int) : Mach := (s.1, s.2.1.set n.toNat ((co s.2.1 n).1, (co s.2.1 n).2.1 + 1, (co s.2.1 n).2.2), s.2.2)
def setCache (s : Mach) (n : Int) (c : List Word) : Mach := (s.1, s.2.1.set n.toNat ((co s.2.1 n).1, (co s.2.1 n).2.1, c, (co s.2.1 n).2.2.2), s.2.2)
def doLoad (s : Mach) (n e x : Int) : Mach := readM (setCache s n (load (co s.2.1 n).2.2.1 s.2.2.1 x).2.1) e (load (co s.2.1 n).2.2.1 s.2.2.1 x).1
def addPend (s : Mach) (n e x : Int) : Mach :=
  (s.1, s.2.1.set n.toNat ((co s.2.1 n).1, (co s.2.1 n).2.1, (co s.2.1 n).2.2.1, (co s.2.1 n).2.2.2.1.set x.toNat ((co s.2.1 n).2.2.2.1.getD x.toNat [] ++ [e]), ()), s.2.2)
def doStore (s : Mach) (n e x : Int) : Mach := addPend (setCache s n (store (co s.2.1 n).2.2.1 x (Go.IntKind.wrap .i32 (e + 1)))) n e x
def evX (s : Mach) (n x : Int) : Mach := if 0 ≤ fW x (co s.2.1 n).2.2.1 then evictM s n (fW x (co s.2.1 n).2.2.1) else s
def putM (s : Mach) (e x : Int) : Mach := (s.1, s.2.1, setM s.2.2.1 x (Go.IntKind.wrap .i32 (e + 1)), (s.2.2.2.1.1, s.2.2.2.1.2.1, s.2.2.2.1.2.2.1.set x.toNat (s.2.2.2.1.2.2.1.getD x.toNat [] ++ [e]), s.2.2.2.1.2.2.2), s.2.2.2.2)
def doAdd (s : Mach) (n e x : Int) : Mach := putM (readM (evX s n x) e (mget (evX s n x).2.2.1 x)) e x
def addFo (s : Mach) (e : Int) : Mach := (s.1, s.2.1, s.2.2.1, (s.2.2.2.1.1, s.2.2.2.1.2.1, s.2.2.2.1.2.2.1, s.2.2.2.1.2.2.2.1 ++ [e], ()), ())
def doFence (s : Mach) (n e : Int) : Mach := addFo (flushM s n) e
def doM (s : Mach) (n : Int) : Mach :=
  if (opAt s n).1 = 1 then doLoad (incD s n) n ((co s.2.1 n).1 + (co s.2.1 n).2.1) (opAt s n).2.1
  else if (opAt s n).1 = 2 then doStore (incD s n) n ((co s.2.1 n).1 + (co s.2.1 n).2.1) (opAt s n).2.1
  else if (opAt s n).1 = 3 then doAdd (incD s n) n ((co s.2.1 n).1 + (co s.2.1 n).2.1) (opAt s n).2.1
  else if (opAt s n).1 = 4 then doFence (incD s n) n ((co s.2.1 n).1 + (co s.2.1 n).2.1)
  else incD s n
/-- The machine is well formed. -/
def opOK (o : LOp) : Prop := 0 ≤ o.2.1 ∧ o.2.1 < 3
def okCore (n : Nat) (m : Memo) (l : List LOp) (c : Core) : Prop :=
  0 ≤ c.1 ∧ 0 ≤ c.2.1 ∧ c.2.1 ≤ l.length ∧ c.1 + l.length ≤ n ∧ okS c.2.2.1 m ∧ (c.2.2.1.map fun w => w.2.1).Nodup ∧ (∀ w ∈ c.2.2.1, 0 ≤ w.2.2.1 ∧ w.2.2.1 ≤ n) ∧ c.2.2.2.1.length = 3
def dn (cs : List Core) : Nat := (cs.map fun c => c.2.1.toNat).sum
def pn (x : Nat) (cs : List Core) : Nat := (cs.map fun c => (c.2.2.2.1.getD x []).length).sum
structure OkM (s : Mach) : Prop where
  mem : ∃ l, s.2.2.1 = [l] ∧ l.length = 3 ∧ ∀ v ∈ l, 0 ≤ v ∧ v ≤ s.2.2.2.1.1.length
  len : s.2.1.length = s.1.1.length
  core : ∀ i, i < s.2.1.length → okCore s.2.2.2.1.1.length s.2.2.1 (s.1.1.getD i []) (s.2.1.getD i co0)
  ops : ∀ l ∈ s.1.1, ∀ o ∈ l, opOK o
  ev : s.2.2.2.1.1.length ≤ 1000
  from_ : s.2.2.2.1.2.1.length = s.2.2.2.1.1.length
  mo : s.2.2.2.1.2.2.1.length = 3
  few : s.2.1.length ≤ 1000
  moB : ∀ x, x < 3 → (s.2.2.2.1.2.2.1.getD x []).length + pn x s.2.1 ≤ dn s.2.1
  foB : s.2.2.2.1.2.2.2.1.length ≤ dn s.2.1
def inC (s : Mach) (n : Int) : Prop := 0 ≤ n ∧ n < s.2.1.length
end Sp
namespace Go.User
open Go.Lf
abbrev mCore : Md := .pair .shr (.pair .shr (.pair .shr (.pair (.own (.own .shr)) .shr)))
abbrev mGr : Md := .pair (.own .shr) (.pair (.own .shr) (.pair (.own (.own .shr)) (.pair (.own .shr) .shr)))
abbrev mMach : Md := .pair .shr (.pair (.own mCore) (.pair .shr (.pair mGr .shr)))
def mkM (n q : Nat) (fns : List (FuncId × FSpec)) (ptrs : List (FuncId × PSpec)) : Ctx := { N := n, tys := tysQ q, fns := fns, eqs := eqs, clo := some tClo, ins := [], pin := some 0, q := q, ptrs := ptrs }
def S62 : PSpec := { τ := tMach, m := mMach, args := [.val tI, .val (.int .i32)], pre := fun s y => 0 ≤ y.1 ∧ y.1 < (List.length s.2.2.2.1.1 : Int) ∧ List.length s.2.2.2.1.2.1 = List.length s.2.2.2.1.1 ∧ 0 ≤ y.2.1 ∧ y.2.1 ≤ (List.length s.2.2.2.1.1 : Int), fn := fun s y => Sp.readM s y.1 y.2.1, out := fun _ _ => () }
def C62 (q : Nat) : Ctx := { mkM 58 q [] [] with wrp := [55] }
def L62 (q : Nat) (x : S62.τ.den) (y : kdens S62.args) : List LoopI := []
def S49 : PSpec := { τ := tMach, m := mMach, args := [.val tI, .val tI], pre := fun s y => Sp.OkM s ∧ Sp.inC s y.1 ∧ 0 ≤ y.2.1 ∧ y.2.1 < (List.length (Sp.co s.2.1 y.1).2.2.1 : Int), fn := fun s y => Sp.evictM s y.1 y.2.1, out := fun _ _ => () }
def C49 (q : Nat) : Ctx := { mkM 73 q [(43, S43)] [] with ded := [11] }
def L49 (q : Nat) (x : S49.τ.den) (y : kdens S49.args) : List LoopI := []
def S26 : PSpec := { τ := tMach, m := mMach, args := [.val tI], pre := fun s y => Sp.OkM s ∧ Sp.inC s y.1, fn := fun s y => Sp.flushM s y.1, out := fun _ _ => () }
def C26 (q : Nat) : Ctx := mkM 17 q [] [(49, S49)]
def L26 (q : Nat) (x : S26.τ.den) (y : kdens S26.args) : List LoopI := [
  { ι := Sp.Mach, inv := fun s => Sp.OkM s ∧ Sp.inC s y.1 ∧ Sp.flushM s y.1 = Sp.flushM x y.1, dec := fun s => List.length (Sp.co s.2.1 y.1).2.2.1, ovr := fun s => [(0, .box tMach mMach s)], keep := [1] }]
def S47 : PSpec := { τ := tMach, m := mMach, args := [.val tI], pre := fun s y => Sp.OkM s ∧ Sp.inC s y.1 ∧ (Sp.co s.2.1 y.1).2.1 < (List.length (s.1.1.getD (Int.toNat y.1) []) : Int), fn := fun s y => Sp.doM s y.1, out := fun _ _ => () }
def C47 (q : Nat) : Ctx := { mkM 183 q [(19, S19), (20, S20), (40, S40), (41, S41), (45, S45)] [(49, S49), (62, S62), (26, S26)] with ded := [13] }
def L47 (q : Nat) (x : S47.τ.den) (y : kdens S47.args) : List LoopI := []
end Go.User
