/- Lengths, conversions, moves, choices: by value. Operations that make memory: by value. New variables, slices, structs: by value. Struct and array literals: by value. append: by value. -/
import Derived.Test.YtmoonjcbljefaaaLfb
import Derived.Great.BuildSlice
set_option linter.unusedVariables false
set_option linter.unusedSimpArgs false
namespace Go.Lf

def lenTE (C : Ctx) (T : TypeId) (v : View) : Res :=
  match v.e, v.val, look C.tys T with
  | .nilS, _, some (.slice _) => some (True, .shr (.int .i64) (0 : Int))
  | _, some ⟨.slice _, xs⟩, some (.slice _) => some (True, .shr (.int .i64) (List.length xs : Int))
  | _, some ⟨.str, s⟩, some .str => some (True, .shr (.int .i64) (List.length s : Int))
  | _, _, _ => none

/-- One of two values, as a bool says. -/
def pickE (vc va vb : View) : Res :=
  match vc.val, va.val, vb.val with
  | some ⟨.bool, x⟩, some ⟨τ, y⟩, some ⟨σ, z⟩ => if h : σ = τ then (bif τ.flat then some (True, .shr τ (bif x then y else h ▸ z)) else none) else none
  | _, _, _ => none

def nilE (v : View) : Res :=
  match v.e with
  | .saddr _ _ => moveE v
  | .raddr _ _ _ => moveE v
  | .addr _ _ => moveE v
  | .box _ _ _ => moveE v
  | .fn _ _ _ => moveE v
  | _ => none

section
variable {P : Program} {C : Ctx} {N : NP} {w0 : World} {F0 H : NSet} {env : St} {a : Act} {w : World} {F : NSet} {S : Nat → NSet} {d : Nat}

theorem RowOK.str {tys : List (TypeId × Ty)} {T : TypeId} (h : RowOK P tys T .str) : P.underlying T = some .string := by
  obtain ⟨i, d, h1, h2, h3, h4, h5, h6⟩ := h
  cases d <;> first | exact h2 | simp [descB] at h6
theorem RowOK.int {tys : List (TypeId × Ty)} {T : TypeId} {k : IntKind} (h : RowOK P tys T (.int k)) : P.underlying T = some (.int k) := by
  obtain ⟨i, d, h1, h2, h3, h4, h5, h6⟩ := h
  cases d <;> simp only [descB, Bool.false_eq_true, decide_eq_true_eq] at h6
  subst h6; exact h2

theorem headD_seg (cs : List Value) (o : Nat) (h : o < cs.length) : (seg cs o 1).headD undef = cs[o] := by
  unfold seg; rw [List.drop_eq_getElem_cons h]; rfl
theorem inN_lt {i : Int} {n : Nat} (h : inN i n) : i.toNat < n := by have := h.1; have := h.2; omega
theorem inK_len {n : Nat} (h : n ≤ lim) : inK .i64 (n : Int) := by rw [inK_i64]; unfold lim at h; omega

theorem lenTE_ok (hC : CtxOK P C) (hi : Inv0 P N w0 F0 H env a w F S) {T : TypeId} {x : Operand} {o : Oper} (ho : o.op = .call { callee := .builtin .len, args := #[x], argTypes := #[T] }) {vx : View}
    (hx : ViewOK P F w env (fun t => a.tmps.getD t undef) S (a.eval x) vx)
    {c : Prop} {e : Ent} (h : lenTE C T vx = some (c, e)) (hc : c) : PureOK P F w env (fun t => a.tmps.getD t undef) S d (execOp a.eval o) e := by
  have hrun : ∀ (v : Value), (Builtin.len_ #[T] o.type #[a.eval x]).run P w = .ok v w → (execOp a.eval o).run P w = .ok (.value v) w := by
    intro v hv
    simp only [execOp, ho, resolve, invoke, builtin, Sem.run_bind, Sem.run_pure, Result.andThen, List.map_toArray, List.map_cons, List.map_nil]
    rw [hv]
  unfold lenTE at h
  split at h
  · rename_i _ _ he hT
    simp only [Option.some.injEq, Prod.mk.injEq] at h
    obtain ⟨rfl, rfl⟩ := h
    obtain ⟨E, t1, t2, t3⟩ := (hC.types T _ hT).slice
    have hsh := hx.ent (by rw [he]; rfl) 0 (by rw [he]; simp [Ent.root])
    rw [he] at hsh
    simp only [EntOK, if_true] at hsh
    rw [hsh] at hrun
    exact .int (hrun _ (by simp [Builtin.len_, run_underlying t1, goInt])) (by rw [inK_i64]; omega)
  · rename_i e' xs e'' hval hT hne
    simp only [Option.some.injEq, Prod.mk.injEq] at h
    obtain ⟨rfl, rfl⟩ := h
    obtain ⟨E, t1, t2, t3⟩ := (hC.types T _ hT).slice
    obtain ⟨ao, cap, e6, q1, q2⟩ := (View.val_ok hi hx hval).slice_eq
    rw [e6] at hrun
    exact .int (hrun _ (by simp [Builtin.len_, run_underlying t1, goInt])) (inK_len q2)
  · rename_i s hval hT
    simp only [Option.some.injEq, Prod.mk.injEq] at h
    obtain ⟨rfl, rfl⟩ := h
    have t1 := (hC.types T _ hT).str
    obtain ⟨e6, q2⟩ := (View.val_ok hi hx hval).str_eq
    rw [e6] at hrun
    have hsz : (⟨s.toArray⟩ : ByteArray).size = s.length := by simp [ByteArray.size]
    exact .int (hrun _ (by simp [Builtin.len_, run_underlying t1, goInt, hsz])) (inK_len q2)
  · cases h

theorem convE_ok (hC : CtxOK P C) (hi : Inv0 P N w0 F0 H env a w F S) {src dst : TypeId} {x : Operand} {o : Oper} (ho : o.op = .convert src dst x) {vx : View}
    (hx : ViewOK P F w env (fun t => a.tmps.getD t undef) S (a.eval x) vx)
    {c : Prop} {e : Ent} (h : convE C src dst vx = some (c, e)) (hc : c) : PureOK P F w env (fun t => a.tmps.getD t undef) S d (execOp a.eval o) e := by
  have hrun : ∀ (v : Value), (convert src dst (a.eval x)).run P w = .ok v w → (execOp a.eval o).run P w = .ok (.value v) w := by
    intro v hv
    simp only [execOp, ho]
    rw [Sem.run_bind, hv]; rfl
  unfold convE at h
  split at h
  · rename_i k1 k k' n hT1 hT2 hval
    have t1 := (hC.types _ _ hT1).int
    have t2 := (hC.types _ _ hT2).int
    obtain ⟨e6, q1, q2⟩ := (View.val_ok hi hx hval).int_eq
    rw [e6] at hrun
    have hr := hrun (.int k (k.wrap n)) (by simp [convert, run_underlying t1, run_underlying t2, Conv.intToInt])
    cases hk : (decide (k.min ≤ k'.min) && decide (k'.max ≤ k.max))
    · simp only [hk, cond_false, Option.some.injEq, Prod.mk.injEq] at h
      obtain ⟨rfl, rfl⟩ := h
      exact .int hr (wrap_inK _ _)
    · simp only [hk, cond_true, Option.some.injEq, Prod.mk.injEq] at h
      obtain ⟨rfl, rfl⟩ := h
      simp only [Bool.and_eq_true, decide_eq_true_eq] at hk
      have hin : inK k n := ⟨by omega, by omega⟩
      rw [inK_wrap hin] at hr
      exact .int hr hin
  · rename_i s hT1 hT2 hval
    simp only [Option.some.injEq, Prod.mk.injEq] at h
    obtain ⟨rfl, rfl⟩ := h
    have t1 := (hC.types _ _ hT1).str
    have t2 := (hC.types _ _ hT2).str
    obtain ⟨e6, q1⟩ := (View.val_ok hi hx hval).str_eq
    rw [e6] at hrun
    exact .str (hrun _ (by simp [convert, run_underlying t1, run_underlying t2])) q1
  · cases h

theorem unE_ok (hi : Inv0 P N w0 F0 H env a w F S) {op : UnOp} {T : TypeId} {x : Operand} {o : Oper} (ho : o.op = .unOp op T x) {vx : View}
    (hx : ViewOK P F w env (fun t => a.tmps.getD t undef) S (a.eval x) vx)
    {c : Prop} {e : Ent} (h : unE C d op vx = some (c, e)) (hc : c) : PureOK P F w env (fun t => a.tmps.getD t undef) S d (execOp a.eval o) e := by
  have hrun : ∀ (v : Value), (Op.unary op (a.eval x)).run P w = .ok v w → (execOp a.eval o).run P w = .ok (.value v) w := by
    intro v hv
    simp only [execOp, ho]
    rw [Sem.run_bind, hv]; rfl
  unfold unE at h
  split at h
  · rename_i b hval
    have e6 := (View.val_ok hi hx hval).bool_eq
    rw [e6] at hrun
    exact boolE_ok h (hrun _ (by simp [Op.unary]))
  · rename_i k n hval
    obtain ⟨e6, q1, q2⟩ := (View.val_ok hi hx hval).int_eq
    rw [e6] at hrun
    exact arithE_ok h hc (hrun _ (by simp [Op.unary, Op.intArith]))
  · cases h

theorem moveE_ok (hi : Inv0 P N w0 F0 H env a w F S) {v : Value} {vx : View} (hx : ViewOK P F w env (fun t => a.tmps.getD t undef) S v vx)
    {c : Prop} {e : Ent} (h : moveE vx = some (c, e)) : e.isOwner = false ∧ (e.root ≠ some d → EntOK P F w env (fun s => if s = d then v else a.tmps.getD s undef) S d e) := by
  obtain ⟨e0, r, s⟩ := vx
  cases e0
  case own τ m x =>
    cases s with
    | none => cases h
    | some t =>
      simp only [moveE, Option.some.injEq, Prod.mk.injEq] at h
      obtain ⟨_, rfl⟩ := h
      refine ⟨rfl, fun hne => ?_⟩
      obtain ⟨t', h1, h2, rfl⟩ := hx.own rfl
      injection h1 with h1; subst h1
      have h3 := hi.ent t
      rw [h2] at h3
      obtain ⟨pl, S0, cs, h3⟩ := h3
      obtain ⟨_, _, h4, h5, h6⟩ := h3.own_inj
      have htd : t ≠ d := fun h => hne (by simp [Ent.root, h])
      refine ⟨τ, m, x, pl, S0, cs, τ, m, pl, cs, ?_, rfl, h3.2.1.read, ?_, rfl, rfl, trivial⟩
      · simp only [htd, if_false]; rw [h2]; exact h3
      · simpa using h6
  case box τ m x =>
    cases s with
    | none => cases h
    | some t =>
      simp only [moveE, Option.some.injEq, Prod.mk.injEq] at h
      obtain ⟨_, rfl⟩ := h
      refine ⟨rfl, fun hne => ?_⟩
      obtain ⟨t', h1, h2, rfl⟩ := hx.own rfl
      injection h1 with h1; subst h1
      have h3 := hi.ent t
      rw [h2] at h3
      obtain ⟨pl, S0, cs, h3⟩ := h3
      obtain ⟨_, _, b, h4, h5, h6, h7⟩ := h3.box_inj
      have htd : t ≠ d := fun h => hne (by simp [Ent.root, h])
      refine ⟨τ, m, x, pl, S0, cs, τ, m, b, 0, ?_, by rw [h4]; rfl, ?_, rfl, rfl, trivial⟩
      · simp only [htd, if_false]; rw [h2]; exact h3
      · simpa using h6
  all_goals first
    | (cases s <;> (cases h; done))
    | (cases s <;>
        (simp only [moveE, Option.some.injEq, Prod.mk.injEq] at h
         obtain ⟨_, rfl⟩ := h
         exact ⟨rfl, fun hne => hx.ent rfl d hne⟩))

theorem pickE_ok (hi : Inv0 P N w0 F0 H env a w F S) {x y z : Operand} {o : Oper} (ho : o.op = .pick x y z) {vx vy vz : View}
    (hx : ViewOK P F w env (fun t => a.tmps.getD t undef) S (a.eval x) vx)
    (hy : ∀ b, vx.val = some ⟨.bool, b⟩ → b = true → ViewOK P F w env (fun t => a.tmps.getD t undef) S (a.eval y) vy)
    (hz : ∀ b, vx.val = some ⟨.bool, b⟩ → b = false → ViewOK P F w env (fun t => a.tmps.getD t undef) S (a.eval z) vz)
    {c : Prop} {e : Ent} (h : pickE vx vy vz = some (c, e)) (hc : c) : PureOK P F w env (fun t => a.tmps.getD t undef) S d (execOp a.eval o) e := by
  unfold pickE at h
  split at h
  · rename_i b τ y' σ z' h1 h2 h3
    split at h
    · rename_i hστ
      subst hστ
      cases hf : σ.flat
      · rw [hf] at h; cases h
      · simp only [hf, cond_true, Option.some.injEq, Prod.mk.injEq] at h
        obtain ⟨rfl, rfl⟩ := h
        have e6 := (View.val_ok hi hx h1).bool_eq
        cases b with
        | true =>
          refine ⟨a.eval y, by simp [execOp, ho, asBool, e6], rfl, fun _ => ?_⟩
          exact .mk_shr (OwnV.flat hf (View.val_ok hi (hy _ h1 rfl) h2))
        | false =>
          refine ⟨a.eval z, by simp [execOp, ho, asBool, e6], rfl, fun _ => ?_⟩
          exact .mk_shr (OwnV.flat hf (View.val_ok hi (hz _ h1 rfl) h3))
    · cases h
  · cases h

theorem nilE_ok (hi : Inv0 P N w0 F0 H env a w F S) {x : Operand} {o : Oper} (ho : o.op = .nilCheck x) {vx : View}
    (hx : ViewOK P F w env (fun t => a.tmps.getD t undef) S (a.eval x) vx)
    {c : Prop} {e : Ent} (h : nilE vx = some (c, e)) (hc : c) : PureOK P F w env (fun t => a.tmps.getD t undef) S d (execOp a.eval o) e := by
  have hv : (∃ b off, a.eval x = .pointer (some ⟨b, off, none⟩)) ∨ ∃ f g k, a.eval x = .func (.func f) g k := by
    unfold nilE at h
    split at h
    · rename_i τ y he
      have hsh := hx.ent (by rw [he]; rfl) 0 (by rw [he]; simp [Ent.root])
      rw [he] at hsh
      simp only [EntOK, if_true] at hsh
      obtain ⟨b, off, _, _, _, hv, _⟩ := hsh
      exact .inl ⟨b, off, hv⟩
    · rename_i r τ y he
      have hsh := hx.ent (by rw [he]; rfl) (r + 1) (by rw [he]; simp [Ent.root])
      rw [he] at hsh
      simp only [EntOK, if_true] at hsh
      obtain ⟨_, b, off, _, _, _, hv, _⟩ := hsh
      exact .inl ⟨b, off, hv⟩
    · rename_i r p he
      have hsh := hx.ent (by rw [he]; rfl) (r + 1) (by rw [he]; simp [Ent.root])
      rw [he] at hsh
      simp only [EntOK, if_true] at hsh
      obtain ⟨_, _, _, _, _, _, _, _, b, off, _, _, hv, _⟩ := hsh
      exact .inl ⟨b, off, hv⟩
    · rename_i τ m y he
      obtain ⟨t', h1, h2, h9⟩ := hx.own (by rw [he]; rfl)
      have h3 := hi.ent t'
      rw [h2, he] at h3
      obtain ⟨pl, S0, cs, h3⟩ := h3
      obtain ⟨_, _, b, h4, h5, h6, h7⟩ := h3.box_inj
      exact .inl ⟨b, 0, h9.trans h6⟩
    · rename_i A R g he
      have hsh := hx.ent (by rw [he]; rfl) 0 (by rw [he]; simp [Ent.root])
      rw [he] at hsh
      simp only [EntOK, if_true] at hsh
      obtain ⟨f, first, cap, hv, _⟩ := hsh
      exact .inr ⟨f, first, cap, hv⟩
    · cases h
  have hm : moveE vx = some (c, e) := by
    unfold nilE at h
    split at h
    all_goals first | exact h | cases h
  obtain ⟨g1, g2⟩ := moveE_ok (d := d) hi hx hm
  refine ⟨a.eval x, ?_, g1, g2⟩
  rcases hv with ⟨b, off, hv⟩ | ⟨f, g, k, hv⟩ <;> simp [execOp, ho, hv]

theorem idxE_ok (hC : CtxOK P C) (hi : Inv0 P N w0 F0 H env a w F S) {T : TypeId} {x y : Operand} {o : Oper} (ho : o.op = .index T x y) {vx vy : View}
    (hx : ViewOK P F w env (fun t => a.tmps.getD t undef) S (a.eval x) vx) (hy : ViewOK P F w env (fun t => a.tmps.getD t undef) S (a.eval y) vy)
    {c : Prop} {e : Ent} (h : idxE C T vx vy = some (c, e)) (hc : c) : PureOK P F w env (fun t => a.tmps.getD t undef) S d (execOp a.eval o) e := by
  have hrun : ∀ (v : Value), (Instr.index T (a.eval x) (a.eval y)).run P w = .ok v w → (execOp a.eval o).run P w = .ok (.value v) w := by
    intro v hv
    simp only [execOp, ho]
    rw [Sem.run_bind, hv]; rfl
  have harr : ∀ {G : NSet} {n : Nat} {e' : Ty} {xs : List e'.den} {k : IntKind} {i : Int}, OwnV G w (.arr n e') .shr none' (a.eval x) xs → look C.tys T = some (.arr n e') → a.eval y = .int k i → inN i n →
      ∃ v, (execOp a.eval o).run P w = .ok (.value v) w ∧ OwnV G w e' .shr none' v (List.getD xs (Int.toNat i) e'.dflt) := by
    intro G n e' xs k i hO hT hyv hin
    obtain ⟨cs, hv, hn, hlen, Si, s, dd, he⟩ := hO
    obtain ⟨E, t1, t2, t3⟩ := (hC.types T _ hT).arr
    have hs := (hC.types E _ t2).run_size w
    have ha := (hC.types E _ t2).run_isAgg w
    have hin2 : 0 ≤ i ∧ i < (n : Int) := hin
    have hel := Own.list_get he (i := i.toNat) (by omega)
    have hle : (i.toNat + 1) * e'.size ≤ n * e'.size := Nat.mul_le_mul_right _ (by omega)
    rw [Nat.add_mul, Nat.one_mul] at hle
    refine ⟨slotv e' (seg cs (i.toNat * e'.size) e'.size), hrun _ ?_, _, rfl, Own.shr hel⟩
    have e1 : a.eval x = .agg cs.toArray := by rw [hv]; simp [slotv, Ty.isAgg]
    rw [e1, hyv]
    simp only [Instr.index, Sem.run_bind, run_underlying t1, Result.andThen, asIntOf, Sem.run_pure, hin2, and_self, if_true, hs, Go.part, ha]
    cases hσ : e'.isAgg
    · have hs1 : e'.size = 1 := by cases e' <;> first | rfl | cases hσ
      have hoc : i.toNat * e'.size < cs.length := by omega
      simp only [Bool.false_eq_true, if_false]
      generalize i.toNat * e'.size = q at hoc
      have : cs.toArray[q]? = some cs[q] := by simp [hoc]
      rw [this]
      simp only [Sem.run_pure, slotv, hσ, Bool.false_eq_true, if_false, hs1, headD_seg cs q hoc]
    · simp only [if_true, Sem.run_bind, hs, Result.andThen, Sem.run_pure, slotv, hσ]
      congr 2
      apply Array.ext'
      simp [seg, Array.toList_extract, List.extract_eq_take_drop]
  unfold idxE at h
  split at h
  · rename_i k i s h1 h2
    cases hT : decide (look C.tys T = some .str)
    · rw [hT] at h; cases h
    have hT' := of_decide_eq_true hT
    simp only [hT, cond_true, Option.some.injEq, Prod.mk.injEq] at h
    obtain ⟨rfl, rfl⟩ := h
    obtain ⟨e2, _⟩ := (View.val_ok hi hy h1).int_eq
    obtain ⟨e1, hl⟩ := (View.val_ok hi hx h2).str_eq
    rw [e1, e2] at hrun
    have t1 := (hC.types T _ hT').str
    have hin2 := hc
    have hlt0 := inN_lt hc
    have hg : (⟨s.toArray⟩ : ByteArray)[i.toNat]? = some (s.getD i.toNat 0) := by
      have hlt : i.toNat < s.length := hlt0
      have hsz : (⟨s.toArray⟩ : ByteArray).size = s.length := by simp [ByteArray.size]
      rw [getElem?_pos (⟨s.toArray⟩ : ByteArray) i.toNat (by rw [hsz]; exact hlt)]
      simp only [List.getD_eq_getElem?_getD, List.getElem?_eq_getElem hlt, Option.getD_some]
      rfl
    refine .int (hrun _ ?_) ?_
    · have h0 := hin2.1
      simp [Instr.index, run_underlying t1, asIntOf, h0, hg]
    · have := (s.getD i.toNat 0).toNat_lt
      have e3 : IntKind.u8.min = 0 := by decide
      have e4 : IntKind.u8.max = 255 := by decide
      unfold inK
      rw [e3, e4]
      constructor
      · exact Int.natCast_nonneg _
      · have : ((s.getD i.toNat 0).toNat : Int) ≤ 255 := by omega
        exact this
  · rename_i k i n e' xs h1 h2
    obtain ⟨e2, _⟩ := (View.val_ok hi hy h1).int_eq
    split at h
    · rename_i τ' x' he
      cases hT : decide (look C.tys T = some (.arr n e'))
      · rw [hT] at h; cases h
      have hT' := of_decide_eq_true hT
      simp only [hT, cond_true, Option.some.injEq, Prod.mk.injEq] at h
      obtain ⟨rfl, rfl⟩ := h
      have hsh := hx.ent (by rw [he]; rfl) 0 (by rw [he]; simp [Ent.root])
      rw [he] at hsh
      simp only [EntOK, if_true] at hsh
      simp only [View.val, he, Option.some.injEq, Sigma.mk.injEq] at h2
      obtain ⟨rfl, h2⟩ := h2; cases h2
      obtain ⟨v, r1, r2⟩ := harr hsh hT' e2 hc
      exact ⟨v, r1, rfl, fun _ => .mk_shr r2⟩
    · cases hT : (decide (look C.tys T = some (.arr n e')) && e'.flat)
      · rw [hT] at h; cases h
      simp only [hT, cond_true, Option.some.injEq, Prod.mk.injEq] at h
      obtain ⟨rfl, rfl⟩ := h
      simp only [Bool.and_eq_true, decide_eq_true_eq] at hT
      obtain ⟨v, r1, r2⟩ := harr (View.val_ok hi hx h2) hT.1 e2 hc
      exact ⟨v, r1, rfl, fun _ => .mk_shr (OwnV.flat hT.2 r2)⟩
  · cases h

end
end Go.Lf
namespace Go.Lf

/-- A condition, the new entry, the owners that are used up. -/
abbrev ResN := Option (Prop × Ent × List Nat)

/-- What a new value is booked as: shared, if it owns nothing or is to be given up at once. -/
def mkE (C : Ctx) (d : Nat) (τ : Ty) (m : Md) (x : τ.den) : Ent := bif τ.flat || shrM m || memN C.frz d then .shr τ x else .own τ m x

def dropAll (env : St) : List Nat → St
  | [] => env
  | r :: l => dropAll (drop env r) l

section
variable {P : Program} {C : Ctx} {N : NP} {w0 : World} {F0 H : NSet} {env : St} {a : Act} {w : World} {F : NSet} {S : Nat → NSet} {d : Nat}

theorem put_self (env : St) (d : Nat) (e : Ent) : put env d e d = e := by
  unfold put; cases (env d).isOwner <;> simp [upd_same]

/-- A new value: in new memory, or in that of owners that were used up. -/
theorem Inv0.putNew (hi : Inv0 P N w0 F0 H env a w F S) {τ : Ty} {m : Md} {x : τ.den} {v : Value} {w' : World} {F' Sd : NSet} (hd : Wr N d) (hb : RowKit.Below w.heap.size w w')
    (hF : Sub F F') (hFb : ∀ b, F' b → b < w'.heap.size) (hFn : ∀ b, F' b → ¬ F b → w.heap.size ≤ b)
    (hS : ∀ b, Sd b → (w0.heap.size ≤ b ∨ H b) ∧ b < w'.heap.size ∧ ¬ F' b ∧ ∀ t, ¬ S t b) (hv : OwnV F' w' τ m Sd v x) :
    ∃ F2 S2, Inv0 P N w0 F0 H (Go.Lf.put env d (mkE C d τ m x)) (a.put (some d) v) w' F2 S2 := by
  have hVd : (a.put (some d) v).tmps.getD d undef = v := by rw [Act.getD_put (by rw [hi.slots.size]; exact hd.1), if_pos rfl]
  unfold mkE
  cases hk : (τ.flat || shrM m || memN C.frz d)
  · simp only [cond_false]
    refine ⟨F', _, hi.put (Sd := Sd) hd hb hF hFb ?_ (fun b h => ⟨(hS b h).1, (hS b h).2.1, (hS b h).2.2.1, fun t _ => (hS b h).2.2.2 t⟩) ?_⟩
    · intro b h1 h2
      have := hFn b h1 h2
      have := hi.size
      exact ⟨.inl (by omega), fun t _ ht => by have := (hi.sb t b ht).2.1; omega⟩
    · obtain ⟨cs, h1, h2⟩ := hv
      simp only [EntOK, if_true, hVd]
      exact ⟨.val cs, Sd, cs, .inl ⟨rfl, rfl, rfl, h1⟩, rfl, h2⟩
  · simp only [cond_true]
    refine ⟨fun b => F' b ∨ Sd b, _, hi.put (Sd := none') hd hb (fun b h => .inl (hF b h)) ?_ ?_ (fun _ h => h.elim) ?_⟩
    · intro b h
      rcases h with h | h
      · exact hFb b h
      · exact (hS b h).2.1
    · intro b h1 h2
      rcases h1 with h1 | h1
      · have := hFn b h1 h2
        have := hi.size
        exact ⟨.inl (by omega), fun t _ ht => by have := (hi.sb t b ht).2.1; omega⟩
      · exact ⟨(hS b h1).1, fun t _ => (hS b h1).2.2.2 t⟩
    · simp only [EntOK, hVd]
      exact hv.freeze (fun _ h => h)

/-- A new variable of the heap's. -/
def mkB (C : Ctx) (d : Nat) (τ : Ty) (m : Md) (x : τ.den) : Ent := bif memN C.frz d then .saddr τ x else .box τ m x

theorem Inv0.putBox (hi : Inv0 P N w0 F0 H env a w F S) {τ : Ty} {m : Md} {x : τ.den} {cs : List Value} {T : TypeId} {Sd : NSet} (hd : Wr N d)
    (hS : ∀ b, Sd b → (w0.heap.size ≤ b ∨ H b) ∧ b < w.heap.size ∧ ¬ F b ∧ ∀ t, ¬ S t b) (hv : Own F w τ m Sd cs x) :
    ∃ F2 S2, Inv0 P N w0 F0 H (Go.Lf.put env d (mkB C d τ m x)) (a.put (some d) (.pointer (some ⟨w.heap.size, 0, none⟩))) (w.alloc (.cells cs.toArray T)) F2 S2 := by
  have hVd : ∀ v, (a.put (some d) v).tmps.getD d undef = v := fun v => by rw [Act.getD_put (by rw [hi.slots.size]; exact hd.1), if_pos rfl]
  have hb : RowKit.Below w.heap.size w (w.alloc (.cells cs.toArray T)) := (RowKit.Below.refl _ _).alloc (Nat.le_refl _) _
  have hsz : (w.alloc (.cells cs.toArray T)).heap.size = w.heap.size + 1 := by simp
  have hnew : (w.alloc (.cells cs.toArray T)).heap[w.heap.size]? = some (.cells cs.toArray T (0, 0)) := by
    show (w.heap.push _)[w.heap.size]? = _
    simp
  have hlen := hv.len
  have hv' : Own F (w.alloc (.cells cs.toArray T)) τ m Sd cs x := hv.congr (fun b hb' => hb.block b (hi.fb b hb')) (fun b hb' => hb.block b (hS b hb').2.1)
  have hseg : seg cs 0 τ.size = cs := by unfold seg; rw [List.drop_zero, List.take_of_length_le (by omega)]
  have hi0 := hi.size
  unfold mkB
  cases hk : memN C.frz d
  · simp only [cond_false]
    refine ⟨F, _, hi.put (Sd := fun b => Sd b ∨ b = w.heap.size) hd hb (fun _ h => h) (fun b h => by have := hi.fb b h; omega) (fun b h1 h2 => absurd h1 h2) ?_ ?_⟩
    · intro b h
      rcases h with h | h
      · exact ⟨(hS b h).1, by have := (hS b h).2.1; omega, (hS b h).2.2.1, fun t _ => (hS b h).2.2.2 t⟩
      · subst h
        exact ⟨.inl hi0, by omega, fun h => by have := hi.fb _ h; omega, fun t _ ht => by have := (hi.sb t _ ht).2.1; omega⟩
    · simp only [EntOK, if_true, hVd]
      refine ⟨.mem w.heap.size 0, fun b => Sd b ∧ b ≠ w.heap.size, cs, .inr ⟨rfl, w.heap.size, rfl, ?_, rfl, .inr rfl⟩, ?_, ?_⟩
      · funext k
        apply propext
        constructor
        · rintro ⟨h1, h2⟩; exact ⟨.inl h1, h2⟩
        · rintro ⟨h1 | h1, h2⟩
          · exact ⟨h1, h2⟩
          · exact absurd h1 h2
      · refine ⟨fun h => h.2 rfl, fun h => by have := hi.fb _ h; omega, cs.toArray, T, hnew, by simp [hlen], by simpa using hseg⟩
      · exact hv'.mono (fun _ h => h) (fun b h => ⟨h, fun e => by have := (hS b h).2.1; omega⟩)
  · simp only [cond_true]
    refine ⟨fun b => F b ∨ Sd b ∨ b = w.heap.size, _, hi.put (Sd := none') hd hb (fun b h => .inl h) ?_ ?_ (fun _ h => h.elim) ?_⟩
    · rintro b (h | h | h)
      · have := hi.fb b h; omega
      · have := (hS b h).2.1; omega
      · omega
    · rintro b (h1 | h1 | h1) h2
      · exact absurd h1 h2
      · exact ⟨(hS b h1).1, fun t _ => (hS b h1).2.2.2 t⟩
      · exact ⟨.inl (by omega), fun t _ ht => by have := (hi.sb t b ht).2.1; omega⟩
    · simp only [EntOK, hVd]
      refine ⟨w.heap.size, 0, cs.toArray, T, (0, 0), rfl, .inr (.inr rfl), hnew, by simp [hlen], ?_⟩
      have := (Own.freeze (S' := none') hv').mono (F' := fun b => F b ∨ Sd b ∨ b = w.heap.size) (fun b h => h.imp id .inl) (fun _ h => h)
      simpa [hseg] using this

/-- Owners that are used up leave their memory. -/
theorem Inv0.dropAll : ∀ (l : List Nat) {env : St} {S : Nat → NSet}, Inv0 P N w0 F0 H env a w F S →
    ∃ S2, Inv0 P N w0 F0 H (Go.Lf.dropAll env l) a w F S2 ∧ (∀ t, t ∈ l → ∀ b, ¬ S2 t b) ∧ ∀ t b, S2 t b → S t b
  | [], env, S, hi => ⟨S, hi, fun _ h => (by cases h), fun _ _ h => h⟩
  | r :: l, env, S, hi => by
    obtain ⟨S2, h1, h2, h3⟩ := Inv0.dropAll l (hi.drop r)
    refine ⟨S2, h1, ?_, ?_⟩
    · intro t ht b hb
      rcases List.mem_cons.1 ht with rfl | ht
      · have := h3 _ _ hb
        simp at this; exact this
      · exact h2 t ht b hb
    · intro t b hb
      have := h3 t b hb
      by_cases e : t = r
      · simp [e] at this; exact this.elim
      · simpa [e] using this
end

/-- A value as one of a type, shared. -/
def castD {τ σ : Ty} (x : τ.den) : Option σ.den := if h : τ = σ then some (h ▸ x) else none

def nilD : (τ : Ty) → Option τ.den
  | .slice e => some ([] : List e.den)
  | _ => none

def View.shrAs (e : Ty) (v : View) : Option e.den :=
  match v.e with
  | .shr τ x => castD (τ := τ) x
  | .full e' x => castD (τ := .slice e') x
  | .nilS => nilD e
  | _ => bif e.flat then (match v.val with
    | some ⟨τ, x⟩ => castD (τ := τ) x
    | none => none) else none

def nilOwn : (τ : Ty) → Md → Option τ.den
  | .slice e, .own _ => some ([] : List e.den)
  | _, _ => none

/-- A value as one that may be taken over, and the owner that it is taken from. -/
def View.ownAs (e : Ty) (m : Md) (v : View) : Option (e.den × List Nat) :=
  match v.e, v.s with
  | .own τ m' x, some t => bif decide (m' = m) then (castD (τ := τ) (σ := e) x).map fun y => (y, [t]) else none
  | .nilS, _ => (nilOwn e m).map fun y => (y, [])
  | _, _ => none

section
variable {P : Program} {C : Ctx} {N : NP} {w0 : World} {F0 H : NSet} {env : St} {a : Act} {w : World} {F : NSet} {S : Nat → NSet} {d : Nat}

theorem castD_some {τ σ : Ty} {x : τ.den} {y : σ.den} (h : castD (σ := σ) x = some y) : (⟨τ, x⟩ : Σ τ : Ty, τ.den) = ⟨σ, y⟩ := by
  unfold castD at h
  split at h
  · rename_i e; subst e; injection h with h; subst h; rfl
  · cases h

theorem OwnV.nil (G : NSet) (w : World) (e : Ty) (m : Md) (S : NSet) : OwnV G w (.slice e) m S (.slice none 0 0) ([] : List e.den) := by
  refine ⟨[.slice none 0 0], rfl, none, 0, rfl, by simp, by simp, ?_⟩
  cases m with
  | own me => exact .inl ⟨rfl, rfl⟩
  | shr => exact .inl rfl
  | pair a b => exact .inl rfl

theorem shrAs_ok (hi : Inv0 P N w0 F0 H env a w F S) {v : Value} {vw : View} (hv : ViewOK P F w env (fun t => a.tmps.getD t undef) S v vw) {e : Ty} {x : e.den} (h : vw.shrAs e = some x) :
    OwnV F w e .shr none' v x := by
  unfold View.shrAs at h
  split at h
  · rename_i τ y he
    have hsh := hv.ent (by rw [he]; rfl) 0 (by rw [he]; simp [Ent.root])
    rw [he] at hsh
    simp only [EntOK, if_true] at hsh
    have := castD_some h
    injection this with e1 e2; subst e1; cases e2
    exact hsh
  · rename_i e' y he
    have hsh := hv.ent (by rw [he]; rfl) 0 (by rw [he]; simp [Ent.root])
    rw [he] at hsh
    simp only [EntOK, if_true] at hsh
    obtain ⟨_, _, hsh⟩ := hsh
    have := castD_some h
    injection this with e1 e2; subst e1; cases e2
    exact hsh
  · rename_i he
    have hsh := hv.ent (by rw [he]; rfl) 0 (by rw [he]; simp [Ent.root])
    rw [he] at hsh
    simp only [EntOK, if_true] at hsh
    cases e <;> simp only [nilD, reduceCtorEq, Option.some.injEq] at h
    subst h
    rw [hsh]; exact .nil _ _ _ _ _
  · cases hf : e.flat
    · rw [hf] at h; cases h
    · rw [hf] at h
      simp only [cond_true] at h
      split at h
      · rename_i τ y hval
        have := castD_some h
        injection this with e1 e2; subst e1; cases e2
        exact OwnV.flat hf (View.val_ok hi hv hval)
      · cases h

theorem ownAs_ok (hi : Inv0 P N w0 F0 H env a w F S) {v : Value} {vw : View} (hv : ViewOK P F w env (fun t => a.tmps.getD t undef) S v vw) {e : Ty} {m : Md} {x : e.den} {l : List Nat} (h : vw.ownAs e m = some (x, l)) :
    (l = [] ∧ OwnV F w e m none' v x) ∨ ∃ t, l = [t] ∧ OwnV F w e m (S t) v x := by
  unfold View.ownAs at h
  split at h
  · rename_i τ m' y t he hs
    cases hm : decide (m' = m)
    · rw [hm] at h; cases h
    · rw [hm] at h
      have hm := of_decide_eq_true hm
      subst hm
      simp only [cond_true, Option.map_eq_some_iff, Prod.mk.injEq] at h
      obtain ⟨z, h1, rfl, rfl⟩ := h
      have := castD_some h1
      injection this with e1 e2; subst e1; cases e2
      obtain ⟨t', g1, g2, rfl⟩ := hv.own (by rw [he]; rfl)
      rw [hs] at g1; injection g1 with g1; subst g1
      have h3 := hi.ent t
      rw [g2, he] at h3
      obtain ⟨pl, S0, cs, h3⟩ := h3
      obtain ⟨_, _, e3, e4, e5⟩ := h3.own_inj
      subst e4
      exact .inr ⟨t, rfl, cs, e5, h3.2.2⟩
  · rename_i _ he
    simp only [Option.map_eq_some_iff, Prod.mk.injEq] at h
    obtain ⟨z, h1, rfl, rfl⟩ := h
    have hsh := hv.ent (by rw [he]; rfl) 0 (by rw [he]; simp [Ent.root])
    rw [he] at hsh
    simp only [EntOK, if_true] at hsh
    left
    refine ⟨rfl, ?_⟩
    cases e <;> cases m <;> simp only [nilOwn, reduceCtorEq, Option.some.injEq] at h1
    subst h1
    rw [hsh]; exact .nil _ _ _ _ _
  · cases h

/-- Several values, taken over or shared. -/
def elemsE (e : Ty) (m : Md) : List View → Option (List e.den × List Nat)
  | [] => some ([], [])
  | v :: vs => match (bif shrM m then (v.shrAs e).map fun x => (x, []) else v.ownAs e m), elemsE e m vs with
    | some (x, l), some (xs, ls) => some (x :: xs, l ++ ls)
    | _, _ => none

/-- The memory of the owners of a list. -/
def SL (S : Nat → NSet) (l : List Nat) : NSet := fun b => ∃ t ∈ l, S t b

/-- No owner twice. -/
def nodupN : List Nat → Bool
  | [] => true
  | t :: l => !memN l t && nodupN l

theorem memN_mem {l : List Nat} {n : Nat} : memN l n = true ↔ n ∈ l := by
  induction l with
  | nil => simp [memN]
  | cons k l ih =>
    unfold memN
    cases h : Nat.beq k n
    · simp only [cond_false, ih, List.mem_cons]
      constructor
      · exact .inr
      · rintro (rfl | h')
        · simp at h
        · exact h'
    · simp only [cond_true, true_iff, List.mem_cons]
      exact .inl (Nat.eq_of_beq_eq_true h).symm

/-- Views of several values. -/
def VsOK (P : Program) (F : NSet) (w : World) (env : St) (V : Nat → Value) (S : Nat → NSet) : List Value → List View → Prop
  | [], [] => True
  | v :: vs, u :: us => ViewOK P F w env V S v u ∧ VsOK P F w env V S vs us
  | _, _ => False

theorem elemsE_ok (hi : Inv0 P N w0 F0 H env a w F S) {e : Ty} {m : Md} : ∀ {vs : List Value} {vws : List View} {xs : List e.den} {l : List Nat},
    VsOK P F w env (fun t => a.tmps.getD t undef) S vs vws → elemsE e m vws = some (xs, l) → nodupN l = true →
    vs.length = xs.length ∧ ∃ Si : Nat → NSet, (∀ i, Sub (Si i) (SL S l)) ∧ (∀ i j, i ≠ j → Dis (Si i) (Si j)) ∧ ∀ i v x, vs[i]? = some v → xs[i]? = some x → OwnV F w e m (Si i) v x
  | [], [], xs, l, _, h, _ => by
    simp only [elemsE, Option.some.injEq, Prod.mk.injEq] at h
    obtain ⟨rfl, rfl⟩ := h
    exact ⟨rfl, fun _ => none', fun _ _ h => h.elim, fun _ _ _ _ h => h.elim, fun i v x h => by simp at h⟩
  | v :: vs, vw :: vws, xs, l, ⟨hv, hvs⟩, h, hn => by
    simp only [elemsE] at h
    split at h
    · rename_i x l1 xs1 l2 h1 h2
      simp only [Option.some.injEq, Prod.mk.injEq] at h
      obtain ⟨rfl, rfl⟩ := h
      have hn2 : nodupN l2 = true ∧ ∀ t, t ∈ l1 → t ∉ l2 := by
        cases hm : shrM m
        · rw [hm] at h1
          simp only [cond_false] at h1
          rcases ownAs_ok hi hv h1 with ⟨rfl, _⟩ | ⟨t, rfl, _⟩
          · exact ⟨hn, fun _ h => (by cases h)⟩
          · simp only [List.cons_append, List.nil_append, nodupN, Bool.and_eq_true, Bool.not_eq_true'] at hn
            refine ⟨hn.2, fun t' ht' h => ?_⟩
            simp only [List.mem_singleton] at ht'; subst ht'
            have := memN_mem.2 h
            rw [hn.1] at this; cases this
        · rw [hm] at h1
          simp only [cond_true, Option.map_eq_some_iff, Prod.mk.injEq] at h1
          obtain ⟨_, _, _, rfl⟩ := h1
          exact ⟨hn, fun _ h => (by cases h)⟩
      obtain ⟨g1, Si, g2, g3, g4⟩ := elemsE_ok hi hvs h2 hn2.1
      have hfst : ∃ S1, Sub S1 (SL S l1) ∧ OwnV F w e m S1 v x := by
        cases hm : shrM m
        · rw [hm] at h1
          simp only [cond_false] at h1
          rcases ownAs_ok hi hv h1 with ⟨rfl, h3⟩ | ⟨t, rfl, h3⟩
          · exact ⟨none', fun _ h => h.elim, h3⟩
          · exact ⟨S t, fun b hb => ⟨t, by simp, hb⟩, h3⟩
        · rw [hm] at h1
          simp only [cond_true, Option.map_eq_some_iff, Prod.mk.injEq] at h1
          obtain ⟨_, h3, rfl, rfl⟩ := h1
          have : m = .shr := by cases m <;> first | rfl | cases hm
          subst this
          exact ⟨none', fun _ h => h.elim, shrAs_ok hi hv h3⟩
      obtain ⟨S1, k1, k2⟩ := hfst
      refine ⟨by simp [g1], fun i => match i with | 0 => S1 | i + 1 => Si i, ?_, ?_, ?_⟩
      · intro i b hb
        cases i with
        | zero => obtain ⟨t, ht, hb⟩ := k1 b hb; exact ⟨t, by simp [ht], hb⟩
        | succ i => obtain ⟨t, ht, hb⟩ := g2 i b hb; exact ⟨t, by simp [ht], hb⟩
      · have hcross : ∀ i, Dis S1 (Si i) := by
          intro i b hb1 hb2
          obtain ⟨t1, ht1, hb1⟩ := k1 b hb1
          obtain ⟨t2, ht2, hb2⟩ := g2 i b hb2
          exact hi.sd t1 t2 (fun h => hn2.2 t1 ht1 (h ▸ ht2)) b hb1 hb2
        intro i j hij
        cases i with
        | zero => cases j with
          | zero => exact absurd rfl hij
          | succ j => exact hcross j
        | succ i => cases j with
          | zero => exact fun b h1 h2 => hcross i b h2 h1
          | succ j => exact g3 i j (fun h => hij (by rw [h]))
      · intro i u y hu hy
        cases i with
        | zero => simp at hu hy; subst hu; subst hy; exact k2
        | succ i => exact g4 i u y (by simpa using hu) (by simpa using hy)
    · cases h
  | [], _ :: _, _, _, h, _, _ => h.elim
  | _ :: _, [], _, _, h, _, _ => h.elim

theorem seg_flat {s : Nat} : ∀ (css : List (List Value)) (i : Nat) (c : List Value), (∀ c ∈ css, c.length = s) → css[i]? = some c → seg css.flatten (i * s) s = c
  | [], i, c, _, h => by simp at h
  | a :: css, 0, c, hl, h => by
    simp at h; subst h
    simp only [Nat.zero_mul, List.flatten_cons]
    exact seg_append_left _ _ _ (hl a (by simp))
  | a :: css, i + 1, c, hl, h => by
    have := seg_flat css i c (fun c hc => hl c (by simp [hc])) (by simpa using h)
    have ha := hl a (by simp)
    simp only [List.flatten_cons, seg] at this ⊢
    rw [show (i + 1) * s = a.length + i * s from by rw [Nat.add_mul, Nat.one_mul, ha]; omega, List.drop_append, List.drop_of_length_le (by omega), List.nil_append]
    rw [show a.length + i * s - a.length = i * s from by omega]
    exact this

theorem flat_len {s : Nat} : ∀ (css : List (List Value)), (∀ c ∈ css, c.length = s) → css.flatten.length = css.length * s
  | [], _ => by simp
  | a :: css, hl => by
    have := flat_len css (fun c hc => hl c (by simp [hc]))
    have ha := hl a (by simp)
    simp only [List.flatten_cons, List.length_append, List.length_cons, Nat.add_mul, Nat.one_mul]; omega

end
end Go.Lf
namespace Go.Lf

/-- The mode of a zero value: its slices may be written. -/
def dftM : Ty → Md
  | .prod a b => .pair (dftM a) (dftM b)
  | .slice _ => .own .shr
  | .arr _ e => .own (dftM e)
  | _ => .shr

def hintM (C : Ctx) (d : Nat) (m : Md) : Md := match look C.mds d with
  | some m' => m'
  | none => m

def elM : Md → Md
  | .own e => e
  | _ => .shr

def allocE (C : Ctx) (d : Nat) (T : TypeId) : ResN :=
  match look C.tys T with
  | some τ => some (True, mkB C d τ (hintM C d (dftM τ)) τ.dflt, [])
  | none => none

def boxE (C : Ctx) (d : Nat) (T : TypeId) (v : View) : ResN :=
  match look C.tys T with
  | some τ => match v.e with
    | .own _ m _ => match v.ownAs τ m with
      | some (x, l) => some (True, mkB C d τ m x, l)
      | none => none
    | _ => match v.shrAs τ with
      | some x => some (True, mkB C d τ .shr x, [])
      | none => none
  | none => none

/-- How long a slice that is made may be. -/
def maxNew : Int := 2147483648

def makeE (C : Ctx) (d : Nat) (T : TypeId) (vl vc : View) : ResN :=
  match look C.tys T, vl.val, vc.val with
  | some (.slice e), some ⟨.int _, n⟩, some ⟨.int _, c⟩ =>
    some (0 ≤ n ∧ n ≤ c ∧ c ≤ maxNew, mkE C d (.slice e) (.own (elM (hintM C d (.own .shr)))) (List.replicate (Int.toNat n) e.dflt), [])
  | _, _, _ => none

/-- The parts of a literal are all there, in order. -/
def denseB : Nat → List (Nat × Operand) → Bool
  | _, [] => true
  | n, (k, _) :: l => Nat.beq k n && denseB (n + 1) l

def litE (C : Ctx) (d : Nat) (T : TypeId) (len : Nat) (parts : List (Nat × Operand)) (f : Operand → View) : ResN :=
  match look C.tys T with
  | some (.slice e) => bif denseB 0 parts && Nat.beq parts.length len && Nat.ble (len * e.size) 16777216 then
      (match elemsE e (elM (hintM C d (.own .shr))) (parts.map fun p => f p.2) with
      | some (xs, l) => bif nodupN l then some (True, mkE C d (.slice e) (.own (elM (hintM C d (.own .shr)))) xs, l) else none
      | none => none) else none
  | _ => none

/-- The fields that a literal gives. -/
def fieldsE (τ : Ty) (f : Operand → View) : List (Nat × Operand) → τ.den → Md → List Nat → Option (τ.den × Md × List Nat)
  | [], x, m, l => some (x, m, l)
  | (k, z) :: ps, x, m, l => match getP (fpath k) τ x with
    | some ⟨σ, _⟩ => match (f z).e with
      | .own _ μ _ => match (f z).ownAs σ μ with
        | some (y, l') => match setP (fpath k) τ x σ y, setM (fpath k) τ m μ with
          | some x', some m' => fieldsE τ f ps x' m' (l ++ l')
          | _, _ => none
        | none => none
      | _ => match (f z).shrAs σ with
        | some y => match setP (fpath k) τ x σ y, setM (fpath k) τ m .shr with
          | some x', some m' => fieldsE τ f ps x' m' l
          | _, _ => none
        | none => none
    | none => none

def allShr : Ty → Md → Bool
  | .prod a b, m => allShr a m.fst && allShr b m.snd
  | .slice _, m => shrM m
  | .arr _ e, m => allShr e m.elem
  | _, _ => true

def mkS (C : Ctx) (d : Nat) (τ : Ty) (m : Md) (x : τ.den) : Ent := bif allShr τ m then .shr τ x else mkE C d τ m x

def isProd : Ty → Bool
  | .prod _ _ => true
  | _ => false

def buildE (C : Ctx) (d : Nat) (T : TypeId) (parts : List (Nat × Operand)) (f : Operand → View) : ResN :=
  match look C.tys T with
  | some τ => bif isProd τ then
      (match fieldsE τ f parts τ.dflt (hintM C d (dftM τ)) [] with
      | some (x, m, l) => bif nodupN l then some (True, mkS C d τ m x, l) else none
      | none => none) else none
  | none => none

section
variable {P : Program} {C : Ctx} {N : NP} {w0 : World} {F0 H : NSet} {env : St} {a : Act} {w : World} {F : NSet} {S : Nat → NSet} {d : Nat}

/-- An operation gives a value, perhaps in new memory, perhaps out of owners that it uses up. -/
def NewOK (P : Program) (N : NP) (w0 : World) (F0 H : NSet) (env : St) (a : Act) (w : World) (d : Nat) (s : Sem Next) (e : Ent) (used : List Nat) : Prop :=
  ∃ v w' F2 S2, s.run P w = .ok (.value v) w' ∧ Inv0 P N w0 F0 H (put (dropAll env used) d e) (a.put (some d) v) w' F2 S2

theorem NewOK.of_pure (hi : Inv0 P N w0 F0 H env a w F S) (hd : Wr N d) {s : Sem Next} {e : Ent} (h : PureOK P F w env (fun t => a.tmps.getD t undef) S d s e) (hr : e.root ≠ some d) :
    NewOK P N w0 F0 H env a w d s e [] := by
  obtain ⟨v, h1, h2, h3⟩ := h
  exact ⟨v, w, F, _, h1, hi.putSimple hd h2 hr (h3 hr)⟩

theorem alloc_below (w : World) (o : Obj) : RowKit.Below w.heap.size w (w.alloc o) := (RowKit.Below.refl _ _).alloc (Nat.le_refl _) _

theorem allocE_ok (hC : CtxOK P C) (hi : Inv0 P N w0 F0 H env a w F S) (hd : Wr N d) {T : TypeId} {o : Oper} (ho : o.op = .alloc T)
    {c : Prop} {e : Ent} {l : List Nat} (h : allocE C d T = some (c, e, l)) : NewOK P N w0 F0 H env a w d (execOp a.eval o) e l := by
  unfold allocE at h
  split at h
  · rename_i τ hT
    simp only [Option.some.injEq, Prod.mk.injEq] at h
    obtain ⟨rfl, rfl, rfl⟩ := h
    have hr := hC.types T _ hT
    have hz := Own.zero F w τ (hintM C d (dftM τ)) none'
    obtain ⟨F2, S2, h2⟩ := hi.putBox (C := C) (T := T) hd (fun _ h => h.elim) hz
    refine ⟨_, _, F2, S2, ?_, h2⟩
    simp [execOp, ho, Instr.alloc, hr.run_zero, newVar_run P T (slotv_cells hz.len hz.one)]
  · cases h

theorem SL_drop {S2 : Nat → NSet} {l : List Nat} (h1 : ∀ t, t ∈ l → ∀ b, ¬ S2 t b) (h2 : ∀ t b, S2 t b → S t b) (hi : Inv0 P N w0 F0 H env a w F S) :
    ∀ b, SL S l b → (w0.heap.size ≤ b ∨ H b) ∧ b < w.heap.size ∧ ¬ F b ∧ ∀ t, ¬ S2 t b := by
  rintro b ⟨t, ht, hb⟩
  obtain ⟨g1, g2, g3⟩ := hi.sb t b hb
  refine ⟨g1, g2, g3, fun u hu => ?_⟩
  by_cases e : u = t
  · subst e; exact h1 u ht b hu
  · exact hi.sd u t e b (h2 u b hu) hb

theorem boxE_ok (hC : CtxOK P C) (hi : Inv0 P N w0 F0 H env a w F S) (hd : Wr N d) {T : TypeId} {x : Operand} {o : Oper} (ho : o.op = .box T x) {vx : View}
    (hx : ViewOK P F w env (fun t => a.tmps.getD t undef) S (a.eval x) vx)
    {c : Prop} {e : Ent} {l : List Nat} (h : boxE C d T vx = some (c, e, l)) : NewOK P N w0 F0 H env a w d (execOp a.eval o) e l := by
  have hrun : ∀ {τ : Ty} {cs : List Value}, (slotv τ cs).cells = cs.toArray → a.eval x = slotv τ cs → (execOp a.eval o).run P w = .ok (.value (.pointer (some ⟨w.heap.size, 0, none⟩))) (w.alloc (.cells cs.toArray T)) := by
    intro τ cs h1 h2
    simp [execOp, ho, Instr.box, h2, newVar_run P T h1]
  unfold boxE at h
  split at h
  · rename_i τ hT
    split at h
    · rename_i τ' m y he
      split at h
      · rename_i z l' hz
        simp only [Option.some.injEq, Prod.mk.injEq] at h
        obtain ⟨rfl, rfl, rfl⟩ := h
        obtain ⟨S2, h2, h3, h4⟩ := Inv0.dropAll l' hi
        have hown : ∃ S1, Sub S1 (SL S l') ∧ OwnV F w τ m S1 (a.eval x) z := by
          rcases ownAs_ok hi hx hz with ⟨rfl, h⟩ | ⟨t, rfl, h⟩
          · exact ⟨none', fun _ h => h.elim, h⟩
          · exact ⟨S t, fun b hb => ⟨t, by simp, hb⟩, h⟩
        obtain ⟨S1, k1, cs, k2, k3⟩ := hown
        obtain ⟨F2, S3, h5⟩ := h2.putBox (C := C) (T := T) hd (fun b hb => SL_drop h3 h4 hi b (k1 b hb)) k3
        exact ⟨_, _, F2, S3, hrun (slotv_cells k3.len k3.one) k2, h5⟩
      · cases h
    · split at h
      · rename_i z hz
        simp only [Option.some.injEq, Prod.mk.injEq] at h
        obtain ⟨rfl, rfl, rfl⟩ := h
        obtain ⟨cs, k2, k3⟩ := shrAs_ok hi hx hz
        obtain ⟨F2, S3, h5⟩ := hi.putBox (C := C) (T := T) hd (fun _ h => h.elim) k3
        exact ⟨_, _, F2, S3, hrun (slotv_cells k3.len k3.one) k2, h5⟩
      · cases h
  · cases h

/-- An owned slice in a new block. -/
theorem OwnV.newRow {G : NSet} {w' : World} {e : Ty} {me : Md} {b : Nat} {row : Array Value} {T : TypeId} {cap : Nat} {xs : List e.den} {Si : Nat → NSet} {Sd : NSet}
    (hb : Sd b) (hr : w'.heap[b]? = some (.cells row T (0, 0))) (hsz : cap * e.size ≤ row.size) (hl : xs.length ≤ cap) (hlim : xs.length ≤ lim)
    (hS : ∀ i, Sub (Si i) Sd) (hnb : ∀ i, ¬ Si i b) (hdis : ∀ i j, i ≠ j → Dis (Si i) (Si j))
    (he : ∀ i x, xs[i]? = some x → Own G w' e me (Si i) (seg row.toList (i * e.size) e.size) x) :
    OwnV G w' (.slice e) (.own me) Sd (.slice (some ⟨b, 0, none⟩) xs.length cap) xs :=
  ⟨[.slice (some ⟨b, 0, none⟩) xs.length cap], rfl, _, cap, rfl, hl, hlim, .inr ⟨b, 0, row, T, Si, rfl, hb, hr, by omega, hS, hnb, hdis, fun i x hx => by rw [Nat.zero_add]; exact he i x hx⟩⟩

theorem alloc_new (w : World) (o : Obj) : (w.alloc o).heap[w.heap.size]? = some o := by
  show (w.heap.push _)[w.heap.size]? = _
  simp

theorem seg_made (z : List Value) (n i : Nat) (hi : i < n) : seg (madeCells z.toArray (n * z.length)).toList (i * z.length) z.length = z := by
  apply List.ext_getElem?
  intro j
  simp only [seg, List.getElem?_take, List.getElem?_drop]
  by_cases hj : j < z.length
  · rw [if_pos hj]
    have hle : (i + 1) * z.length ≤ n * z.length := Nat.mul_le_mul_right _ (by omega)
    rw [Nat.add_mul, Nat.one_mul] at hle
    have hlt : i * z.length + j < n * z.length := by omega
    simp [madeCells, hlt, hj, Nat.mod_eq_of_lt hj]
  · rw [if_neg hj, List.getElem?_eq_none (by omega)]

theorem make_core (hC : CtxOK P C) (hi : Inv0 P N w0 F0 H env a w F S) (hd : Wr N d) {T : TypeId} {e' : Ty} (hT : look C.tys T = some (.slice e')) {k k' : IntKind} {n q : Int} {me : Md} (c1 : 0 ≤ n) (c2 : n ≤ q) (c3 : q ≤ maxNew) :
    ∃ v w' F2 S2, (Instr.makeSlice T (.int k n) (.int k' q)).run P w = .ok v w' ∧ Inv0 P N w0 F0 H (put env d (mkE C d (.slice e') (.own me) (List.replicate n.toNat e'.dflt))) (a.put (some d) v) w' F2 S2 := by
  obtain ⟨E, t1, t2, t3⟩ := (hC.types T _ hT).slice
  obtain ⟨i, dd, q1, q2, q3, q4, q5, q6⟩ := hC.types E _ t2
  have hz := Own.zero F w e' .shr none'
  have hzc := slotv_cells hz.len hz.one
  unfold maxNew at c3
  have hm := run_make (P := P) w T E i _ t1 q1 q5 k k' n q c1 c2 (by
    have h1 : (i.bytes : Int) ≤ 65536 := by omega
    have : (i.bytes : Int) * q ≤ 65536 * q := Int.mul_le_mul_of_nonneg_right h1 (by omega)
    omega) (by omega)
  rw [hzc, q3, show e'.size = e'.zero.length from hz.len.symm] at hm
  have hnq : n.toNat ≤ q.toNat := by omega
  have hown : OwnV F (w.alloc (.cells (madeCells e'.zero.toArray (q.toNat * e'.zero.length)) E)) (.slice e') (.own me) (fun b => b = w.heap.size)
      (.slice (some ⟨w.heap.size, 0, none⟩) n.toNat q.toNat) (List.replicate n.toNat e'.dflt) := by
    have hl0 : (List.replicate n.toNat e'.dflt).length = n.toNat := by simp
    have := OwnV.newRow (G := F) (me := me) (Sd := fun b => b = w.heap.size) (xs := List.replicate n.toNat e'.dflt) (cap := q.toNat) (Si := fun _ => none') rfl
      (alloc_new w (.cells (madeCells e'.zero.toArray (q.toNat * e'.zero.length)) E)) (by rw [hz.len]; simp [madeCells]) (by rw [hl0]; exact hnq) (by rw [hl0]; unfold lim; omega)
      (fun _ _ h => h.elim) (fun _ h => h.elim) (fun _ _ _ _ h => h.elim) (by
        intro j x hx
        simp only [List.getElem?_replicate] at hx
        split at hx
        · injection hx with hx; subst hx
          rw [← hz.len, seg_made _ _ _ (by omega)]
          exact Own.zero _ _ _ _ _
        · cases hx)
    rw [hl0] at this
    exact this
  obtain ⟨F2, S2, h5⟩ := hi.putNew (C := C) hd (alloc_below _ _) (fun _ h => h) (fun b h => by have := hi.fb b h; simp; omega) (fun b h1 h2 => absurd h1 h2)
    (by
      intro b hb; subst hb
      refine ⟨.inl hi.size, by simp, fun h => by have := hi.fb _ h; omega, fun t ht => by have := (hi.sb t _ ht).2.1; omega⟩) hown
  exact ⟨_, _, F2, S2, hm, h5⟩

theorem makeE_ok (hC : CtxOK P C) (hi : Inv0 P N w0 F0 H env a w F S) (hd : Wr N d) {T : TypeId} {x y : Operand} {o : Oper} (ho : o.op = .makeSlice T x y) {vx vy : View}
    (hx : ViewOK P F w env (fun t => a.tmps.getD t undef) S (a.eval x) vx) (hy : ViewOK P F w env (fun t => a.tmps.getD t undef) S (a.eval y) vy)
    {c : Prop} {e : Ent} {l : List Nat} (h : makeE C d T vx vy = some (c, e, l)) (hc : c) : NewOK P N w0 F0 H env a w d (execOp a.eval o) e l := by
  unfold makeE at h
  split at h
  · rename_i e' k n k' q hT h1 h2
    simp only [Option.some.injEq, Prod.mk.injEq] at h
    obtain ⟨rfl, rfl, rfl⟩ := h
    have e1 := (View.val_ok hi hx h1).int_eq.1
    have e2 := (View.val_ok hi hy h2).int_eq.1
    obtain ⟨v, w', F2, S2, hm, h5⟩ := make_core (k := k) (k' := k') (me := elM (hintM C d (.own .shr))) hC hi hd hT hc.1 hc.2.1 hc.2.2
    refine ⟨v, w', F2, S2, ?_, h5⟩
    simp only [execOp, ho, e1, e2]
    rw [Sem.run_bind, hm]; rfl
  · cases h

theorem denseB_zip (g : Operand → Value) : ∀ (n : Nat) (l : List (Nat × Operand)), denseB n l = true → l.map (fun p => (p.1, g p.2)) = ((l.map (g ∘ (·.2))).zipIdx n).map fun x => (x.2, x.1)
  | _, [], _ => rfl
  | n, (k, z) :: l, h => by
    simp only [denseB, Bool.and_eq_true] at h
    have := Nat.eq_of_beq_eq_true h.1
    subst this
    simp only [List.map_cons, List.zipIdx_cons]
    rw [denseB_zip g (k + 1) l h.2]
    rfl

theorem VsOK_map {f : Operand → View} : ∀ {l : List Operand}, (∀ z ∈ l, ViewOK P F w env (fun t => a.tmps.getD t undef) S (a.eval z) (f z)) →
    VsOK P F w env (fun t => a.tmps.getD t undef) S (l.map a.eval) (l.map f)
  | [], _ => trivial
  | z :: l, h => ⟨h z (by simp), VsOK_map fun y hy => h y (by simp [hy])⟩

/-- Cells of several values, side by side. -/
theorem cells_of {e : Ty} {m : Md} {vs : List Value} {xs : List e.den} {Si : Nat → NSet} (hl : vs.length = xs.length) (h : ∀ i v x, vs[i]? = some v → xs[i]? = some x → OwnV F w e m (Si i) v x) :
    (∀ v ∈ vs, v.cells.size = e.size) ∧ ∀ i x, xs[i]? = some x → Own F w e m (Si i) (seg (vs.flatMap fun v => v.cells.toList) (i * e.size) e.size) x := by
  have h1 : ∀ v ∈ vs, v.cells.size = e.size := by
    intro v hv
    obtain ⟨i, hi, rfl⟩ := List.mem_iff_getElem.1 hv
    obtain ⟨cs, q1, q2, q3⟩ := (h i _ _ (List.getElem?_eq_getElem hi) (List.getElem?_eq_getElem (by omega))).cells
    rw [q2]; simpa using q3.len
  refine ⟨h1, fun i x hx => ?_⟩
  have hi : i < vs.length := by
    rcases Nat.lt_or_ge i xs.length with h | h
    · omega
    · rw [List.getElem?_eq_none h] at hx; cases hx
  obtain ⟨cs, q1, q2, q3⟩ := (h i _ _ (List.getElem?_eq_getElem hi) hx).cells
  have := seg_flat (s := e.size) (vs.map fun v => v.cells.toList) i vs[i].cells.toList (by
    intro c hc
    obtain ⟨v, hv, rfl⟩ := List.mem_map.1 hc
    simpa using h1 v hv) (by simp [List.getElem?_eq_getElem hi])
  rw [List.flatMap, this, q2]
  exact q3

theorem litE_ok (hC : CtxOK P C) (hi : Inv0 P N w0 F0 H env a w F S) (hd : Wr N d) {T : TypeId} {len : Nat} {parts : Array (Nat × Operand)} {o : Oper} (ho : o.op = .buildSlice T len parts) {f : Operand → View}
    (hf : ∀ z ∈ o.op.operands, ViewOK P F w env (fun t => a.tmps.getD t undef) S (a.eval z) (f z))
    {c : Prop} {e : Ent} {l : List Nat} (h : litE C d T len parts.toList f = some (c, e, l)) (hc : c) : NewOK P N w0 F0 H env a w d (execOp a.eval o) e l := by
  unfold litE at h
  split at h
  · rename_i e' hT
    cases hB : (denseB 0 parts.toList && Nat.beq parts.toList.length len && Nat.ble (len * e'.size) 16777216)
    · rw [hB] at h; cases h
    rw [hB] at h
    simp only [cond_true] at h
    simp only [Bool.and_eq_true] at hB
    obtain ⟨⟨b1, b2⟩, b3⟩ := hB
    have b2 := Nat.eq_of_beq_eq_true b2
    have b3 := Nat.le_of_ble_eq_true b3
    split at h
    · rename_i xs l' he
      cases hn : nodupN l'
      · rw [hn] at h; cases h
      rw [hn] at h
      simp only [cond_true, Option.some.injEq, Prod.mk.injEq] at h
      obtain ⟨rfl, rfl, rfl⟩ := h
      obtain ⟨E, t1, t2, t3⟩ := (hC.types T _ hT).slice
      obtain ⟨i, dd, q1, q2, q3, q4, q5, q6⟩ := hC.types E _ t2
      have hz := Own.zero F w e' .shr none'
      have hzc := slotv_cells hz.len hz.one
      have hV := VsOK_map (l := parts.toList.map (·.2)) (f := f) (fun z hz => hf z (by
        rw [ho]; simp only [Op.operands]
        simpa using hz))
      rw [List.map_map] at hV
      rw [show (parts.toList.map fun p => f p.2) = (parts.toList.map (·.2)).map f from by rw [List.map_map]; rfl] at he
      obtain ⟨g1, Si, g2, g3, g4⟩ := elemsE_ok hi hV he hn
      obtain ⟨k1, k2⟩ := cells_of g1 g4
      have hlx : xs.length = len := by rw [← g1]; simp [b2]
      have hparts : (parts.map fun p => (p.1, a.eval p.2)).toList = ((parts.toList.map (a.eval ∘ (·.2))).zipIdx 0).map fun x => (x.2, x.1) := by
        rw [Array.toList_map]
        exact denseB_zip a.eval 0 parts.toList b1
      obtain ⟨S2, d1, d2, d3⟩ := Inv0.dropAll l' hi
      have hrun : (Instr.buildSlice T len (parts.map fun p => (p.1, a.eval p.2))).run P w =
          .ok (.slice (some ⟨w.heap.size, 0, none⟩) len len) (w.alloc (.cells (((parts.toList.map (a.eval ∘ (·.2))).flatMap fun v => v.cells.toList).toArray) E)) := by
        by_cases h0 : len = 0
        · subst h0
          have hnil : parts = #[] := by
            have : parts.toList = [] := List.eq_nil_of_length_eq_zero b2
            exact Array.toList_eq_nil_iff.1 this
          subst hnil
          simp [Instr.buildSlice, run_underlying t1, sizeOf, typeInfo, q1, Instr.fill, newRow, Array.range_zero']
        · refine run_buildSlice w T E len _ _ i _ t1 q1 q5 (by rw [q3]; omega) (by rw [q3]; exact Nat.mul_ne_zero h0 t3) ?_
          rw [q3, hparts]
          exact Great.fill_whole (by omega) _ _ k1 (by simp [b2])
      have hown : OwnV F (w.alloc (.cells (((parts.toList.map (a.eval ∘ (·.2))).flatMap fun v => v.cells.toList).toArray) E)) (.slice e') (.own (elM (hintM C d (.own .shr)))) (fun b => SL S l' b ∨ b = w.heap.size)
          (.slice (some ⟨w.heap.size, 0, none⟩) len len) xs := by
        have hflat : ((parts.toList.map (a.eval ∘ (·.2))).flatMap fun v => v.cells.toList).length = len * e'.size := by
          rw [List.flatMap, flat_len (s := e'.size) _ (by
            intro c hc
            obtain ⟨v, hv, rfl⟩ := List.mem_map.1 hc
            simpa using k1 v hv)]
          simp [b2]
        have hSib : ∀ j b, Si j b → b < w.heap.size := fun j b hb => by
          obtain ⟨t, _, hb⟩ := g2 j b hb; exact (hi.sb t b hb).2.1
        have := OwnV.newRow (G := F) (w' := w.alloc (.cells (((parts.toList.map (a.eval ∘ (·.2))).flatMap fun v => v.cells.toList).toArray) E)) (e := e') (me := elM (hintM C d (.own .shr))) (b := w.heap.size)
          (row := (((parts.toList.map (a.eval ∘ (·.2))).flatMap fun v => v.cells.toList).toArray)) (T := E) (Sd := fun b => SL S l' b ∨ b = w.heap.size) (xs := xs) (cap := len) (Si := Si) (.inr rfl)
          (alloc_new _ _) (by simp only [List.size_toArray, hflat]; exact Nat.le_refl _) (by omega) (by unfold lim; have := Nat.le_mul_of_pos_right len (Nat.pos_of_ne_zero t3); omega)
          (fun j b hb => .inl (g2 j b hb)) (fun j hb => by have := hSib j _ hb; omega) g3 (by
            intro j x hx
            exact (k2 j x hx).congr (fun b hb => (alloc_below _ _).block b (hi.fb b hb)) (fun b hb => (alloc_below _ _).block b (hSib j b hb)))
        rw [hlx] at this
        exact this
      obtain ⟨F2, S3, h5⟩ := d1.putNew (C := C) hd (alloc_below _ _) (fun _ h => h) (fun b h => by have := hi.fb b h; simp; omega) (fun b h1 h2 => absurd h1 h2)
        (by
          rintro b (hb | hb)
          · have := SL_drop d2 d3 hi b hb
            refine ⟨this.1, by have := this.2.1; simp; omega, this.2.2⟩
          · subst hb
            refine ⟨.inl hi.size, by simp, fun h => by have := hi.fb _ h; omega, fun t ht => by have := (hi.sb t _ (d3 t _ ht)).2.1; omega⟩) hown
      refine ⟨_, _, F2, S3, ?_, h5⟩
      simp only [execOp, ho]
      rw [Sem.run_bind, hrun]; rfl
    · cases h
  · cases h

end
end Go.Lf
namespace Go.Lf

/-- The elements that an array literal gives (of flat data alone). -/
def arrE (n : Nat) (e : Ty) (f : Operand → View) : List (Nat × Operand) → List e.den → Option (List e.den)
  | [], xs => some xs
  | (k, z) :: ps, xs => match (f z).shrAs e with
    | some y => bif Nat.blt k n then arrE n e f ps (xs.set k y) else none
    | none => none

def buildAE (C : Ctx) (d : Nat) (T : TypeId) (parts : List (Nat × Operand)) (f : Operand → View) : ResN :=
  match look C.tys T with
  | some (.arr n e) => bif e.flat then
      (match arrE n e f parts (List.replicate n e.dflt) with
      | some xs => some (True, .shr (.arr n e) xs, [])
      | none => none) else none
  | _ => buildE C d T parts f

section
variable {P : Program} {C : Ctx} {N : NP} {w0 : World} {F0 H : NSet} {env : St} {a : Act} {w : World} {F : NSet} {S : Nat → NSet} {d : Nat}

/-- A field of a struct's cells is overwritten. -/
theorem Own.setFld {tys : List (TypeId × Ty)} : ∀ (k : Nat) (fs : List Field) (off : Nat) (τ : Ty) {m : Md} {S : NSet} {cs : List Value} {x : τ.den} {σ : Ty} {z : σ.den} {μ : Md} {S2 : NSet} {c' : List Value} {y : σ.den} {x' : τ.den} {m' : Md},
    fieldsB tys fs off τ = true → getP (fpath k) τ x = some ⟨σ, z⟩ → setP (fpath k) τ x σ y = some x' → setM (fpath k) τ m μ = some m' → Own F w τ m S cs x → Own F w σ μ S2 c' y → Dis S S2 →
    ∃ f o, fs[k]? = some f ∧ look tys f.type = some σ ∧ f.offset = off + o ∧ o + σ.size ≤ τ.size ∧ Own F w τ m' (fun b => S b ∨ S2 b) (cs.take o ++ c' ++ cs.drop (o + σ.size)) x'
  | 0, f :: fs, off, .prod A B, m, S, cs, x, σ, z, μ, S2, c', y, x', m', h, hg, hs, hm, ho, hy, hd => by
    simp only [fieldsB, Bool.and_eq_true, decide_eq_true_eq, Bool.not_eq_true'] at h
    obtain ⟨⟨⟨h1, h2⟩, h3⟩, h4⟩ := h
    simp only [fpath, getP, Option.some.injEq, Sigma.mk.injEq] at hg
    obtain ⟨rfl, _⟩ := hg
    simp only [fpath, setP, dif_pos, Option.map_some, Option.some.injEq] at hs
    subst hs
    simp only [fpath, setM, Option.map_some, Option.some.injEq] at hm
    subst hm
    obtain ⟨c1, c2, S1, S3, rfl, s1, s3, dd, o1, o2⟩ := ho
    have l1 := o1.len
    refine ⟨f, 0, rfl, h2, Nat.eq_of_beq_eq_true h1, by simp [Ty.size], c', c2, S2, S3, ?_, fun b h => .inr h, fun b h => .inl (s3 b h), fun b h1 h2 => hd b (s3 b h2) h1, hy, o2⟩
    simp only [List.take_zero, List.nil_append, Nat.zero_add]
    rw [← l1, List.drop_left]
  | k + 1, f :: fs, off, .prod A B, m, S, cs, x, σ, z, μ, S2, c', y, x', m', h, hg, hs, hm, ho, hy, hd => by
    simp only [fieldsB, Bool.and_eq_true, decide_eq_true_eq, Bool.not_eq_true'] at h
    obtain ⟨⟨⟨h1, h2⟩, h3⟩, h4⟩ := h
    simp only [fpath, setP, Option.map_eq_some_iff] at hs
    obtain ⟨q, hs, rfl⟩ := hs
    simp only [fpath, setM, Option.map_eq_some_iff] at hm
    obtain ⟨mq, hm, rfl⟩ := hm
    obtain ⟨c1, c2, S1, S3, rfl, s1, s3, dd, o1, o2⟩ := ho
    have l1 := o1.len
    obtain ⟨f', o, g1, g2, g3, g4, g5⟩ := Own.setFld k fs (off + A.size) B h4 hg hs hm o2 hy (fun b h => hd b (s3 b h))
    refine ⟨f', A.size + o, g1, g2, by omega, by simp [Ty.size]; omega, c1, _, S1, fun b => S3 b ∨ S2 b, ?_, fun b h => .inl (s1 b h), ?_, ?_, o1, g5⟩
    · rw [← l1, List.take_length_add_append, Nat.add_assoc, List.drop_length_add_append]; simp [List.append_assoc]
    · rintro b (h | h)
      · exact .inl (s3 b h)
      · exact .inr h
    · rintro b h1 (h2 | h2)
      · exact dd b h1 h2
      · exact hd b (s1 b h1) h2
  | 0, [], _, .prod _ _, _, _, _, _, _, _, _, _, _, _, _, _, h, _, _, _, _, _, _ => by simp [fieldsB] at h
  | _ + 1, [], _, .prod _ _, _, _, _, _, _, _, _, _, _, _, _, _, h, _, _, _, _, _, _ => by simp [fieldsB] at h
  | 0, _, _, .int _, _, _, _, _, _, _, _, _, _, _, _, _, _, hg, _, _, _, _, _ => by simp [fpath, getP] at hg
  | 0, _, _, .bool, _, _, _, _, _, _, _, _, _, _, _, _, _, hg, _, _, _, _, _ => by simp [fpath, getP] at hg
  | 0, _, _, .str, _, _, _, _, _, _, _, _, _, _, _, _, _, hg, _, _, _, _, _ => by simp [fpath, getP] at hg
  | 0, _, _, .unit, _, _, _, _, _, _, _, _, _, _, _, _, _, hg, _, _, _, _, _ => by simp [fpath, getP] at hg
  | 0, _, _, .slice _, _, _, _, _, _, _, _, _, _, _, _, _, _, hg, _, _, _, _, _ => by simp [fpath, getP] at hg
  | 0, _, _, .arr _ _, _, _, _, _, _, _, _, _, _, _, _, _, _, hg, _, _, _, _, _ => by simp [fpath, getP] at hg
  | _ + 1, _, _, .int _, _, _, _, _, _, _, _, _, _, _, _, _, _, hg, _, _, _, _, _ => by simp [fpath, getP] at hg
  | _ + 1, _, _, .bool, _, _, _, _, _, _, _, _, _, _, _, _, _, hg, _, _, _, _, _ => by simp [fpath, getP] at hg
  | _ + 1, _, _, .str, _, _, _, _, _, _, _, _, _, _, _, _, _, hg, _, _, _, _, _ => by simp [fpath, getP] at hg
  | _ + 1, _, _, .unit, _, _, _, _, _, _, _, _, _, _, _, _, _, hg, _, _, _, _, _ => by simp [fpath, getP] at hg
  | _ + 1, _, _, .slice _, _, _, _, _, _, _, _, _, _, _, _, _, _, hg, _, _, _, _, _ => by simp [fpath, getP] at hg
  | _ + 1, _, _, .arr _ _, _, _, _, _, _, _, _, _, _, _, _, _, _, hg, _, _, _, _, _ => by simp [fpath, getP] at hg

theorem fill_step (place : Nat → Option (Nat × Nat)) (cells : Array Value) (i : Nat) (v : Value) (rest : List (Nat × Value)) {off size : Nat} (hp : place i = some (off, size)) (hv : v.cells.size = size) (ho : off + size ≤ cells.size) :
    Instr.fill place cells ((i, v) :: rest) = Instr.fill place (cells.toList.take off ++ v.cells.toList ++ cells.toList.drop (off + size)).toArray rest := by
  have h1 : (v.cells.zipIdx.foldl (fun cs (x : Value × Nat) => cs.setIfInBounds (off + x.2) x.1) cells) = (cells.toList.take off ++ v.cells.toList ++ cells.toList.drop (off + size)).toArray := by
    obtain ⟨g1, g2⟩ := Great.foldl_set off v.cells.toList 0 cells
    have hz : v.cells.zipIdx.foldl (fun cs (x : Value × Nat) => cs.setIfInBounds (off + x.2) x.1) cells = (v.cells.toList.zipIdx 0).foldl (fun cs (x : Value × Nat) => cs.setIfInBounds (off + x.2) x.1) cells := by
      rw [← Array.foldl_toList]; simp
    rw [hz]
    apply Array.ext_getElem?
    intro k
    rw [g2 k]
    simp only [Nat.add_zero, Array.length_toList, List.getElem?_toArray]
    by_cases h1 : k < off
    · rw [if_neg (by omega), List.append_assoc, List.getElem?_append_left (by simp; omega), List.getElem?_take, if_pos h1]; simp
    · by_cases h2 : k < off + v.cells.size
      · rw [if_pos (by omega), List.append_assoc, List.getElem?_append_right (by simp; omega)]
        have : (cells.toList.take off).length = off := by simp; omega
        rw [this, List.getElem?_append_left (by simp; omega)]
      · rw [if_neg (by omega), List.getElem?_append_right (by simp; omega)]
        have : (cells.toList.take off ++ v.cells.toList).length = off + size := by simp; omega
        rw [this, List.getElem?_drop]
        have : off + size + (k - (off + size)) = k := by omega
        rw [this]; simp
  show (match place i with | none => none | some (off, size) => _) = _
  have hcond : ¬ ((decide (v.cells.size ≠ size) || decide (off + v.cells.size > cells.size)) = true) := by simp; omega
  rw [hp]
  simp only []
  rw [if_neg hcond]
  show Instr.fill place (v.cells.zipIdx.foldl (fun cs (x : Value × Nat) => cs.setIfInBounds (off + x.2) x.1) cells) rest = _
  rw [h1]

theorem places_of (hC : CtxOK P C) : ∀ (fs : List Field) (off : Nat) (τ : Ty), fieldsB C.tys fs off τ = true →
    ∃ pl, fs.mapM (fun f => (P.info? f.type).map fun i => (f.offset, i.size)) = some pl ∧ ∀ (k : Nat) (f : Field) (σ : Ty), fs[k]? = some f → look C.tys f.type = some σ → pl[k]? = some (f.offset, σ.size)
  | [], _, _, _ => ⟨[], rfl, fun k f σ h => by simp at h⟩
  | f :: fs, off, .prod A B, h => by
    simp only [fieldsB, Bool.and_eq_true, decide_eq_true_eq, Bool.not_eq_true'] at h
    obtain ⟨⟨⟨h1, h2⟩, h3⟩, h4⟩ := h
    obtain ⟨pl, g1, g2⟩ := places_of hC fs _ B h4
    obtain ⟨i, dd, q1, q2, q3, q4, q5, q6⟩ := hC.types _ _ h2
    refine ⟨(f.offset, i.size) :: pl, ?_, ?_⟩
    · simp [List.mapM_cons, q1, g1]
    · intro k f' σ hk hσ
      cases k with
      | zero =>
        simp at hk; subst hk
        rw [h2] at hσ; injection hσ with hσ; subst hσ
        simp [q3]
      | succ k => exact g2 k f' σ (by simpa using hk) hσ
  | f :: fs, _, .int _, h => by simp [fieldsB] at h
  | f :: fs, _, .bool, h => by simp [fieldsB] at h
  | f :: fs, _, .str, h => by simp [fieldsB] at h
  | f :: fs, _, .unit, h => by simp [fieldsB] at h
  | f :: fs, _, .slice _, h => by simp [fieldsB] at h
  | f :: fs, _, .arr _ _, h => by simp [fieldsB] at h

theorem nodup_app : ∀ {l1 l2 : List Nat}, nodupN (l1 ++ l2) = true → nodupN l1 = true ∧ nodupN l2 = true ∧ ∀ t, t ∈ l1 → t ∉ l2
  | [], l2, h => ⟨rfl, h, fun _ h => (by cases h)⟩
  | t :: l1, l2, h => by
    simp only [List.cons_append, nodupN, Bool.and_eq_true, Bool.not_eq_true'] at h
    obtain ⟨h1, h2, h3⟩ := nodup_app h.2
    have hm : t ∉ l1 ++ l2 := fun hh => by rw [memN_mem.2 hh] at h; exact absurd h.1 (by simp)
    refine ⟨?_, h2, ?_⟩
    · simp only [nodupN, Bool.and_eq_true, Bool.not_eq_true']
      refine ⟨?_, h1⟩
      cases hx : memN l1 t
      · rfl
      · exact absurd (List.mem_append.2 (.inl (memN_mem.1 hx))) hm
    · intro u hu
      rcases List.mem_cons.1 hu with rfl | hu
      · exact fun hh => hm (List.mem_append.2 (.inr hh))
      · exact h3 u hu

theorem SL_app_left {l1 l2 : List Nat} : Sub (SL S l1) (SL S (l1 ++ l2)) := fun b ⟨t, ht, hb⟩ => ⟨t, by simp [ht], hb⟩
theorem SL_dis (hi : Inv0 P N w0 F0 H env a w F S) {l1 l2 : List Nat} (h : ∀ t, t ∈ l1 → t ∉ l2) : Dis (SL S l1) (SL S l2) := by
  rintro b ⟨t, ht, hb⟩ ⟨u, hu, hb'⟩
  exact hi.sd t u (fun e => h t ht (e ▸ hu)) b hb hb'

theorem fieldsE_ok (hC : CtxOK P C) (hi : Inv0 P N w0 F0 H env a w F S) {τ : Ty} {fs : List Field} (hfs : fieldsB C.tys fs 0 τ = true) {pl : List (Nat × Nat)}
    (hpl : ∀ (k : Nat) (f : Field) (σ : Ty), fs[k]? = some f → look C.tys f.type = some σ → pl[k]? = some (f.offset, σ.size)) {f : Operand → View} :
    ∀ (ps : List (Nat × Operand)) {x : τ.den} {m : Md} {l : List Nat} {cs : List Value} {x' : τ.den} {m' : Md} {l' : List Nat},
      (∀ p ∈ ps, ViewOK P F w env (fun t => a.tmps.getD t undef) S (a.eval p.2) (f p.2)) → fieldsE τ f ps x m l = some (x', m', l') → Own F w τ m (SL S l) cs x → nodupN l' = true →
      ∃ cs', Instr.fill (pl.toArray[·]?) cs.toArray (ps.map fun p => (p.1, a.eval p.2)) = some cs'.toArray ∧ Own F w τ m' (SL S l') cs' x' ∧ ∃ q, l' = l ++ q
  | [], x, m, l, cs, x', m', l', _, h, ho, _ => by
    simp only [fieldsE, Option.some.injEq, Prod.mk.injEq] at h
    obtain ⟨rfl, rfl, rfl⟩ := h
    exact ⟨cs, rfl, ho, [], by simp⟩
  | (k, z) :: ps, x, m, l, cs, x', m', l', hv, h, ho, hn => by
    have hz := hv (k, z) (by simp)
    -- one part
    have one : ∀ {σ : Ty} {y0 : σ.den} {y : σ.den} {μ : Md} {x1 : τ.den} {m1 : Md} {q1 : List Nat}, getP (fpath k) τ x = some ⟨σ, y0⟩ → setP (fpath k) τ x σ y = some x1 → setM (fpath k) τ m μ = some m1 →
        (∃ S1, Sub S1 (SL S q1) ∧ OwnV F w σ μ S1 (a.eval z) y) → fieldsE τ f ps x1 m1 (l ++ q1) = some (x', m', l') →
        ∃ cs', Instr.fill (pl.toArray[·]?) cs.toArray (((k, z) :: ps).map fun p => (p.1, a.eval p.2)) = some cs'.toArray ∧ Own F w τ m' (SL S l') cs' x' ∧ ∃ q, l' = l ++ q := by
      rintro σ y0 y μ x1 m1 q1 hg hs hm ⟨S1, k1, hy⟩ hrest
      obtain ⟨c', e1, e2, e3⟩ := hy.cells
      -- the owners used so far are others
      have hdis : Dis (SL S l) (SL S q1) := by
        by_cases hq : ∀ t, t ∈ l → t ∉ q1
        · exact SL_dis hi hq
        · exfalso
          have : ∃ q, l' = (l ++ q1) ++ q := by
            have : ∀ (ps : List (Nat × Operand)) (x : τ.den) (m : Md) (l : List Nat) (x' : τ.den) (m' : Md) (l' : List Nat), fieldsE τ f ps x m l = some (x', m', l') → ∃ q, l' = l ++ q := by
              intro ps
              induction ps with
              | nil => intro x m l x' m' l' h; simp only [fieldsE, Option.some.injEq, Prod.mk.injEq] at h; exact ⟨[], by simp [h.2.2]⟩
              | cons p ps ih =>
                obtain ⟨k, z⟩ := p
                intro x m l x' m' l' h
                simp only [fieldsE] at h
                repeat' split at h
                all_goals first
                  | (cases h; done)
                  | (obtain ⟨q, hq⟩ := ih _ _ _ _ _ _ h; exact ⟨q, hq⟩)
                  | (obtain ⟨q, hq⟩ := ih _ _ _ _ _ _ h; exact ⟨_, by rw [hq, List.append_assoc]⟩)
            exact this _ _ _ _ _ _ _ hrest
          obtain ⟨q, hq2⟩ := this
          rw [hq2] at hn
          exact hq (nodup_app (nodup_app hn).1).2.2
      obtain ⟨fl, o, g1, g2, g3, g4, g5⟩ := Own.setFld k fs 0 τ hfs hg hs hm ho (e3.mono (fun _ h => h) k1) hdis
      have hp := hpl k fl σ g1 g2
      have hlen := ho.len
      have hown2 : Own F w τ m1 (SL S (l ++ q1)) (cs.take o ++ c' ++ cs.drop (o + σ.size)) x1 := by
        refine g5.mono (fun _ h => h) ?_
        rintro b (⟨t, ht, hb⟩ | ⟨t, ht, hb⟩)
        · exact ⟨t, by simp [ht], hb⟩
        · exact ⟨t, by simp [ht], hb⟩
      obtain ⟨cs', r1, r2, q, r3⟩ := fieldsE_ok hC hi hfs hpl ps (fun p hp => hv p (by simp [hp])) hrest hown2 hn
      refine ⟨cs', ?_, r2, q1 ++ q, by rw [r3, List.append_assoc]⟩
      simp only [List.map_cons]
      rw [fill_step _ _ _ _ _ (off := o) (size := σ.size) (by rw [← Nat.zero_add o, ← g3]; simpa using hp) (by rw [e2]; simpa using e3.len) (by simpa [hlen] using g4)]
      rw [e2]
      exact r1
    simp only [fieldsE] at h
    split at h
    · rename_i σ y0 hg
      split at h
      · rename_i τ1 μ y1 he
        split at h
        · rename_i y l1 hy
          split at h
          · rename_i x1 m1 hs hm
            refine one (q1 := l1) hg hs hm ?_ h
            rcases ownAs_ok hi hz hy with ⟨rfl, hown⟩ | ⟨t, rfl, hown⟩
            · exact ⟨none', fun _ h => h.elim, hown⟩
            · exact ⟨S t, fun b hb => ⟨t, by simp, hb⟩, hown⟩
          · cases h
        · cases h
      · split at h
        · rename_i y hy
          split at h
          · rename_i x1 m1 hs hm
            refine one (q1 := []) hg hs hm ⟨none', fun _ h => h.elim, shrAs_ok hi hz hy⟩ (by rw [List.append_nil]; exact h)
          · cases h
        · cases h
    · cases h

theorem Own.allShr {F : NSet} {w : World} : ∀ {τ : Ty} {m : Md} {S : NSet} {cs : List Value} {x : τ.den}, Go.Lf.allShr τ m = true → Own F w τ m S cs x → Own F w τ .shr none' cs x
  | .int _, _, _, _, _, _, h => by simpa [Own] using h
  | .bool, _, _, _, _, _, h => by simpa [Own] using h
  | .str, _, _, _, _, _, h => by simpa [Own] using h
  | .unit, _, _, _, _, _, h => by simpa [Own] using h
  | .prod a b, m, S, cs, x, hm, h => by
    obtain ⟨c1, c2, S1, S2, rfl, _, _, _, h1, h2⟩ := h
    simp only [Go.Lf.allShr, Bool.and_eq_true] at hm
    exact ⟨c1, c2, none', none', rfl, fun _ h => h.elim, fun _ h => h.elim, fun _ h => h.elim, Own.allShr (τ := a) hm.1 h1, Own.allShr (τ := b) hm.2 h2⟩
  | .slice e, m, S, cs, xs, hm, h => by
    cases m with
    | shr => exact Own.shr h
    | own _ => simp [Go.Lf.allShr, shrM] at hm
    | pair _ _ => simp [Go.Lf.allShr, shrM] at hm
  | .arr n e, m, S, cs, xs, hm, h => by
    obtain ⟨hn, hc, Si, s, d, he⟩ := h
    exact ⟨hn, hc, fun _ => none', fun _ _ h => h.elim, fun _ _ _ _ h => h.elim, fun i x hx => Own.allShr (τ := e) (by simpa [Go.Lf.allShr] using hm) (he i x hx)⟩

theorem buildE_ok (hC : CtxOK P C) (hi : Inv0 P N w0 F0 H env a w F S) (hd : Wr N d) {T : TypeId} {parts : Array (Nat × Operand)} {o : Oper} (ho : o.op = .build T parts) {f : Operand → View}
    (hf : ∀ z ∈ o.op.operands, ViewOK P F w env (fun t => a.tmps.getD t undef) S (a.eval z) (f z))
    {c : Prop} {e : Ent} {l : List Nat} (h : buildE C d T parts.toList f = some (c, e, l)) (hc : c) : NewOK P N w0 F0 H env a w d (execOp a.eval o) e l := by
  unfold buildE at h
  split at h
  · rename_i τ hT
    cases hp : isProd τ
    · rw [hp] at h; cases h
    rw [hp] at h
    simp only [cond_true] at h
    split at h
    · rename_i x m l' hfe
      cases hn : nodupN l'
      · rw [hn] at h; cases h
      rw [hn] at h
      simp only [cond_true, Option.some.injEq, Prod.mk.injEq] at h
      obtain ⟨rfl, rfl, rfl⟩ := h
      obtain ⟨i, dd, q1, q2, q3, q4, q5, q6⟩ := hC.types T _ hT
      obtain ⟨A, B, rfl⟩ : ∃ A B, τ = .prod A B := by cases τ <;> first | exact ⟨_, _, rfl⟩ | cases hp
      cases dd <;> simp only [descB, Bool.false_eq_true] at q6
      rename_i fs
      obtain ⟨pl, p1, p2⟩ := places_of hC fs.toList 0 (.prod A B) q6
      have hz := Own.zero F w (.prod A B) (hintM C d (dftM (.prod A B))) (SL S [])
      have hzc := slotv_cells hz.len hz.one
      obtain ⟨cs', r1, r2, _⟩ := fieldsE_ok hC hi q6 p2 parts.toList (fun p hp => hf p.2 (by
        rw [ho]; simp only [Op.operands]
        simp only [List.mem_toArray, List.mem_map]
        exact ⟨p, hp, rfl⟩)) hfe hz hn
      obtain ⟨S2, d1, d2, d3⟩ := Inv0.dropAll l' hi
      have hrun : (Instr.build T (parts.map fun p => (p.1, a.eval p.2))).run P w = .ok (.agg cs'.toArray) w := by
        apply run_build
        unfold Program.built
        rw [q1, q2]
        simp only [q5, p1, hzc, Array.toList_map]
        exact r1
      have hv : OwnV F w (.prod A B) m (SL S l') (.agg cs'.toArray) x := ⟨cs', rfl, r2⟩
      have hrun2 : (execOp a.eval o).run P w = .ok (.value (.agg cs'.toArray)) w := by
        simp only [execOp, ho]
        rw [Sem.run_bind, hrun]; rfl
      unfold mkS
      cases hs : allShr (.prod A B) m
      · simp only [cond_false]
        obtain ⟨F2, S3, h5⟩ := d1.putNew (C := C) hd (RowKit.Below.refl _ _) (fun _ h => h) hi.fb (fun b h1 h2 => absurd h1 h2) (SL_drop d2 d3 hi) hv
        exact ⟨_, _, F2, S3, hrun2, h5⟩
      · simp only [cond_true]
        refine ⟨_, _, F, _, hrun2, d1.putSimple hd rfl (by simp [Ent.root]) ?_⟩
        exact .mk_shr ⟨cs', rfl, Own.allShr hs r2⟩
    · cases h
  · cases h

theorem arrE_ok (hi : Inv0 P N w0 F0 H env a w F S) {n : Nat} {e : Ty} {f : Operand → View} : ∀ (ps : List (Nat × Operand)) {xs xs' : List e.den} {cs : List Value},
    (∀ p ∈ ps, ViewOK P F w env (fun t => a.tmps.getD t undef) S (a.eval p.2) (f p.2)) → arrE n e f ps xs = some xs' → Own F w (.arr n e) .shr none' cs xs →
    ∃ cs', Instr.fill (fun i => some (i * e.size, e.size)) cs.toArray (ps.map fun p => (p.1, a.eval p.2)) = some cs'.toArray ∧ Own F w (.arr n e) .shr none' cs' xs'
  | [], xs, xs', cs, _, h, ho => by
    simp only [arrE, Option.some.injEq] at h; subst h
    exact ⟨cs, rfl, ho⟩
  | (k, z) :: ps, xs, xs', cs, hv, h, ho => by
    simp only [arrE] at h
    split at h
    · rename_i y hy
      cases hk : Nat.blt k n
      · rw [hk] at h; cases h
      rw [hk] at h
      simp only [cond_true] at h
      have hkn : k + 1 ≤ n := Nat.le_of_ble_eq_true hk
      obtain ⟨c', e1, e2, e3⟩ := (shrAs_ok hi (hv (k, z) (by simp)) hy).cells
      obtain ⟨h1, h2, Si, s, dd, he⟩ := ho
      have hle : (k + 1) * e.size ≤ n * e.size := Nat.mul_le_mul_right _ (by omega)
      rw [Nat.add_mul, Nat.one_mul] at hle
      have l3 := e3.len
      have hown2 : Own F w (.arr n e) .shr none' (cs.take (k * e.size) ++ c' ++ cs.drop (k * e.size + e.size)) (xs.set k y) := by
        refine ⟨by simpa using h1, by simp; omega, Si, s, dd, ?_⟩
        intro i x hx
        by_cases hik : i = k
        · subst hik
          rw [List.getElem?_set_self (by omega)] at hx
          injection hx with hx; subst hx
          rw [seg_upd_in _ _ _ _ l3 (by omega)]
          exact Own.shr e3
        · rw [List.getElem?_set_ne (Ne.symm hik)] at hx
          have hin : i < xs.length := by
            rcases Nat.lt_or_ge i xs.length with h | h
            · exact h
            · rw [List.getElem?_eq_none h] at hx; cases hx
          have hle2 : (i + 1) * e.size ≤ n * e.size := Nat.mul_le_mul_right _ (by omega)
          rw [Nat.add_mul, Nat.one_mul] at hle2
          rw [seg_upd_out _ _ _ _ l3 (by omega) _ _ (by omega) (by
            rcases Nat.lt_or_gt_of_ne hik with h | h
            · have : (i + 1) * e.size ≤ k * e.size := Nat.mul_le_mul_right _ (by omega)
              rw [Nat.add_mul, Nat.one_mul] at this; omega
            · have : (k + 1) * e.size ≤ i * e.size := Nat.mul_le_mul_right _ (by omega)
              rw [Nat.add_mul, Nat.one_mul] at this; omega)]
          exact he i x hx
      obtain ⟨cs', r1, r2⟩ := arrE_ok hi ps (fun p hp => hv p (by simp [hp])) h hown2
      refine ⟨cs', ?_, r2⟩
      simp only [List.map_cons]
      rw [fill_step _ _ _ _ _ (off := k * e.size) (size := e.size) rfl (by rw [e2]; simpa using l3) (by simp; omega), e2]
      exact r1
    · cases h

theorem buildAE_ok (hC : CtxOK P C) (hi : Inv0 P N w0 F0 H env a w F S) (hd : Wr N d) {T : TypeId} {parts : Array (Nat × Operand)} {o : Oper} (ho : o.op = .build T parts) {f : Operand → View}
    (hf : ∀ z ∈ o.op.operands, ViewOK P F w env (fun t => a.tmps.getD t undef) S (a.eval z) (f z))
    {c : Prop} {e : Ent} {l : List Nat} (h : buildAE C d T parts.toList f = some (c, e, l)) (hc : c) : NewOK P N w0 F0 H env a w d (execOp a.eval o) e l := by
  unfold buildAE at h
  split at h
  · rename_i n e' hT
    cases hfl : e'.flat
    · rw [hfl] at h; cases h
    rw [hfl] at h
    simp only [cond_true] at h
    split at h
    · rename_i xs hxs
      simp only [Option.some.injEq, Prod.mk.injEq] at h
      obtain ⟨rfl, rfl, rfl⟩ := h
      obtain ⟨i, dd, q1, q2, q3, q4, q5, q6⟩ := hC.types T _ hT
      obtain ⟨E, t1, t2, t3⟩ := (hC.types T _ hT).arr
      obtain ⟨ie, de, u1, u2, u3, u4, u5, u6⟩ := hC.types E _ t2
      have hz := Own.zero F w (.arr n e') .shr none'
      have hzc := slotv_cells hz.len hz.one
      obtain ⟨cs', r1, r2⟩ := arrE_ok hi parts.toList (fun p hp => hf p.2 (by
        rw [ho]; simp only [Op.operands]
        simp only [List.mem_toArray, List.mem_map]
        exact ⟨p, hp, rfl⟩)) hxs hz
      have hrun : (Instr.build T (parts.map fun p => (p.1, a.eval p.2))).run P w = .ok (.agg cs'.toArray) w := by
        apply run_build
        unfold Program.built
        rw [q1, t1]
        simp only [q5, u1, hzc, Array.toList_map, u3]
        exact r1
      refine ⟨.agg cs'.toArray, w, F, _, ?_, hi.putSimple hd rfl (by simp [Ent.root]) ?_⟩
      · simp only [execOp, ho]
        rw [Sem.run_bind, hrun]; rfl
      · exact .mk_shr ⟨cs', rfl, r2⟩
    · cases h
  · exact buildE_ok hC hi hd ho hf h hc

end
end Go.Lf
namespace Go.Lf

/-- What is appended, and the owner that it is taken from. -/
def srcE (e : Ty) (me : Md) (v : View) : Option (List e.den × List Nat) :=
  match v.e, v.s with
  | .nilS, _ => some ([], [])
  | .own (.slice e') (.own m') xs, some t =>
    bif decide (m' = me) && !e.flat && !shrM me then (castD (τ := .slice e') (σ := .slice e) xs).map fun ys => (ys, [t])
    else bif e.flat || (shrM me && shrM m') then (castD (τ := .slice e') (σ := .slice e) xs).map fun ys => (ys, []) else none
  | .shr (.slice e') xs, _ => bif e.flat || shrM me then (castD (τ := .slice e') (σ := .slice e) xs).map fun ys => (ys, []) else none
  | .full e' xs, _ => bif e.flat || shrM me then (castD (τ := .slice e') (σ := .slice e) xs).map fun ys => (ys, []) else none
  | _, _ => bif e.flat then (match v.val with
    | some ⟨.slice e', xs⟩ => (castD (τ := .slice e') (σ := .slice e) xs).map fun ys => (ys, [])
    | _ => none) else (match v.sub? with
    | some l => match getP l.p l.τ l.x, getM l.p l.τ l.m with
      | some ⟨.slice e', xs⟩, some (.own m') => bif shrM m' && shrM me then (castD (τ := .slice e') (σ := .slice e) xs).map fun ys => (ys, []) else none
      | _, _ => none
    | none => none)

section
variable {P : Program} {C : Ctx} {N : NP} {w0 : World} {F0 H : NSet} {env : St} {a : Act} {w : World} {F : NSet} {S : Nat → NSet} {d : Nat}

/-- The cells of a slice, as append reads them. -/
structure RowOf (P : Program) (G Sx F : NSet) (w : World) (e : Ty) (me : Md) (v : Value) (n cap : Nat) (ao : Option Addr) (xs : List e.den) (cs : List Value) (Si : Nat → NSet) : Prop where
  val : v = .slice ao n cap
  len : n = xs.length
  le : n ≤ cap
  lim : n ≤ Go.Lf.lim
  csl : cs.length = n * e.size
  read : ∀ w' : World, (∀ b, G b → w'.heap[b]? = w.heap[b]?) → (Builtin.firstCells e.size n v).run P w' = .ok cs.toArray w'
  sub : ∀ i, Sub (Si i) Sx
  dis : ∀ i j, i ≠ j → Dis (Si i) (Si j)
  own : ∀ i x, xs[i]? = some x → Own F w e me (Si i) (seg cs (i * e.size) e.size) x

theorem firstCells_row {size n : Nat} {b off cap : Nat} {row : Array Value} {T : TypeId} {fr : Nat × Nat} {w' : World} (hr : w'.heap[b]? = some (.cells row T fr)) (ho : off + n * size ≤ row.size) :
    (Builtin.firstCells size n (.slice (some ⟨b, off, none⟩) n cap)).run P w' = .ok (seg row.toList off (n * size)).toArray w' := by
  have hl : (seg row.toList off (n * size)).length = n * size := seg_len _ _ _ (by simpa using ho)
  have := run_loadCells_list (P := P) w' ⟨b, off, none⟩ (seg row.toList off (n * size)) (by
    intro j v hv
    rw [add_mk]
    simp only [World.cell?, hr]
    simp only [seg, List.getElem?_take, List.getElem?_drop] at hv
    split at hv
    · simpa using hv
    · cases hv)
  rw [hl] at this
  simp [Builtin.firstCells, this]

theorem RowOf.of_shr {e : Ty} {G : NSet} {v : Value} {xs : List e.den} (h : OwnV G w (.slice e) .shr none' v xs) : ∃ ao n cap cs, RowOf P G none' G w e .shr v n cap ao xs cs (fun _ => none') := by
  obtain ⟨c0, rfl, ao, cap, rfl, h1, h2, h3⟩ := h
  refine ⟨ao, xs.length, cap, ?_⟩
  rcases h3 with h3 | ⟨b, off, row, T, fr, rfl, hb, hr, ho, he⟩
  · subst h3
    refine ⟨[], rfl, rfl, h1, h2, by simp, fun w' _ => ?_, fun _ _ h => h.elim, fun _ _ _ _ h => h.elim, fun i x hx => by simp at hx⟩
    cases ao <;> simp [slotv, Ty.isAgg, Builtin.firstCells, loadCells, loadCellsFrom]
  · refine ⟨seg row.toList off (xs.length * e.size), rfl, rfl, h1, h2, seg_len _ _ _ (by simpa using ho), fun w' hw => ?_, fun _ _ h => h.elim, fun _ _ _ _ h => h.elim, fun i x hx => ?_⟩
    · exact firstCells_row ((hw b hb).trans hr) ho
    · have hi : i < xs.length := by
        rcases Nat.lt_or_ge i xs.length with h | h
        · exact h
        · rw [List.getElem?_eq_none h] at hx; cases hx
      have hle : (i + 1) * e.size ≤ xs.length * e.size := Nat.mul_le_mul_right _ (by omega)
      rw [Nat.add_mul, Nat.one_mul] at hle
      rw [seg_seg _ _ _ _ _ hle]
      exact he i x hx

theorem RowOf.of_own {e : Ty} {me : Md} {Sx : NSet} {v : Value} {xs : List e.den} (h : OwnV F w (.slice e) (.own me) Sx v xs) :
    ∃ ao n cap cs Si, RowOf P Sx Sx F w e me v n cap ao xs cs Si ∧ ((ao = none ∧ cap = 0) ∨ ∃ b off row T, ao = some ⟨b, off, none⟩ ∧ Sx b ∧ w.heap[b]? = some (.cells row T (0, 0)) ∧
      off + cap * e.size ≤ row.size ∧ cs = seg row.toList off (n * e.size) ∧ ∀ i, ¬ Si i b) := by
  obtain ⟨c0, rfl, ao, cap, rfl, h1, h2, h3⟩ := h
  refine ⟨ao, xs.length, cap, ?_⟩
  rcases h3 with ⟨rfl, h3⟩ | ⟨b, off, row, T, Si, rfl, hb, hr, ho, s, nb, dd, he⟩
  · have hnil : xs = [] := List.eq_nil_of_length_eq_zero (by omega)
    subst hnil
    refine ⟨[], fun _ => none', ⟨rfl, rfl, h1, h2, by simp, fun w' _ => ?_, fun _ _ h => h.elim, fun _ _ _ _ h => h.elim, fun i x hx => by simp at hx⟩, .inl ⟨rfl, h3⟩⟩
    simp [slotv, Ty.isAgg, Builtin.firstCells]
  · have hle0 := Nat.mul_le_mul_right e.size h1
    refine ⟨seg row.toList off (xs.length * e.size), Si, ⟨rfl, rfl, h1, h2, seg_len _ _ _ (by simp; omega), fun w' hw => ?_, s, dd, fun i x hx => ?_⟩, .inr ⟨b, off, row, T, rfl, hb, hr, ho, rfl, nb⟩⟩
    · exact firstCells_row ((hw b hb).trans hr) (by omega)
    · have hi : i < xs.length := by
        rcases Nat.lt_or_ge i xs.length with h | h
        · exact h
        · rw [List.getElem?_eq_none h] at hx; cases hx
      have hle : (i + 1) * e.size ≤ xs.length * e.size := Nat.mul_le_mul_right _ (by omega)
      rw [Nat.add_mul, Nat.one_mul] at hle
      rw [seg_seg _ _ _ _ _ hle]
      exact he i x hx

theorem RowOf.all_one {G Sx : NSet} {e : Ty} {me : Md} {v : Value} {n cap : Nat} {ao : Option Addr} {xs : List e.den} {cs : List Value} {Si : Nat → NSet}
    (h : RowOf P G Sx F w e me v n cap ao xs cs Si) : ∀ u ∈ cs, u.oneCell' = true := by
  intro u hu
  obtain ⟨j, hj, rfl⟩ := List.mem_iff_getElem.1 hu
  have hc := h.csl
  rw [hc] at hj
  have hs : 0 < e.size := by
    rcases Nat.eq_zero_or_pos e.size with h | h
    · rw [h] at hj; omega
    · exact h
  have hi : j / e.size < n := by rw [Nat.div_lt_iff_lt_mul hs]; exact hj
  have hx := h.own (j / e.size) _ (List.getElem?_eq_getElem (by rw [← h.len]; exact hi))
  refine hx.one _ ?_
  have hlen := hx.len
  refine List.mem_iff_getElem.2 ⟨j % e.size, by rw [hlen]; exact Nat.mod_lt _ hs, ?_⟩
  simp only [seg, List.getElem_take, List.getElem_drop]
  congr 1
  rw [Nat.mul_comm]; exact Nat.div_add_mod j e.size

theorem castD_slice {e' e : Ty} {xs : List e'.den} {ys : List e.den} (h : castD (τ := .slice e') (σ := .slice e) xs = some ys) : ∃ q : e' = e, ys = q ▸ xs := by
  have := castD_some h
  injection this with e1 e2
  injection e1 with e1
  subst e1; cases e2
  exact ⟨rfl, rfl⟩

/-- The cells of what is appended: G is where they lie. -/
theorem srcE_ok (hi : Inv0 P N w0 F0 H env a w F S) {v : Value} {vw : View} (hv : ViewOK P F w env (fun t => a.tmps.getD t undef) S v vw) {e : Ty} {me : Md} {ys : List e.den} {l : List Nat} (h : srcE e me vw = some (ys, l)) :
    ∃ ao n cap cs Si me', RowOf P (FA F S) (SL S l) F w e me' v n cap ao ys cs Si ∧ (e.flat = true ∨ me' = me) := by
  -- out of shared cells
  have shr : ∀ {me : Md}, OwnV F w (.slice e) .shr none' v ys → ∃ ao n cap cs Si me', RowOf P (FA F S) (SL S []) F w e me' v n cap ao ys cs Si ∧ me' = .shr := by
    intro me h
    obtain ⟨ao, n, cap, cs, q⟩ := RowOf.of_shr (P := P) h
    exact ⟨ao, n, cap, cs, fun _ => none', .shr, ⟨q.val, q.len, q.le, q.lim, q.csl, fun w' hw => q.read w' (fun b hb => hw b (.inl hb)), fun _ _ h => h.elim, q.dis, q.own⟩, rfl⟩
  have flat : e.flat = true → OwnV (FA F S) w (.slice e) .shr none' v ys → ∃ ao n cap cs Si me', RowOf P (FA F S) (SL S []) F w e me' v n cap ao ys cs Si ∧ (e.flat = true ∨ me' = me) := by
    intro hf h
    obtain ⟨ao, n, cap, cs, q⟩ := RowOf.of_shr (P := P) h
    exact ⟨ao, n, cap, cs, fun _ => none', .shr, ⟨q.val, q.len, q.le, q.lim, q.csl, q.read, fun _ _ h => h.elim, q.dis, fun i x hx => Own.flat hf (q.own i x hx)⟩, .inl hf⟩
  unfold srcE at h
  split at h
  · rename_i _ he
    simp only [Option.some.injEq, Prod.mk.injEq] at h
    obtain ⟨rfl, rfl⟩ := h
    have hsh := hv.ent (by rw [he]; rfl) 0 (by rw [he]; simp [Ent.root])
    rw [he] at hsh
    simp only [EntOK, if_true] at hsh
    subst hsh
    exact ⟨none, 0, 0, [], fun _ => none', me, ⟨rfl, rfl, Nat.le_refl _, by simp [lim], by simp, fun w' _ => by simp [Builtin.firstCells], fun _ _ h => h.elim, fun _ _ _ _ h => h.elim, fun i x hx => by simp at hx⟩, .inr rfl⟩
  · rename_i e' m' xs t he hs
    obtain ⟨t', g1, g2, rfl⟩ := hv.own (by rw [he]; rfl)
    rw [hs] at g1; injection g1 with g1; subst g1
    have h3 := hi.ent t
    rw [g2, he] at h3
    obtain ⟨pl, S0, cs, h3⟩ := h3
    obtain ⟨_, _, e3, e4, e5⟩ := h3.own_inj
    subst e4
    have hO : OwnV F w (.slice e') (.own m') (S t) (a.tmps.getD t undef) xs := ⟨cs, e5, h3.2.2⟩
    cases hk : (decide (m' = me) && !e.flat && !shrM me)
    · rw [hk] at h
      simp only [cond_false] at h
      cases hk2 : (e.flat || (shrM me && shrM m'))
      · rw [hk2] at h; cases h
      rw [hk2] at h
      simp only [cond_true, Option.map_eq_some_iff, Prod.mk.injEq] at h
      obtain ⟨zs, h1, rfl, rfl⟩ := h
      obtain ⟨rfl, rfl⟩ := castD_slice h1
      obtain ⟨ao, n, cap, cs', Si, q, _⟩ := RowOf.of_own (P := P) hO
      cases hf : e'.flat
      · simp only [hf, Bool.false_or, Bool.and_eq_true] at hk2
        have e1 : me = .shr := by cases me <;> first | rfl | cases hk2.1
        have e2 : m' = .shr := by cases m' <;> first | rfl | cases hk2.2
        subst e1; subst e2
        exact ⟨ao, n, cap, cs', fun _ => none', .shr, ⟨q.val, q.len, q.le, q.lim, q.csl, fun w' hw => q.read w' (fun b hb => hw b (.inr ⟨t, hb⟩)), fun _ _ h => h.elim, fun _ _ _ _ h => h.elim, fun i x hx => Own.shr (q.own i x hx)⟩, .inr rfl⟩
      · exact ⟨ao, n, cap, cs', fun _ => none', m', ⟨q.val, q.len, q.le, q.lim, q.csl, fun w' hw => q.read w' (fun b hb => hw b (.inr ⟨t, hb⟩)), fun _ _ h => h.elim, fun _ _ _ _ h => h.elim, fun i x hx => Own.flat hf (q.own i x hx)⟩, .inl rfl⟩
    · rw [hk] at h
      simp only [cond_true, Option.map_eq_some_iff, Prod.mk.injEq] at h
      obtain ⟨zs, h1, rfl, rfl⟩ := h
      obtain ⟨rfl, rfl⟩ := castD_slice h1
      simp only [Bool.and_eq_true, decide_eq_true_eq] at hk
      obtain ⟨⟨rfl, _⟩, _⟩ := hk
      obtain ⟨ao, n, cap, cs', Si, q, _⟩ := RowOf.of_own (P := P) hO
      exact ⟨ao, n, cap, cs', Si, m', ⟨q.val, q.len, q.le, q.lim, q.csl, fun w' hw => q.read w' (fun b hb => hw b (.inr ⟨t, hb⟩)), fun i b hb => ⟨t, by simp, q.sub i b hb⟩, q.dis, q.own⟩, .inr rfl⟩
  · rename_i e' xs _ he
    cases hk : (e.flat || shrM me)
    · rw [hk] at h; cases h
    rw [hk] at h
    simp only [cond_true, Option.map_eq_some_iff, Prod.mk.injEq] at h
    obtain ⟨zs, h1, rfl, rfl⟩ := h
    obtain ⟨rfl, rfl⟩ := castD_slice h1
    have hsh := hv.ent (by rw [he]; rfl) 0 (by rw [he]; simp [Ent.root])
    rw [he] at hsh
    simp only [EntOK, if_true] at hsh
    obtain ⟨ao, n, cap, cs, Si, me', q, q2⟩ := shr (me := me) hsh
    refine ⟨ao, n, cap, cs, Si, me', q, ?_⟩
    simp only [Bool.or_eq_true] at hk
    rcases hk with hk | hk
    · exact .inl hk
    · right; rw [q2]; cases me <;> first | rfl | cases hk
  · rename_i e' xs _ he
    cases hk : (e.flat || shrM me)
    · rw [hk] at h; cases h
    rw [hk] at h
    simp only [cond_true, Option.map_eq_some_iff, Prod.mk.injEq] at h
    obtain ⟨zs, h1, rfl, rfl⟩ := h
    obtain ⟨rfl, rfl⟩ := castD_slice h1
    have hsh := hv.ent (by rw [he]; rfl) 0 (by rw [he]; simp [Ent.root])
    rw [he] at hsh
    simp only [EntOK, if_true] at hsh
    obtain ⟨_, _, hsh⟩ := hsh
    obtain ⟨ao, n, cap, cs, Si, me', q, q2⟩ := shr (me := me) hsh
    refine ⟨ao, n, cap, cs, Si, me', q, ?_⟩
    simp only [Bool.or_eq_true] at hk
    rcases hk with hk | hk
    · exact .inl hk
    · right; rw [q2]; cases me <;> first | rfl | cases hk
  · cases hf : e.flat
    · rw [hf] at h
      simp only [cond_false] at h
      split at h
      · rename_i al hal
        obtain ⟨σ, z, μ, pl, S0, cs, pl', cs', hA, hrd, hva⟩ := sub?_ok hi hv hal
        split at h
        · rename_i e' xs m' hg hm
          cases hk : (shrM m' && shrM me)
          · rw [hk] at h; cases h
          rw [hk] at h
          simp only [cond_true, Option.map_eq_some_iff, Prod.mk.injEq] at h
          obtain ⟨zs, h1, rfl, rfl⟩ := h
          obtain ⟨rfl, rfl⟩ := castD_slice h1
          simp only [Bool.and_eq_true] at hk
          have e1 : me = .shr := by cases me <;> first | rfl | cases hk.2
          have e2 : m' = .shr := by cases m' <;> first | rfl | cases hk.1
          subst e1; subst e2
          have e3 := hA.get.symm.trans hg
          simp only [Option.some.injEq, Sigma.mk.injEq] at e3
          obtain ⟨rfl, e3⟩ := e3; cases e3
          have e4 := hA.mode.symm.trans hm
          simp only [Option.some.injEq] at e4; subst e4
          obtain ⟨cs2, S2, fo⟩ := hA.focus (fun b hb => (hi.sb _ b hb).2.2)
          have e5 := fo.ok.read.symm.trans hrd
          simp only [Option.some.injEq] at e5; subst e5
          have hO3 : OwnV F w _ (.own .shr) S2 v _ := ⟨cs2, hva, fo.own⟩
          obtain ⟨ao, n, cap, cs3, Si, q, _⟩ := RowOf.of_own (P := P) hO3
          exact ⟨ao, n, cap, cs3, fun _ => none', .shr, ⟨q.val, q.len, q.le, q.lim, q.csl, fun w' hw => q.read w' (fun b hb => hw b (.inr ⟨al.r, hA.root.sub b (fo.sub b hb)⟩)), fun _ _ h => h.elim, fun _ _ _ _ h => h.elim, fun i x hx => Own.shr (q.own i x hx)⟩, .inr rfl⟩
        · cases h
      · cases h
    · rw [hf] at h
      simp only [cond_true] at h
      split at h
      · rename_i e' xs hval
        simp only [Option.map_eq_some_iff, Prod.mk.injEq] at h
        obtain ⟨zs, h1, rfl, rfl⟩ := h
        obtain ⟨rfl, rfl⟩ := castD_slice h1
        obtain ⟨ao, n, cap, cs, Si, me', q, q2⟩ := flat hf (View.val_ok hi hv hval)
        exact ⟨ao, n, cap, cs, Si, me', q, .inl rfl⟩
      · cases h

def appFit (P : Program) (w : World) (ao : Option Addr) (k : Nat) (news : List Value) (v : Value) : Result Value :=
  match ao with
  | some b => ((storeCells (b.add k) news).run P w).andThen fun _ w' => .ok v w'
  | none => .ok v w

/-- The run of append: within the capacity, or in a new block. -/
theorem run_append_gen (hC : CtxOK P C) {T T2 ty : TypeId} {e e2 : Ty} (hT : look C.tys T = some (.slice e)) (hT2 : look C.tys T2 = some (.slice e2)) {ao : Option Addr} {sLen sCap : Nat} {olds : List Value} {ax : Option Addr} {n cx : Nat} {news : List Value}
    (hold : ∀ w' : World, w'.heap = w.heap → (Builtin.firstCells e.size sLen (.slice ao sLen sCap)).run P w' = .ok olds.toArray w')
    (hnew : ∀ w' : World, w'.heap = w.heap → (Builtin.firstCells e.size n (.slice ax n cx)).run P w' = .ok news.toArray w')
    (hb : ((sLen + n : Nat) : Int) ≤ maxNew) :
    (sLen + n ≤ sCap → (Builtin.append_ #[T, T2] ty #[.slice ao sLen sCap, .slice ax n cx]).run P w = appFit P w ao (sLen * e.size) news (.slice ao (sLen + n) sCap)) ∧
    (sCap < sLen + n → ∃ cap zs E, sLen + n ≤ cap ∧ zs.length = (cap - (sLen + n)) * e.size ∧ (Builtin.append_ #[T, T2] ty #[.slice ao sLen sCap, .slice ax n cx]).run P w =
      .ok (.slice (some ⟨w.heap.size, 0, none⟩) (sLen + n) cap) (w.drew.alloc (.cells (olds ++ news ++ zs).toArray E))) := by
  obtain ⟨E, t1, t2, t3⟩ := (hC.types T _ hT).slice
  obtain ⟨E2, t1', t2', t3'⟩ := (hC.types T2 _ hT2).slice
  obtain ⟨i, dd, q1, q2, q3, q4, q5, q6⟩ := hC.types E _ t2
  have hz := Own.zero none' w e .shr none'
  have hzc := slotv_cells hz.len hz.one
  have hn := hnew w rfl
  unfold maxNew at hb
  have h63 : ¬ (IntKind.i64.max < ((sLen + n : Nat) : Int)) := by
    have : IntKind.i64.max = 9223372036854775807 := by decide
    omega
  refine ⟨fun hfit => ?_, fun hgrow => ?_⟩
  · simp only [Builtin.append_, List.getElem?_toArray, List.getElem?_cons_zero, List.getElem?_cons_succ]
    simp only [Sem.run_bind, run_underlying t1, run_underlying t1', Result.andThen, sizeOf, typeInfo, run_program, q1, Sem.run_pure, Builtin.lenOf, hfit, if_true, if_false, q3, hn, Bool.false_eq_true, not_false_eq_true, Bool.not_false]
    cases ao with
    | none => simp [appFit]
    | some b =>
      simp only [Sem.run_bind, Result.andThen, appFit]
      cases hst : (storeCells (b.add (sLen * e.size)) news).run P w <;> simp [Result.andThen, hst]
  · have h48 : ¬ (2 ^ 48 < Builtin.nextslicecap (sLen + n) sCap * i.bytes) := by
      have h1 := nextslicecap_le hgrow
      have h2 : Builtin.nextslicecap (sLen + n) sCap * i.bytes ≤ (2 * (sLen + n)) * 65536 := Nat.mul_le_mul h1 q4
      omega
    have hn2 := hnew w.drew rfl
    have ho2 := hold w.drew rfl
    have hcut : sLen + n ≤ grownCap w (sLen + n) sCap E := by simp [grownCap, Question.cut]
    refine ⟨grownCap w (sLen + n) sCap E, (Builtin.zeroCells e.zero.toArray (grownCap w (sLen + n) sCap E - (sLen + n))).toList, E, hcut, by simp [Builtin.zeroCells, hz.len], ?_⟩
    have hng : ¬ (sLen + n ≤ sCap) := by omega
    simp only [Builtin.append_, List.getElem?_toArray, List.getElem?_cons_zero, List.getElem?_cons_succ]
    simp only [Sem.run_bind, run_underlying t1, run_underlying t1', Result.andThen, sizeOf, typeInfo, run_program, q1, Sem.run_pure, Builtin.lenOf, hng, if_false, q3, gt_iff_lt, h63, false_and, h48,
      run_choose, Question.forced, Bool.false_eq_true, run_askRoom, World.drew_eq, Bool.not_false, if_true, not_false_eq_true]
    simp only [ho2, hn2, Result.andThen, zeroValue, typeInfo, Sem.run_bind, run_program, q1, q5, Sem.run_pure, newRow, run_newObj, hzc]
    simp [grownCap]
    show w.drew.alloc _ = w.drew.alloc _
    congr 2
    apply Array.ext'
    simp

end
end Go.Lf
