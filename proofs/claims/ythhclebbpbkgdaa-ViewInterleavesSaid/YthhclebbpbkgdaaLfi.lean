/- Calls of functions that are known at a nil slice and a number alone. The library's Concat and Repeat: what they compute. A slice is put into another one, both being their caller's own: by value. The machine of views: outcomes, the search for all of them: what is computed. The machine of views: valid tests, the state at first. Operations one by one: for bodies that are walked by hand. A closure that captures the variable that it is put into: how it comes to be. A body that makes a closure which captures its own variable: from its proposition to its contract. All outcomes: what is computed. The examples: what is computed. Tests out of bytes, whether a test is valid: the reference: what is computed. ViewRefuses: what is computed. ViewRefuses: what is computed. Written by gen.py: what is left to show of each function. Plain facts about lists, places, numbers: free of any seat. The machine of views, its reference: the small functions compute what they should. The reference of the machine of views: comparisons and lists of outcomes are as they should be. The machine of views, its reference: plain facts about choices and steps. Written by gen.py: what is left to show of each function. -/
import Derived.Test.YthhclebbpbkgdaaLfh
set_option linter.unusedVariables false
set_option linter.unusedSimpArgs false
namespace Go.Lf

/-- What a function answers at nil and a number: an empty slice of its caller's own. -/
def NilOK (P : Program) (G : List (FuncId × Ty)) : Prop := ∀ f e, look G f = some e → FnDef P f ∧ ∀ (w : World) (F : NSet) (n : Int), (∀ b, F b → b < w.heap.size) → 0 ≤ n → n ≤ 1000000 →
  Calls P f #[.slice none 0 0, .int .i64 n] w (Post F w false (.slice e) (.own .shr) ([] : List e.den))

def growC (G : List (FuncId × Ty)) (C : Ctx) (st : St) (o : Oper) (q : Call) : Option (Prop × St) :=
  match q.callee, q.args.toList, o.dst with
  | .value (.func f), [.const (.slice none 0 0), y], some d => (match look G f, (viewO st y).e with
    | some e, .shr (.int .i64) n => bif wrB C d then some (0 ≤ n ∧ n ≤ 1000000, put st d (mkR C d false (.slice e) (.own .shr) ([] : List e.den))) else none
    | _, _ => none)
  | _, _, _ => none
def stpT (G : List (FuncId × Ty)) (C : Ctx) (st : St) (o : Oper) : Option (Prop × St) := match o.op with
  | .call q => (match growC G C st o q with
    | some r => some r
    | none => stpS C st o)
  | _ => stpS C st o

section
variable {P : Program} {C : Ctx} {w0 : World} {F0 H : NSet} {env : St} {a : Act} {w : World} {F : NSet} {S : Nat → NSet}
theorem growC_ok {G : List (FuncId × Ty)} (hG : NilOK P G) (hC : CtxOK P C) (hi : Inv0 P C.np w0 F0 H env a w F S) {q : Call} {o : Oper} (ho : o.op = .call q) {c : Prop} {env' : St} (h : growC G C env o q = some (c, env')) (hc : c)
    {K : Act → World → Prop} {Q : Exit → Act → World → Prop} (hK : ∀ a' w', Inv P C.np w0 F0 H env' a' w' → K a' w') : o.wp P a w K Q := by
  unfold growC at h
  split at h
  · rename_i f y d hcal hargs hod
    split at h
    · rename_i e n hl hy
      cases hd : wrB C d
      · rw [hd] at h; cases h
      rw [hd] at h
      simp only [cond_true, Option.some.injEq, Prod.mk.injEq] at h
      obtain ⟨rfl, rfl⟩ := h
      obtain ⟨k1, k2⟩ := hG f e hl
      have hyv := viewO_ok hi y
      have hn : a.eval y = .int .i64 n := by
        have := hyv.ent (by rw [hy]; rfl) 0 (by rw [hy]; simp [Ent.root])
        rw [hy] at this
        exact (OwnV.int_eq (show OwnV F w (.int .i64) .shr none' (a.eval y) n from this)).1
      obtain ⟨callee, args, ts⟩ := q
      simp only at hcal hargs
      subst hcal
      have hav : (args.toList.map a.eval).toArray = #[.slice none 0 0, .int .i64 n] := by
        rw [hargs]
        simp only [List.map_cons, List.map_nil, hn]
        rfl
      have hrun : (execOp a.eval o).run P w = .ok (.enter f #[.slice none 0 0, .int .i64 n]) w := by
        simp only [execOp, ho, resolve, Sem.run_bind, Act.eval, Deferred.ofValue, Sem.run_pure, Result.andThen, invoke]
        have := k1 ((args.toList.map a.eval).toArray) w
        rw [← hav, ← this]
        congr 1
        congr 1
        apply Array.ext'
        simp
      unfold Oper.wp
      rw [hrun, Oper.upon_enter]
      refine (k2 w F n hi.fb hc.1 hc.2).mono ?_
      intro e' w' hp
      obtain ⟨v, F2, S2, rfl, hh⟩ := hi.putCall (C := C) (b := true) (wrB_iff hd) rfl rfl hp
      rw [hod]
      exact hK _ w' ⟨F2, S2, hh⟩
    · cases h
  · cases h
theorem stpT_ok {G : List (FuncId × Ty)} (hG : NilOK P G) (hC : CtxOK P C) : StpOK P C (stpT G C) := by
  intro w0 F0 H env env' a w o c hi h hc K Q hK
  unfold stpT at h
  split at h
  · rename_i q hop
    split at h
    · rename_i r hr
      simp only [Option.some.injEq] at h
      subst h
      obtain ⟨F, S, hi⟩ := hi
      exact growC_ok hG hC hi hop hr hc hK
    · exact stpS_ok hC hi h hc K Q hK
  · exact stpS_ok hC hi h hc K Q hK
end
end Go.Lf
namespace Go.User
open Go.Lf
def G32 : List (FuncId × Ty) := [(78, tLOp)]
def C43 : Ctx := mkS 36 []
def L43 (x : kdens S43.args) : List LoopI := [
  { ι := Nat, inv := fun i => i ≤ List.length x.1, dec := fun i => List.length x.1 - i, ovr := fun i => [(11, .shr tI (i : Int)), (3, .shr tI (Sp.total (List.take i x.1) : Int))], keep := [0, 9, 10] },
  { ι := Nat, inv := fun i => i ≤ List.length x.1, dec := fun i => List.length x.1 - i, ovr := fun i => [(27, .shr tI (i : Int)), (6, .own (.slice tLOp) (.own .shr) (Sp.cat (List.take i x.1)))], keep := [25, 26] }]
end Go.User
namespace Go.Lf

def insOut {e : Ty} (x x2 : List e.den) (n : Int) : List e.den := List.take (Int.toNat n) x ++ x2 ++ List.drop (Int.toNat n) x
def InsPost (F S0 : NSet) (w : World) (e : Ty) (y : List e.den) (en : Ending) (w' : World) : Prop :=
  ∃ v F' Sr, en = .returned v ∧ w'.os = w.os ∧ w'.tape = w.tape ∧ w'.output = w.output ∧ w.heap.size ≤ w'.heap.size ∧
    (∀ k, k < w.heap.size → ¬ S0 k → w'.heap[k]? = w.heap[k]?) ∧ Sub F F' ∧ (∀ k, F' k → ¬ F k → w.heap.size ≤ k ∨ S0 k) ∧ (∀ k, F' k ∨ Sr k → k < w'.heap.size) ∧
    (∀ k, Sr k → (w.heap.size ≤ k ∨ S0 k) ∧ ¬ F' k) ∧ OwnV F' w' (.slice e) (.own .shr) Sr v y
/-- One element is inserted. -/
def InsOK (P : Program) (I : List (FuncId × Ty)) : Prop := ∀ f e, look I f = some e → FnDef P f ∧ ∀ (w : World) (F S0 S1 : NSet) (v v2 : Value) (x x2 : List e.den) (n : Int), (∀ k, F k → k < w.heap.size) →
  (∀ k, S0 k → k < w.heap.size ∧ ¬ F k) → (∀ k, S1 k → k < w.heap.size ∧ ¬ F k) → (∀ k, S0 k → ¬ S1 k) → OwnV F w (.slice e) (.own .shr) S0 v x → OwnV F w (.slice e) (.own .shr) S1 v2 x2 →
  0 ≤ n → n ≤ (x.length : Int) → x2.length = 1 → x.length ≤ 500000000 → Calls P f #[v, .int .i64 n, v2] w (InsPost F S0 w e (insOut x x2 n))

def insC (I : List (FuncId × Ty)) (C : Ctx) (st : St) (o : Oper) (q : Call) : Option (Prop × St) :=
  match q.callee, q.args.toList, o.dst with
  | .value (.func f), [.tmp t, y, .tmp u], some d => (match look I f, st t, (viewO st y).e, st u with
    | some e, .own τ m x, .shr (.int .i64) n, .own τ2 m2 x2 => bif wrB C d && !Nat.beq t u && decide (m = .own .shr) && decide (m2 = .own .shr) then
      (match castD (τ := τ) (σ := .slice e) x, castD (τ := τ2) (σ := .slice e) x2 with
      | some (x : List e.den), some (x2 : List e.den) => some (0 ≤ n ∧ n ≤ (List.length x : Int) ∧ List.length x2 = 1 ∧ List.length x ≤ 500000000, put (drop (drop st t) u) d (mkE C d (.slice e) (.own .shr) (insOut x x2 n)))
      | _, _ => none) else none
    | _, _, _, _ => none)
  | _, _, _ => none
def stpU (I G : List (FuncId × Ty)) (C : Ctx) (st : St) (o : Oper) : Option (Prop × St) := match o.op with
  | .call q => (match insC I C st o q with
    | some r => some r
    | none => stpT G C st o)
  | _ => stpT G C st o

section
variable {P : Program} {C : Ctx} {w0 : World} {F0 H : NSet} {env : St} {a : Act} {w : World} {F : NSet} {S : Nat → NSet}
theorem insC_ok {I : List (FuncId × Ty)} (hI : InsOK P I) (hC : CtxOK P C) (hi : Inv0 P C.np w0 F0 H env a w F S) {q : Call} {o : Oper} (ho : o.op = .call q) {c : Prop} {env' : St} (h : insC I C env o q = some (c, env')) (hc : c)
    {K : Act → World → Prop} {Q : Exit → Act → World → Prop} (hK : ∀ a' w', Inv P C.np w0 F0 H env' a' w' → K a' w') : o.wp P a w K Q := by
  obtain ⟨callee, args, tys⟩ := q
  unfold insC at h
  simp only at h
  split at h
  · rename_i f t y u d h3 h4
    split at h
    · rename_i e τ m x n τ2 m2 x2 hl ht hy hu
      cases hb : (wrB C d && !Nat.beq t u && decide (m = .own .shr) && decide (m2 = .own .shr))
      · rw [hb] at h; cases h
      rw [hb] at h
      simp only [cond_true] at h
      simp only [Bool.and_eq_true, decide_eq_true_eq, Bool.not_eq_true'] at hb
      obtain ⟨⟨⟨hd, htu⟩, rfl⟩, rfl⟩ := hb
      have htu : t ≠ u := fun e => by rw [e, Nat.beq_refl] at htu; cases htu
      have hd := wrB_iff hd
      split at h
      · rename_i x1 x3 hx hx2
        have h5 := castD_some hx
        injection h5 with e1 e2
        subst e1; cases e2
        have h6 := castD_some hx2
        injection h6 with e1 e2
        subst e1; cases e2
        simp only [Option.some.injEq, Prod.mk.injEq] at h
        obtain ⟨rfl, rfl⟩ := h
        have ht1 := hi.ent t
        rw [ht] at ht1
        obtain ⟨pl, S0, cs, hr⟩ := ht1
        obtain ⟨_, _, e3, e4, e5⟩ := hr.own_inj
        subst e4
        have hO : OwnV F w (.slice e) (.own .shr) (S t) (a.tmps.getD t undef) x1 := ⟨cs, e5, hr.2.2⟩
        have hu1 := hi.ent u
        rw [hu] at hu1
        obtain ⟨pl2, S2, cs2, hr2⟩ := hu1
        obtain ⟨_, _, e6, e7, e8⟩ := hr2.own_inj
        subst e7
        have hO2 : OwnV F w (.slice e) (.own .shr) (S u) (a.tmps.getD u undef) x3 := ⟨cs2, e8, hr2.2.2⟩
        have hn : a.eval y = .int .i64 n := by
          have := (viewO_ok hi y).ent (by rw [hy]; rfl) 0 (by rw [hy]; simp [Ent.root])
          rw [hy] at this
          exact (OwnV.int_eq (show OwnV F w (.int .i64) .shr none' (a.eval y) n from this)).1
        obtain ⟨k1, k2⟩ := hI f e hl
        have hcall := k2 w F (S t) (S u) _ _ x1 x3 n hi.fb (fun k hk => ⟨(hi.sb t k hk).2.1, (hi.sb t k hk).2.2⟩) (fun k hk => ⟨(hi.sb u k hk).2.1, (hi.sb u k hk).2.2⟩) (fun k g1 g2 => hi.sd t u htu k g1 g2) hO hO2 hc.1 hc.2.1 hc.2.2.1 hc.2.2.2
        have hav : (args.toList.map a.eval).toArray = #[a.tmps.getD t undef, .int .i64 n, a.tmps.getD u undef] := by
          rw [h3]
          simp only [List.map_cons, List.map_nil, hn]
          rfl
        have hrun : (execOp a.eval o).run P w = .ok (.enter f #[a.tmps.getD t undef, .int .i64 n, a.tmps.getD u undef]) w := by
          simp only [execOp, ho, resolve, Sem.run_bind, Act.eval, Deferred.ofValue, Sem.run_pure, Result.andThen, invoke]
          have := k1 ((args.toList.map a.eval).toArray) w
          rw [← hav, ← this]
          congr 1
          congr 1
          apply Array.ext'
          simp
        have hi1 := (hi.drop t).drop u
        unfold Oper.wp
        rw [hrun, Oper.upon_enter]
        refine hcall.mono ?_
        intro en w' hpost
        obtain ⟨v, F', Sr, rfl, q1, q2, q3, q4, q5, q6, q7, q8, q9, q10⟩ := hpost
        have hnt : ∀ k, S t k → ∀ s, ¬ (fun s => if s = u then none' else (fun s => if s = t then none' else S s) s) s k := by
          intro k hk s hs
          by_cases hsu : s = u
          · simp only [hsu, if_true] at hs; exact hs
          · simp only [hsu, if_false] at hs
            by_cases hst : s = t
            · simp only [hst, if_true] at hs; exact hs
            · simp only [hst, if_false] at hs; exact hi.sd s t hst k hs hk
        have hi2 := hi1.worldZ (Z := S t) q1 q2 q3 q4 q5 (fun k hk => ⟨(hi.sb t k hk).1, (hi.sb t k hk).2.2, hnt k hk⟩) q6 (fun b hb => q8 b (.inl hb)) q7
        obtain ⟨F2, S2, hh⟩ := hi2.putNew (C := C) (d := d) hd (RowKit.Below.refl _ _) (fun _ h => h) (fun k hk => q8 k (.inl hk)) (fun k g1 g2 => absurd g1 g2) (by
          intro b hb
          obtain ⟨g1, g2⟩ := q9 b hb
          refine ⟨?_, q8 b (.inr hb), g2, ?_⟩
          · rcases g1 with g1 | g1
            · exact .inl (Nat.le_trans hi.size g1)
            · exact (hi.sb t b g1).1
          · intro s hs
            rcases g1 with g1 | g1
            · have := (hi1.sb s b hs).2.1; omega
            · exact hnt b g1 s hs) q10
        rw [h4]
        exact hK _ _ ⟨F2, S2, hh⟩
      · cases h
    · cases h
  · cases h
theorem stpU_ok {I G : List (FuncId × Ty)} (hI : InsOK P I) (hG : NilOK P G) (hC : CtxOK P C) : StpOK P C (stpU I G C) := by
  intro w0 F0 H env env' a w o c hi h hc K Q hK
  unfold stpU at h
  split at h
  · rename_i q hop
    split at h
    · rename_i r hr
      simp only [Option.some.injEq] at h
      subst h
      obtain ⟨F, S, hi⟩ := hi
      exact insC_ok hI hC hi hop hr hc hK
    · exact stpT_ok hG hC hi h hc K Q hK
  · exact stpT_ok hG hC hi h hc K Q hK
end
end Go.Lf
namespace Sp
def outN (l : List LOp) (r : List Int) (n : Nat) : List Int := (List.range n).flatMap fun (e : Nat) => if (l.getD e op0).1 = 1 ∨ (l.getD e op0).1 = 3 then [r.getD e 0] else []
def lastV (m : List Msg) : Int := (m.getD (m.length - 1) msg0).2.1
def lastN (s : VSt) (n : Nat) : List Int := (List.range n).map fun (x : Nat) => lastV (memOf s x)
def outR (s : VSt) : List Int := outN (cat s.1.1) s.2.2.2.2.2.1 (total s.1.1)
def outcome (s : VSt) : Out := (outR s, lastN s 3, ())
/-- An outcome that is found is added in its place. -/
def insO (l : List Out) (o : Out) : List Out := if foundO l o = true then l else l.take (below l o) ++ [o] ++ l.drop (below l o)
def visit : Nat → VSt → List Out → List Out
  | 0, s, l => insO l (outcome s)
  | n + 1, s, l => if choices s = [] then insO l (outcome s) else (choices s).foldl (fun l x => visit n (next s x) l) l
def visitN (n : Nat) (s : VSt) (l : List Out) (i : Nat) : List Out := ((choices s).take i).foldl (fun l x => visit n (next s x) l) l
/-- How many operations are left. -/
def left (s : VSt) : Nat := ((List.range s.1.1.length).map fun (c : Nat) => (opsOf s c).length - (pcOf s c).toNat).sum
/-- A state of a test of few operations. -/
structure Good (s : VSt) : Prop where
  ok : OkS s
  few : s.1.1.length ≤ 4
  tot : total s.1.1 ≤ 8
  mem : ∀ x, x < 3 → (memOf s x).length + left s ≤ 1 + total s.1.1
  fol : s.2.2.2.2.2.2.2.1.length + left s ≤ total s.1.1
def okV (n : Nat) (l : List Out) (s : VSt) : Prop := Good s ∧ total s.1.1 ≤ 6 ∧ left s = n ∧ sortedO l ∧ l.length + 28 ^ n ≤ 500000000
end Sp
namespace Go.User
open Go.Lf
abbrev mOut : Md := .pair (.own .shr) (.pair (.own .shr) .shr)
def S72 : FSpec := { args := [.val tVSt], multi := false, res := tOut, mode := .shr, pre := fun x => Sp.OkS x.1, fn := fun x => (Sp.outR x.1, Sp.lastN x.1 3, ()) }
def C72 : Ctx := { mkS 56 [(43, S43)] with mds := [(3, mOut), (2, .pair .shr (.pair .shr .shr))], fzs := [3] }
def L72 (x : kdens S72.args) : List LoopI := [
  { ι := Nat, inv := fun n => n ≤ Sp.total x.1.1.1, dec := fun n => Sp.total x.1.1.1 - n, ovr := fun n => [(13, .shr tI (n : Int)), (3, .box tOut mOut (Sp.outN (Sp.cat x.1.1.1) x.1.2.2.2.2.2.1 n, [], ()))], keep := [1, 2, 11, 12] },
  { ι := Nat, inv := fun n => n ≤ 3, dec := fun n => 3 - n, ovr := fun n => [(39, .shr tI (n : Int)), (3, .box tOut mOut (Sp.outN (Sp.cat x.1.1.1) x.1.2.2.2.2.2.1 (Sp.total x.1.1.1), Sp.lastN x.1 n, ()))], keep := [1, 2, 38] }]
-- the search
def p71 : Nat := 2
def t71 (q n : Nat) : KSpec := { f := 71, l := [.self, .own q, .fn 68], τ := .slice tOut, m := .own .shr, args := [.val tVSt], pre := fun x y => Sp.okV n x y.1, fn := fun x y => Sp.visit n y.1 x }
def t71k (q n : Nat) : KSpec := { f := 71, l := [.self, .own q, .fn 68], τ := .slice tOut, m := .own .shr, args := [.val tVSt], pre := fun x y => 1 ≤ n ∧ Sp.okV (n - 1) x y.1, fn := fun x y => Sp.visit (n - 1) y.1 x }
def C71 (q n : Nat) : Ctx := { mkS 44 [(53, S53), (54, S54), (72, S72), (73, S73)] with tys := tysQ q, clo := some tCmp, pin := some 2, q := q, kno := some (t71k q n), mvs := [39] }
def I32 : List (FuncId × Ty) := [(74, tOut)]
def L71 (q n : Nat) (x : List Sp.Out) (y : kdens (t71 q n).args) : List LoopI := [
  { ι := Nat, inv := fun i => i ≤ List.length (Sp.choices y.1), dec := fun i => List.length (Sp.choices y.1) - i, ovr := fun i => [(15, .shr tI (i : Int)), (2, .box (.slice tOut) (.own .shr) (Sp.visitN (n - 1) y.1 x i))], keep := [1, 3, 4, 5, 13, 14] }]
end Go.User
namespace Sp
def valid (t : Lit) : Bool := decide (1 ≤ t.1.length) && decide (t.1.length ≤ 4) && decide (1 ≤ total t.1) && decide (total t.1 ≤ 6) && !((cat t.1).any fun o => !usual o)
def m0 : Msg := (-1, 0, false, ())
def v0 : List Int := [-1, -1, -1]
def memI (x : Nat) : List (List Msg) := (List.range 3).map fun (j : Nat) => if j < x then [m0] else []
def zeros (n : Nat) : List Int := List.replicate n 0
def views (n : Nat) : List (List Int) := List.replicate n v0
def froms (n : Nat) : List Int := List.replicate n (-1)
def stI (t : Lit) (x : Nat) : VSt := (t, zeros t.1.length, memI x, views t.1.length, v0, zeros (total t.1), froms (total t.1), [], ())
def start (t : Lit) : VSt := stI t 3
def stZ : VSt := (([], ()), [], [[], [], []], [], [0, 0, 0], [], [], [], ())
def stA (t : Lit) : VSt := if valid t = true then start t else stZ
def errA (t : Lit) : Int := if valid t = true then 0 else 300
end Sp
namespace Go.User
open Go.Lf
def S45 : FSpec := { args := [.val (.slice tI), .val tI], multi := false, res := .slice tI, mode := .own .shr, pre := fun x => List.length x.1 = 1 ∧ 0 ≤ x.2.1 ∧ x.2.1 ≤ 6, fn := fun x => List.replicate (Int.toNat x.2.1) (List.getD x.1 0 0) }
def S44 : FSpec := { args := [.val (.slice tV3), .val tI], multi := false, res := .slice tV3, mode := .own .shr, pre := fun x => List.length x.1 = 1 ∧ 0 ≤ x.2.1 ∧ x.2.1 ≤ 6, fn := fun x => List.replicate (Int.toNat x.2.1) (List.getD x.1 0 []) }
def S42 : FSpec := { args := [.val tLit], multi := false, res := .bool, mode := .shr, pre := fun x => Sp.total x.1.1 ≤ 1000, fn := fun x => Sp.valid x.1 }
def C42 : Ctx := { mkS 36 [(43, S43), (76, S76), (77, S77)] with fzs := [4] }
def L42 (x : kdens S42.args) : List LoopI := []
def S19 : FSpec := { args := [.val tLit], multi := true, res := .prod tVSt (.prod tI .unit), mode := .shr, pre := fun x => Sp.total x.1.1 ≤ 1000, fn := fun x => (Sp.stA x.1, Sp.errA x.1, ()) }
def C19 : Ctx := { mkS 45 [(42, S42), (43, S43), (44, S44), (45, S45)] with frz := [21, 23, 27, 30, 31, 33, 40], mds := [(2, mV0), (6, mV0), (34, mV0)] }
def L19 (x : kdens S19.args) : List LoopI := [
  { ι := Nat, inv := fun n => n ≤ 3, dec := fun n => 3 - n, ovr := fun n => [(35, .shr tI (n : Int)), (6, .box tVSt .shr (x.1, Sp.zeros (List.length x.1.1), Sp.memI n, Sp.views (List.length x.1.1), Sp.v0, Sp.zeros (Sp.total x.1.1), Sp.froms (Sp.total x.1.1), [], ()))], keep := [2, 3] }]
end Go.User
namespace Go.Lf
section
variable {P : Program} {C : Ctx} {ops : Array Oper} {Q : Exit → Act → World → Prop} {a : Act} {w w' : World} {o : Oper} {v : Value} {i : Nat} {rest : List Nat}

theorem ops_value (ho : ops[i]? = some o) (hg : o.guard = none) (hrun : (execOp a.eval o).run P w = .ok (.value v) w') (hK : wpOps P ops Q rest (a.put o.dst v) w') : wpOps P ops Q (i :: rest) a w := by
  rw [wpOps_cons]
  unfold wpOp
  have hw : Region.wanted o (yielded ops a.tmps) = true := by simp [Region.wanted, hg]
  simp only [ho, hw, if_true]
  refine .inl ?_
  unfold Oper.wp
  rw [hrun, Oper.upon_value]
  exact hK
theorem ops_skip (ho : ops[i]? = some o) (hg : o.guard = none) (hrun : (execOp a.eval o).run P w = .ok .skip w') (hd : o.dst = none) (hK : wpOps P ops Q rest a w') : wpOps P ops Q (i :: rest) a w := by
  rw [wpOps_cons]
  unfold wpOp
  have hw : Region.wanted o (yielded ops a.tmps) = true := by simp [Region.wanted, hg]
  simp only [ho, hw, if_true]
  refine .inl ?_
  unfold Oper.wp
  rw [hrun, Oper.upon_skip, hd]
  exact hK
theorem ops_nil (h : Q .normal a w) : wpOps P ops Q [] a w := by simpa [wpOps] using h
/-- Cells are stored in a row. -/
theorem run_cells {b off : Nat} {row : Array Value} {T0 : TypeId} (hr : w.heap[b]? = some (.cells row T0 (0, 0))) {cs : List Value} (ho : off + cs.length ≤ row.size) (h1 : ∀ v ∈ cs, v.oneCell' = true) :
    ∃ w', (storeCells ⟨b, off, none⟩ cs).run P w = .ok () w' ∧ w'.heap[b]? = some (.cells (row.toList.take off ++ cs ++ row.toList.drop (off + cs.length)).toArray T0 (0, 0)) ∧ (∀ k, k ≠ b → w'.heap[k]? = w.heap[k]?) ∧
      w'.heap.size = w.heap.size ∧ w'.os = w.os ∧ w'.tape = w.tape ∧ w'.output = w.output := by
  have hs := run_storeCells_at (P := P) b off T0 cs 0 row w hr (by omega) h1
  refine ⟨w.setRow b (row.toList.take (off + 0) ++ cs ++ row.toList.drop (off + 0 + cs.length)).toArray, ?_, ?_, ?_, ?_, rfl, rfl, rfl⟩
  · simpa using hs
  · simp [World.setRow, Array.getElem?_modify, hr]
  · intro k hk
    simp only [World.setRow, Array.getElem?_modify]
    rw [if_neg (Ne.symm hk)]
  · simp [World.setRow]
end
end Go.Lf
namespace Go.Lf
section
variable {P : Program} {C : Ctx} {N : NP} {w0 : World} {F0 H : NSet} {env : St} {a : Act} {w : World} {F : NSet} {S : Nat → NSet} {d : Nat}

/-- Something is found out about a slot of which nothing was known. -/
theorem Inv0.know (hi : Inv0 P N w0 F0 H env a w F S) {t : Nat} (ht : env t = .dead) {e : Ent} (ho : e.isOwner = false) (hr : e.root = none) (he : EntOK P F w env (fun t => a.tmps.getD t undef) S t e) :
    Inv0 P N w0 F0 H (upd env t e) a w F S := by
  have keep : ∀ u (x : Ent), EntOK P F w env (fun t => a.tmps.getD t undef) S u x → EntOK P F w (upd env t e) (fun t => a.tmps.getD t undef) S u x := by
    intro u x h
    refine EntOK.keep (fun _ h => h) (fun _ _ => rfl) rfl ?_ ?_ h
    · intro q hq
      refine ⟨fun hoq => ?_, fun _ => rfl, rfl, fun _ _ => rfl, fun b h1 h2 => absurd h1 h2, fun b hb => (hi.sb q b hb).2.2⟩
      have hqt : q ≠ t := fun e => by rw [e, ht] at hoq; cases hoq
      rw [upd_ne _ _ hqt]
    · intro _
      exact ⟨rfl, fun _ _ => rfl, fun b h1 h2 => absurd h1 h2⟩
  refine ⟨hi.os, hi.tape, hi.output, hi.size, hi.block, hi.fb, hi.f0, hi.fn, hi.sb, hi.sd, ?_, hi.defers, hi.slots⟩
  intro u
  by_cases h : u = t
  · subst h; rw [upd_same]; exact keep u e he
  · rw [upd_ne _ _ h]; exact keep u _ (hi.ent u)

/-- A variable becomes shared as something else is stored in it. -/
theorem Inv0.share (hi : Inv0 P N w0 F0 H env a w F S) {s : Nat} {τ : Ty} {m : Md} {x : τ.den} (hs : env s = .box τ m x) {w' : World} {σ : Ty} {y : σ.den}
    (h1 : w'.os = w.os) (h2 : w'.tape = w.tape) (h3 : w'.output = w.output) (h4 : w'.heap.size = w.heap.size) (h5 : ∀ k, k < w.heap.size → ¬ S s k → w'.heap[k]? = w.heap[k]?)
    (he : SAddr (fun b => F b ∨ S s b) w' (a.tmps.getD s undef) σ y) :
    Inv0 P N w0 F0 H (upd (Go.Lf.drop env s) s (.saddr σ y)) a w' (fun b => F b ∨ S s b) (fun t => if t = s then none' else S t) := by
  have hi1 := hi.drop s
  have hi2 := hi1.worldZ (w' := w') (F' := fun b => F b ∨ S s b) (Z := S s) h1 h2 h3 (by omega) h5 (fun k hk => ⟨(hi.sb s k hk).1, (hi.sb s k hk).2.2, fun t ht => by
      by_cases h : t = s
      · simp only [h, if_true] at ht; exact ht
      · simp only [h, if_false] at ht; exact hi.sd t s h k ht hk⟩) (fun b hb => .inl hb) (fun b hb => by
      rcases hb with hb | hb
      · have := hi.fb b hb; omega
      · have := (hi.sb s b hb).2.1; omega) (fun b hb hn => .inr (hb.resolve_left hn))
  exact hi2.know (e := .saddr σ y) (by unfold Go.Lf.drop; rw [upd_same]) rfl rfl he

/-- The closure is made, and put into its variable. -/
theorem bind_self (hC : CtxOK P C) (hi : Inv0 P N w0 F0 H env a w F S) {T : TypeId} {f gf : FuncId} {d s p g : Nat} {τ : Ty} {m mg ms : Md} {x : τ.den} {z : Abs.den .kno} {ops : Array Oper} {o1 o2 : Oper} {Q : Exit → Act → World → Prop}
    (hops : ops.toList = [o1, o2]) (h1 : o1.op = .makeFunc (.func f) #[] #[.tmp s, .tmp p, .tmp g]) (h2 : o1.dst = some d) (h3 : o1.guard = none) (h4 : o2.op = .store T (.tmp s) (.tmp d)) (h5 : o2.dst = none) (h6 : o2.guard = none)
    (hT : look C.tys T = some (.abs .kno)) (hd : Wr N d) (hds : d ≠ s) (hdp : d ≠ p) (hdg : d ≠ g) (hsp : s ≠ p) (hsg : s ≠ g) (hpg : p ≠ g)
    (es : env s = .box (.abs .kno) ms z) (ep : env p = .box τ m x) (eg : env g = .box (.abs .clo) mg (some (gf, [])))
    (hK : ∀ q a' w' F' S', a'.tmps.getD p undef = .pointer (some ⟨q, 0, none⟩) → Inv0 P N w0 F0 H (upd (Go.Lf.drop (Go.Lf.put (upd (kill env g) g (.saddr (.abs .clo) (some (gf, [])))) d .dead) s) s (.saddr (.abs .kno) (some (f, [.self, .own q, .fn gf])))) a' w' F' S' → Q .normal a' w') :
    wpOps P ops Q (List.range' 0 ops.size) a w := by
  have hsz : ops.size = 2 := by have := congrArg List.length hops; simpa using this
  have g0 : ops[0]? = some o1 := by have : ops.toList[0]? = some o1 := by rw [hops]; rfl
                                    simpa using this
  have g1 : ops[1]? = some o2 := by have : ops.toList[1]? = some o2 := by rw [hops]; rfl
                                    simpa using this
  rw [hsz]
  have hpv : ∃ q, a.tmps.getD p undef = .pointer (some ⟨q, 0, none⟩) := by
    have h := hi.ent p
    rw [ep] at h
    obtain ⟨pl, S0, cs, hr⟩ := h
    obtain ⟨_, _, b, _, _, hv, _⟩ := hr.box_inj
    exact ⟨b, hv⟩
  obtain ⟨q, hq⟩ := hpv
  have hi1 := hi.freeze eg
  obtain ⟨env1, henv1⟩ : ∃ env1, env1 = upd (kill env g) g (.saddr (.abs .clo) (some (gf, []))) := ⟨_, rfl⟩
  rw [← henv1] at hi1 hK
  have hk : ∀ t, t ≠ g → (env t).isOwner = true → env1 t = env t := by
    intro t h1 h2
    rw [henv1, upd_ne _ _ h1]
    unfold kill killE
    rw [Ent.owner_root h2]
  have es1 : env1 s = .box (.abs .kno) ms z := by rw [hk s hsg (by rw [es]; rfl), es]
  have eg1 : env1 g = .saddr (.abs .clo) (some (gf, [])) := by rw [henv1, upd_same]
  obtain ⟨v, hv⟩ : ∃ v, v = Value.func (.func f) #[] #[a.tmps.getD s undef, a.tmps.getD p undef, a.tmps.getD g undef] := ⟨_, rfl⟩
  have hrun1 : (execOp a.eval o1).run P w = .ok (.value v) w := by
    rw [hv]; simp [execOp, h1, Instr.makeFunc, Act.eval]
  have hi2 := hi1.put (d := d) (e := .dead) (v := v) (w' := w) (Sd := none') hd (RowKit.Below.refl _ _) (fun _ h => h) hi1.fb (fun b h1 h2 => absurd h1 h2) (fun b h => h.elim) trivial
  obtain ⟨env2, henv2⟩ : ∃ env2, env2 = Go.Lf.put env1 d .dead := ⟨_, rfl⟩
  rw [← henv2] at hi2 hK
  have hkeep2 : ∀ t, t ≠ d → (env1 t).root ≠ some d → env2 t = env1 t := by
    intro t h1 h2
    rw [henv2]
    unfold Go.Lf.put
    cases (env1 d).isOwner
    · simp only [cond_false]; rw [upd_ne _ _ h1]
    · simp only [cond_true]
      rw [upd_ne _ _ h1]
      exact killE_same h2
  have es2 : env2 s = .box (.abs .kno) ms z := by rw [hkeep2 s (Ne.symm hds) (by rw [es1]; intro h; cases h), es1]
  have eg2 : env2 g = .saddr (.abs .clo) (some (gf, [])) := by rw [hkeep2 g (Ne.symm hdg) (by rw [eg1]; intro h; cases h), eg1]
  refine ops_value (v := v) g0 h3 hrun1 ?_
  rw [h2]
  have hval : ∀ t, t ≠ d → (a.put (some d) v).tmps.getD t undef = a.tmps.getD t undef := fun t ht => by rw [Act.getD_put (by rw [hi.slots.size]; exact hd.1), if_neg ht]
  have hvd : (a.put (some d) v).tmps.getD d undef = v := by rw [Act.getD_put (by rw [hi.slots.size]; exact hd.1), if_pos rfl]
  obtain ⟨F2, hF2⟩ : ∃ F2 : NSet, F2 = (fun b => F b ∨ S g b) := ⟨_, rfl⟩
  rw [← hF2] at hi2
  generalize (fun t => if t = d then none' else (fun t => if t = g then none' else S t) t) = S2 at hi2
  have hs2 := hi2.ent s
  rw [es2] at hs2
  obtain ⟨pl, S0, cs, hR⟩ := hs2
  obtain ⟨_, _, b, rfl, hS0, hvs, hsb⟩ := hR.box_inj
  obtain ⟨q1, q2, row, T0, q3, q4, q5⟩ := hR.2.1
  have hbb := hi2.sb s b hsb
  have hone : v.oneCell' = true := by rw [hv]; rfl
  obtain ⟨w', k1, k2, k3, k4, k5, k6, k7⟩ := (hC.types T _ hT).storeVar (P := P) (cs := [v]) q3 q4 rfl (by intro u hu; rw [List.mem_singleton.1 hu]; exact hone)
  obtain ⟨e1, orow, row', T', e3, e4, e5, e6⟩ := k2
  have hrun2 : (execOp (a.put (some d) v).eval o2).run P w = .ok .skip w' := by
    have hs' : (a.put (some d) v).eval (.tmp s) = .pointer (some ⟨b, 0, none⟩) := hvs
    have hd' : (a.put (some d) v).eval (.tmp d) = v := hvd
    have k1' : (storeVar T ⟨b, 0, none⟩ v).run P w = .ok () w' := k1
    simp [execOp, h4, Instr.storeAt, hs', hd', Instr.sureAddr, k1']
  refine ops_skip g1 h6 hrun2 h5 (ops_nil ?_)
  have hgs := hi2.ent g
  rw [eg2] at hgs
  have hgs : SAddr F2 w ((a.put (some d) v).tmps.getD g undef) (.abs .clo) (some (gf, [])) := hgs
  have hrl : 1 ≤ row'.size := by
    have := congrArg List.length e6
    simp only [Array.length_toList, List.length_append, List.length_singleton] at this
    omega
  have hrow' : seg row'.toList 0 1 = [v] := by
    rw [e6]
    simp [seg]
  refine hK q _ w' _ _ (by rw [hval p (Ne.symm hdp)]; exact hq) (hi2.share es2 k5 k6 k7 (by omega) (fun k hk hn => k3 k (fun e => hn (e ▸ hsb))) ?_)
  refine ⟨b, 0, row', T', (0, 0), hvs, .inr hsb, e4, by show 0 + 1 ≤ row'.size; omega, ?_⟩
  show AbsOK _ w' .kno (seg row'.toList 0 1) _
  rw [hrow']
  refine ⟨_, by rw [hv], ?_⟩
  have hcell : CellAt (fun b => F2 b ∨ S2 s b) w' (a.tmps.getD s undef) v := by
    refine ⟨b, 0, row', T', (0, 0), ?_, .inr hsb, e4, ?_⟩
    · rw [← hval s (Ne.symm hds)]; exact hvs
    · have := congrArg (fun l => l[0]?) hrow'
      simpa [seg] using this
  refine ⟨_, _, rfl, by rw [← hv]; exact hcell, _, _, rfl, hq, _, _, rfl, ?_, rfl⟩
  obtain ⟨gb, goff, grow, gT, gfr, j1, j2, j3, j4, caps, j5, j6⟩ := hgs
  refine ⟨gb, goff, grow, gT, gfr, by rw [← hval g (Ne.symm hdg)]; exact j1, .inl j2, ?_, ?_⟩
  · rw [k3 gb (fun e => hbb.2.2 (e ▸ j2))]; exact j3
  · have hc0 : caps = #[] := by
      cases hcl : caps.toList with
      | nil => apply Array.ext'; simpa using hcl
      | cons u us => rw [hcl] at j6; obtain ⟨_, _, h, _⟩ := j6; cases h
    subst hc0
    have j5 : seg grow.toList goff 1 = [Value.func (.func gf) #[] #[]] := j5
    have := congrArg (fun l => l[0]?) j5
    simpa [seg] using this
end
end Go.Lf
namespace Go.Lf

def selfSt (st : St) (f gf : FuncId) (d s g q : Nat) : St :=
  upd (Go.Lf.drop (Go.Lf.put (upd (kill st g) g (.saddr (.abs .clo) (some (gf, [])))) d .dead) s) s (.saddr (.abs .kno) (some (f, [.self, .own q, .fn gf])))
def selfB (C1 : Ctx) (T : TypeId) (d d' s s' p p' g : Nat) : Bool :=
  Nat.beq s s' && Nat.beq d d' && Nat.beq p p' && wrB C1 d && !Nat.beq d s && !Nat.beq d p && !Nat.beq d g && !Nat.beq s p && !Nat.beq s g && !Nat.beq p g && decide (look C1.tys T = some (.abs .kno))
/-- The region in which the closure is made. -/
def selfP (C1 : Ctx) (p : Nat) (ops : List Oper) (st : St) (Φ : Nat → St → Prop) : Prop := match ops with
  | [o1, o2] => (match o1.op, o1.dst, o1.guard, o2.op, o2.dst, o2.guard with
    | .makeFunc (.func f) first caps, some d, none, .store T (.tmp s) (.tmp d'), none, none => (match first.toList, caps.toList with
      | [], [.tmp s', .tmp p', .tmp g] => (match st s, st p, st g with
        | .box (.abs .kno) _ _, .box _ _ _, .box (.abs .clo) _ (some (gf, [])) => bif selfB C1 T d d' s s' p p' g then ∀ q, Φ q (selfSt st f gf d s g q) else False
        | _, _, _ => False)
      | _, _ => False)
    | _, _, _, _, _, _ => False)
  | _ => False
def wpS (C1 : Ctx) (stp1 : St → Oper → Option (Prop × St)) (C2 : Nat → Ctx) (stp2 : Nat → St → Oper → Option (Prop × St)) (p : Nat) (L1 : List LoopI) (L2 : Nat → List LoopI) :
    Nat → Code → Nat → St → (St → Prop) → (Nat → St → Prop) → (St → Prop) → Prop
  | n + 1, .seq a b, k, st, Qn, Qx, Qr => wpI C1 stp1 L1 a k st (fun st' => wpS C1 stp1 C2 stp2 p L1 L2 n b (k + nl a) st' Qn Qx Qr) Qx Qr
  | 0, .seq (.region _ ops false) c, k, st, Qn, Qx, Qr => selfP C1 p ops.toList st fun q st' => wpI (C2 q) (stp2 q) (L2 q) c k st' Qn Qx Qr
  | _, _, _, _, _, _, _ => False
def funS (C1 : Ctx) (stp1 : St → Oper → Option (Prop × St)) (C2 : Nat → Ctx) (stp2 : Nat → St → Oper → Option (Prop × St)) (p n : Nat) (s : FSpec) (L1 : kdens s.args → List LoopI) (L2 : Nat → kdens s.args → List LoopI) (fn : Func) : Prop :=
  match fn.body with
  | some c => ∀ x, s.pre x → factsK s.args x → wpS C1 stp1 C2 stp2 p (L1 x) (fun q => L2 q x) n c 0 (ofL (argsEnt s.args x 0)) (retP C1 fn.results.toList s (s.fn x)) (fun _ _ => False) (retP C1 fn.results.toList s (s.fn x))
  | none => False

section
variable {P : Program} {w0 : World} {F0 H : NSet}
theorem nbeq_no {a b : Nat} (h : Nat.beq a b = false) : a ≠ b := fun e => by rw [e, Nat.beq_refl] at h; cases h
theorem kill_box {st : St} {r p : Nat} {τ : Ty} {m : Md} {x : τ.den} (h : st p = .box τ m x) : kill st r p = .box τ m x := by
  unfold kill killE; rw [h]; rfl
theorem selfP_ok {C1 : Ctx} {C2 : Nat → Ctx} {p : Nat} (hC1 : CtxOK P C1) (hp : C1.pin = none) (hnp : ∀ q, (C2 q).np = ⟨C1.N, some p, q⟩) {ops : Array Oper} {st : St} {Φ : Nat → St → Prop} {Q : Exit → Act → World → Prop} {a : Act} {w : World} {id : Nat}
    (h : selfP C1 p ops.toList st Φ) (hi : Inv P C1.np w0 F0 H st a w)
    (hQ : ∀ q st' a' w' F S, Φ q st' → Inv P C1.np w0 F0 H st' a' w' → Inv0 P (C2 q).np w' F (fun b => ∃ t, S t b) st' a' w' F S → Inv0 P C1.np w0 F0 H st' a' w' F S → Q .normal a' w') :
    (Code.region id ops false).wp P Q a w := by
  unfold selfP at h
  split at h
  · rename_i o1 o2 hops
    split at h
    · rename_i f first caps d T s d' h1 h2 h3 h4 h5 h6
      split at h
      · rename_i s' p' g hfirst hcaps
        split at h
        · rename_i ms z τ m x mg gf es ep eg
          cases hb : selfB C1 T d d' s s' p p' g
          · rw [hb] at h; exact h.elim
          rw [hb] at h
          simp only [cond_true] at h
          simp only [selfB, Bool.and_eq_true, Bool.not_eq_true', decide_eq_true_eq, nbeq_iff] at hb
          obtain ⟨⟨⟨⟨⟨⟨⟨⟨⟨⟨rfl, rfl⟩, rfl⟩, hw⟩, n1⟩, n2⟩, n3⟩, n4⟩, n5⟩, n6⟩, hT⟩ := hb
          have hf0 : first = #[] := by apply Array.ext'; simpa using hfirst
          have hcp : caps = #[.tmp s, .tmp p, .tmp g] := by apply Array.ext'; simpa using hcaps
          subst hf0 hcp
          obtain ⟨F, S, hi⟩ := hi
          refine wp_region ?_
          rw [List.range_eq_range']
          refine bind_self hC1 hi hops h1 h2 h3 h4 h5 h6 hT (wrB_iff hw) (nbeq_no n1) (nbeq_no n2) (nbeq_no n3) (nbeq_no n4) (nbeq_no n5) (nbeq_no n6) es ep eg ?_
          intro q a' w' F' S' hq hinv
          have epn : selfSt st f gf d s g q p = .box τ m x := by
            have e1 : (upd (kill st g) g (.saddr (.abs .clo) (some (gf, [])))) p = .box τ m x := by
              rw [upd_ne _ _ (nbeq_no n6)]; exact kill_box ep
            have e2 : (Go.Lf.put (upd (kill st g) g (.saddr (.abs .clo) (some (gf, [])))) d .dead) p = .box τ m x := by
              unfold Go.Lf.put
              cases ((upd (kill st g) g (.saddr (.abs .clo) (some (gf, [])))) d).isOwner
              · simp only [cond_false]; rw [upd_ne _ _ (Ne.symm (nbeq_no n2)), e1]
              · simp only [cond_true]
                rw [upd_ne _ _ (Ne.symm (nbeq_no n2))]
                exact kill_box e1
            unfold selfSt
            rw [upd_ne _ _ (Ne.symm (nbeq_no n4))]
            unfold Go.Lf.drop
            rw [upd_ne _ _ (Ne.symm (nbeq_no n4))]
            exact kill_box e2
          obtain ⟨q', hq'⟩ := hinv.rebase epn
          have hqq : q' = q := by
            have := hq'.slots.pin p rfl
            rw [hq] at this
            injection this with this
            injection this with this
            injection this with this
            exact this.symm
          subst hqq
          refine hQ q' _ a' w' F' S' (h q') ⟨F', S', hinv⟩ ?_ hinv
          rw [hnp]
          exact hq'
        · exact h.elim
      · exact h.elim
    · exact h.elim
  · exact h.elim

theorem wpS_ok {C1 : Ctx} {C2 : Nat → Ctx} {stp1 : St → Oper → Option (Prop × St)} {stp2 : Nat → St → Oper → Option (Prop × St)} {p : Nat} (hC1 : CtxOK P C1) (hstp1 : StpOK P C1 stp1) (hC2 : ∀ q, CtxOK P (C2 q)) (hstp2 : ∀ q, StpOK P (C2 q) (stp2 q))
    (hp : C1.pin = none) (hnp : ∀ q, (C2 q).np = ⟨C1.N, some p, q⟩) {L1 : List LoopI} {L2 : Nat → List LoopI} :
    ∀ (n : Nat) (c : Code) {k : Nat} {st : St} {Qn : St → Prop} {Qx : Nat → St → Prop} {Qr : St → Prop} {Q : Exit → Act → World → Prop} {a : Act} {w : World}, wpS C1 stp1 C2 stp2 p L1 L2 n c k st Qn Qx Qr → Inv P C1.np w0 F0 H st a w →
      (∀ st a w, Qn st → Inv P C1.np w0 F0 H st a w → Q .normal a w) → (∀ i st a w, Qx i st → Inv P C1.np w0 F0 H st a w → Q (.exit i) a w) → (∀ st a w, Qr st → Inv P C1.np w0 F0 H st a w → Q .ret a w) → c.wp P Q a w := by
  intro n
  induction n with
  | zero =>
    intro c k st Qn Qx Qr Q a w h hi hn hx hr
    cases c with
    | seq x c =>
      cases x with
      | region id ops dr =>
        cases dr with
        | false =>
          simp only [wpS] at h
          refine wp_seq (selfP_ok hC1 hp hnp h hi ?_)
          intro q st' a' w' F S hΦ hi' hi2 hi3
          have hN : C1.np.p = none := hp
          have e1 : (C2 q).np = ⟨C1.np.n, some p, q⟩ := hnp q
          have back : ∀ st2 a2 w2, Inv P (C2 q).np w' F (fun b => ∃ t, S t b) st2 a2 w2 → Inv P C1.np w0 F0 H st2 a2 w2 := by
            rintro st2 a2 w2 ⟨F2, S2, h2⟩
            rw [e1] at h2
            exact ⟨F2, S2, hi3.unbase hN h2⟩
          refine wpI_ok (hC2 q) (hstp2 q) c hΦ ⟨F, S, hi2⟩ ?_ ?_ ?_
          · intro st2 a2 w2 h2 hi2; exact hn _ _ _ h2 (back _ _ _ hi2)
          · intro i st2 a2 w2 h2 hi2; exact hx _ _ _ _ h2 (back _ _ _ hi2)
          · intro st2 a2 w2 h2 hi2; exact hr _ _ _ h2 (back _ _ _ hi2)
        | true => simp [wpS] at h
      | _ => simp [wpS] at h
    | _ => simp [wpS] at h
  | succ n ih =>
    intro c k st Qn Qx Qr Q a w h hi hn hx hr
    cases c with
    | seq x y =>
      simp only [wpS] at h
      refine wp_seq (wpI_ok hC1 hstp1 x h hi ?_ hx hr)
      intro st1 a1 w1 h1 hi1
      exact ih y h1 hi1 hn hx hr
    | _ => simp [wpS] at h
theorem FOk.introS {C1 : Ctx} {C2 : Nat → Ctx} {stp1 : St → Oper → Option (Prop × St)} {stp2 : Nat → St → Oper → Option (Prop × St)} {p n : Nat} (hC1 : CtxOK P C1) (hstp1 : StpOK P C1 stp1) (hC2 : ∀ q, CtxOK P (C2 q)) (hstp2 : ∀ q, StpOK P (C2 q) (stp2 q))
    {f : FuncId} {s : FSpec} {fn : Func} (hdef : FnDef P f) (hf : P.funcs[f]? = some fn) (hN : C1.np = ⟨fn.ntmps, none, 0⟩) (hnp : ∀ q, (C2 q).np = ⟨fn.ntmps, some p, q⟩)
    (hlen : Nat.ble s.args.length fn.ntmps = true) (L1 : kdens s.args → List LoopI) (L2 : Nat → kdens s.args → List LoopI) (h : funS C1 stp1 C2 stp2 p n s L1 L2 fn) : FOk P f s := by
  refine ⟨hdef, ?_⟩
  intro w F vs xs hF ha hp
  unfold funS at h
  split at h
  · rename_i c hb
    have hl := ArgsOK.len ha
    have hlen' : s.args.length ≤ fn.ntmps := Nat.le_of_ble_eq_true hlen
    have hst := Inv0.start (P := P) (N := C1.np) hF ha (by rw [hN]; show vs.length ≤ fn.ntmps; omega) (by rw [hN])
    have e1 : C1.N = fn.ntmps := by have : C1.np.n = fn.ntmps := by rw [hN]
                                    exact this
    have e2 : C1.pin = none := by have : C1.np.p = none := by rw [hN]
                                  exact this
    refine calls_of_wp hf hb ?_
    rw [show C1.np.n = fn.ntmps by rw [hN]] at hst
    refine wpS_ok hC1 hstp1 hC2 hstp2 e2 (fun q => by rw [hnp, e1]) n c (h xs hp (factsK_ok ha)) ⟨F, _, by simpa using hst⟩ ?_ (fun _ _ _ _ h => h.elim) ?_
    · intro st a w' hq hi
      obtain ⟨v, h1, h2⟩ := retP_ok hC1 hq hi
      obtain ⟨_, _, hi⟩ := hi
      exact ⟨hi.defers, v, h1, h2⟩
    · intro st a w' hq hi
      obtain ⟨v, h1, h2⟩ := retP_ok hC1 hq hi
      obtain ⟨_, _, hi⟩ := hi
      exact ⟨hi.defers, v, h1, h2⟩
  · cases h
end
end Go.Lf
namespace Sp
def outs (t : Lit) : List Out := if valid t = true then visit (total t.1) (start t) [] else []
end Sp
namespace Go.User
open Go.Lf
def S39 : FSpec := { args := [.val tLit], multi := true, res := .prod (.slice tOut) (.prod tI .unit), mode := .shr, pre := fun x => Sp.total x.1.1 ≤ 1000, fn := fun x => (Sp.outs x.1, Sp.errA x.1, ()) }
def t39 (q : Nat) : KSpec := { f := 71, l := [.self, .own q, .fn 68], τ := .slice tOut, m := .own .shr, args := [.val tVSt], pre := fun x y => Sp.okV (Sp.left y.1) x y.1, fn := fun x y => Sp.visit (Sp.left y.1) y.1 x }
def C39a : Ctx := mkS 22 [(19, S19)]
def C39b (q : Nat) : Ctx := { mkS 22 [] with tys := tysQ q, pin := some 7, q := q, kno := some (t39 q) }
def p39 : Nat := 7
def n39 : Nat := 6
def L39a (x : kdens S39.args) : List LoopI := []
def L39b (q : Nat) (x : kdens S39.args) : List LoopI := []
end Go.User
namespace Sp
def tst (a b : List LOp) : Lit := ([a, b], ())
def ldO (x : Int) : LOp := (1, x, 0, ())
def stO (x : Int) : LOp := (2, x, 1, ())
def feO : LOp := (4, 0, 0, ())
def exA : Lit := tst [stO 0, ldO 1] [stO 1, ldO 0]
def exB : Lit := tst [stO 0, feO, ldO 1] [stO 1, feO, ldO 0]
def exC : Lit := tst [ldO 0, stO 1] [ldO 1, stO 0]
def exN : Lit := ([], ())
def exE : Bool := decide (errA exA = 0) && decide (errA exB = 0) && decide (errA exC = 0) && decide (errA exN = 300)
def exL : Bool := rds (outs exA) 0 0 && rds (outs exA) 1 1 && decide ((outs exA).length = 4) && !rds (outs exB) 0 0 && decide ((outs exB).length = 3) && !rds (outs exC) 1 1 && decide ((outs exC).length = 3)
def exOK : Bool := if exE = true then exL else false
end Sp
namespace Go.User
open Go.Lf
def S13 : FSpec := { args := [.val tLit], multi := false, res := tOuts, mode := .shr, pre := fun x => Sp.total x.1.1 ≤ 1000, fn := fun x => (Sp.outs x.1, Sp.errA x.1, ()) }
def C13 : Ctx := { mkS 13 [(39, S39)] with mds := [(2, .pair .shr (.pair .shr .shr)), (12, .pair .shr (.pair .shr .shr))] }
def L13 (x : kdens S13.args) : List LoopI := []
def S34 : FSpec := { args := [.val (.slice tLOp), .val (.slice tLOp)], multi := false, res := tLit, mode := .shr, pre := fun _ => True, fn := fun x => Sp.tst x.1 x.2.1 }
def C34 : Ctx := { mkS 9 [] with frz := [7], mds := [(4, .pair .shr .shr), (8, .pair .shr .shr)] }
def L34 (x : kdens S34.args) : List LoopI := []
def S35 : FSpec := { args := [.val tI], multi := false, res := tLOp, mode := .shr, pre := fun _ => True, fn := fun x => Sp.stO x.1 }
def C35 : Ctx := mkS 5 []
def L35 (x : kdens S35.args) : List LoopI := []
def S36 : FSpec := { args := [.val tI], multi := false, res := tLOp, mode := .shr, pre := fun _ => True, fn := fun x => Sp.ldO x.1 }
def C36 : Ctx := mkS 5 []
def L36 (x : kdens S36.args) : List LoopI := []
def S37 : FSpec := { args := [], multi := false, res := tLOp, mode := .shr, pre := fun _ => True, fn := fun _ => Sp.feO }
def C37 : Ctx := mkS 2 []
def L37 (x : kdens S37.args) : List LoopI := []
def S11 : FSpec := { args := [], multi := false, res := .bool, mode := .shr, pre := fun _ => True, fn := fun _ => Sp.exOK }
def C11 : Ctx := { mkS 89 [(13, S13), (34, S34), (35, S35), (36, S36), (37, S37), (38, S38)] with frz := [7, 10, 16, 20, 25, 28], mds := [(1, .pair .shr (.pair .shr .shr)), (2, .pair .shr (.pair .shr .shr)), (3, .pair .shr (.pair .shr .shr)), (4, .pair .shr (.pair .shr .shr)), (31, .pair .shr .shr)] }
def L11 (x : kdens S11.args) : List LoopI := []
end Go.User
namespace Sp
def kinds : List Int := [1, 2, 1, 2, 3, 4]
def mB (x : List (List Int)) (i j : Nat) : Int := (x.getD i []).getD j 0
def mC (x : List (List Int)) (i : Nat) : Nat := (mB x i 0 % 4).toNat
def mK (x : List (List Int)) (i : Nat) : Int := kinds.getD (mB x i 1 % 6).toNat 0
def mX (x : List (List Int)) (i : Nat) : Int := if mK x i = 4 then 0 else mB x i 2 % 3
def mV (x : List (List Int)) (i : Nat) : Int := if mK x i = 1 ∨ mK x i = 4 then 0 else mB x i 3 % 4 + 1
def mOp (x : List (List Int)) (i : Nat) : LOp := (mK x i, mX x i, mV x i, ())
def gro (P : List (List LOp)) (c : Nat) : List (List LOp) := P ++ List.replicate (c + 1 - P.length) []
def mPut (P : List (List LOp)) (c : Nat) (o : LOp) : List (List LOp) := (gro P c).set c ((gro P c).getD c [] ++ [o])
def mN (x : List (List Int)) : Nat → List (List LOp)
  | 0 => []
  | i + 1 => mPut (mN x i) (mC x i) (mOp x i)
def mG (x : List (List Int)) (i j : Nat) : List (List LOp) := mN x i ++ List.replicate j []
def mT (x : List (List Int)) (n : Int) : Nat := min x.length n.toNat
def madeP (x : List (List Int)) (n : Int) : List (List LOp) := if mN x (mT x n) = [] then [[(1, 0, 0, ())]] else mN x (mT x n)
def made (x : List (List Int)) (n : Int) : Lit := (madeP x n, ())
-- the reference's valid
end Sp
namespace Go.User
open Go.Lf
abbrev mL : Md := .pair (.own .shr) .shr
def S12 : FSpec := { args := [.val tRaw, .val tI], multi := false, res := tLit, mode := .shr, pre := fun x => 0 ≤ x.2.1 ∧ x.2.1 ≤ 6, fn := fun x => Sp.made x.1 x.2.1 }
def C12 : Ctx := { mkS 99 [] with frz := [88, 95], mds := [(5, mL), (9, mL), (4, .pair .shr .shr)], fzs := [5] }
def L12 (x : kdens S12.args) : List LoopI := [
  { ι := Nat, inv := fun i => i ≤ Sp.mT x.1 x.2.1, dec := fun i => Sp.mT x.1 x.2.1 - i, ovr := fun i => [(6, .shr tI (i : Int)), (5, .box tLit mL (Sp.mN x.1 i, ()))], keep := [0, 1, 4], sub := fun i => [
    { ι := Nat, inv := fun j => j ≤ Sp.mC x.1 i + 1 - List.length (Sp.mN x.1 i), dec := fun j => Sp.mC x.1 i + 1 - List.length (Sp.mN x.1 i) - j, ovr := fun j => [(5, .box tLit mL (Sp.mG x.1 i j, ()))], keep := [0, 1, 4, 6, 7] }] }]
end Go.User
namespace Go.User
open Go.Lf
end Go.User
namespace Go.User
open Go.Lf
end Go.User
namespace Go.User
open Go.Proofs Go.Lf
set_option maxRecDepth 100000
theorem vc83 : (funI C83 (stpS C83) S83 L83 Try.f83) = (
let q0 : Prop := (True ∧ True) ∧ True;
∀ (x : List Int × Unit),
  let q1 : Nat := x.1.length;
  q1 ≤ (1000000 : Nat) → dFact (Ty.int IntKind.i64).slice x.1 ∧ True → q0 ∧ ((True ∧ True ∧ True) ∧ True) ∧ (x.1 = ([] : List tI.den) → q0 ∧ ([] : List tI.den) = x.1) ∧ (True → ((True ∧ True ∧ (↑((0 : Nat) + q1) : Int) ≤ maxNew ∧ True) ∧ True ∧ True) ∧ x.1 = x.1)) := by kernel_rfl
theorem vc86 : (funI C86 (stpS C86) S86 L86 Try.f86) = (
let q0 : Prop := (True ∧ True) ∧ True;
∀ (x : List (List Int) × Unit),
  let q1 : Nat := x.1.length;
  q1 ≤ (1000000 : Nat) → dFact (Ty.arr (3 : Nat) (Ty.int IntKind.i64)).slice x.1 ∧ True → q0 ∧ ((True ∧ True ∧ True) ∧ True) ∧ (x.1 = ([] : List tV3.den) → q0 ∧ ([] : List tV3.den) = x.1) ∧ (True → ((True ∧ True ∧ (↑((0 : Nat) + q1) : Int) ≤ maxNew ∧ True) ∧ True ∧ True) ∧ x.1 = x.1)) := by kernel_rfl
theorem vc98 : (funI C98 (stpS C98) S98 L98 Try.f98) = (
let q0 : Prop := True ∧ True ∧ True;
∀ (x : (Int × Int × Bool × Unit) × Int × Unit), True → dFact ((Ty.int IntKind.i64).prod ((Ty.int IntKind.i64).prod (Ty.bool.prod Ty.unit))) x.1 ∧ dFact (Ty.int IntKind.i64) x.2.1 ∧ True → (q0 ∧ True) ∧ ((True ∧ True ∧ True ∧ q0) ∧ True) ∧ (x.1.1 == x.2.1) = decide (x.1.1 = x.2.1)) := by kernel_rfl
theorem vc97 : (funI C97 (stpS C97) S97 L97 Try.f97) = (
let q0 : List Ty := tMsg :: ([] : List Ty);
let q1 : Prop := (True ∧ True) ∧ True;
let q2 : Prop := True ∧ True ∧ True;
let q3 : Int := (0 : Int);
let q4 : Prop := q0 = q0;
let q5 : Prop := q2 ∧ True;
let q6 : Int := (1 : Int);
∀ (x : List (Int × Int × Bool × Unit) × Fun q0 Ty.bool × Unit),
  let q7 : Nat := x.1.length;
  let q8 : Int := (↑q7 : Int);
  let q9 : Prop := x.1 = x.1 ∧ (∃ (h1 : q4), ∃ (h2 : Ty.bool = Ty.bool), x.2.1 = x.2.1) ∧ q8 = q8 ∧ True;
  let q10 : Int := Sp.findM (fun (e : Sp.Msg) => x.2.1.2 (e, ())) x.1;
  (∀ (e : Int × Int × Bool × Unit), x.2.1.1 (e, ())) →
    dFact ((Ty.int IntKind.i64).prod ((Ty.int IntKind.i64).prod (Ty.bool.prod Ty.unit))).slice x.1 ∧ True →
      q1 ∧
        ((True ∧ q2) ∧ True) ∧
          (∃ (x_1 : Nat), (x_1 ≤ q7 ∧ ∀ (e : Int × Int × Bool × Unit), e ∈ List.take x_1 x.1 → x.2.1.2 (e, ()) = false) ∧ q3 = (↑x_1 : Int) ∧ q9) ∧
            ∀ (x_1 : Nat),
              let q11 : Bool := decide ((↑x_1 : Int) < q8);
              let q12 : (Int × Int × Bool × Unit) × Unit := (x.1.getD (↑x_1 : Int).toNat (q3, q3, false, ()), ());
              let q13 : Bool := x.2.1.2 q12;
              let q14 : Int := (↑x_1 : Int) + q6;
              (x_1 ≤ q7 ∧ ∀ (e : Int × Int × Bool × Unit), e ∈ List.take x_1 x.1 → x.2.1.2 (e, ()) = false) → dFact (Ty.int IntKind.i64) (↑x_1 : Int) ∧ True → q1 ∧ (q11 = true → q5 ∧ ((True ∧ True ∧ True ∧ inN (↑x_1 : Int) q7 ∧ True ∧ x.2.1.1 q12 ∧ True) ∧ True) ∧ (q13 = true → q5 ∧ (↑x_1 : Int) = q10) ∧ (q13 = false → ((inK IntKind.i64 q14 ∧ True ∧ True) ∧ True) ∧ ∃ (y : Nat), (y ≤ q7 ∧ ∀ (e : Int × Int × Bool × Unit), e ∈ List.take y x.1 → x.2.1.2 (e, ()) = false) ∧ q7 - y < q7 - x_1 ∧ q14 = (↑y : Int) ∧ q9)) ∧ (q11 = false → q1 ∧ -q6 = q10)) := by kernel_rfl
theorem vc84 : (funI C84 (stpS C84) S84 L84 Try.f84) = (
∀ (x : List (Int × Int × Bool × Unit) × Int × Unit), True → dFact ((Ty.int IntKind.i64).prod ((Ty.int IntKind.i64).prod (Ty.bool.prod Ty.unit))).slice x.1 ∧ dFact (Ty.int IntKind.i64) x.2.1 ∧ True → ((True ∧ True ∧ True) ∧ True) ∧ ((True ∧ True) ∧ True ∧ (∀ (e : Int × Int × Bool × Unit), True) ∧ True ∧ True) ∧ Sp.findM (fun (e : Sp.Msg) => decide (e.1 = x.2.1)) x.1 = Sp.plc x.1 x.2.1) := by kernel_rfl
theorem vc75 : (funI C75 (stpS C75) S75 L75 Try.f75) = (
let q0 : Prop := True ∧ True ∧ True;
let q1 : Prop := q0 ∧ True;
let q2 : Int := (0 : Int);
let q3 : Int := (3 : Int);
let q4 : Int := (2 : Int);
let q5 : Int := (100 : Int);
∀ (x : (Int × Int × Int × Unit) × Unit),
  let q6 : Bool := x.1.1 == (1 : Int);
  let q7 : Bool := decide (q2 ≤ x.1.2.1);
  let q8 : Prop := (true && bif q7 then true else false) = true → True;
  let q9 : Bool := bif q7 then decide (x.1.2.1 < q3) else false;
  let q10 : Prop := (true && bif q9 then true else false) = true → True;
  let q11 : Bool := x.1.1 == q4;
  let q12 : Prop := q11 = true;
  let q13 : Bool := bif q9 then decide (-q5 ≤ x.1.2.2.1) else false;
  let q14 : Prop := (true && bif q13 then true else false) = true → True;
  let q15 : Prop := ((True ∧ True ∧ True ∧ True ∧ q8 ∧ q8 ∧ q8 ∧ True ∧ True ∧ q10 ∧ q10 ∧ q10 ∧ True ∧ True ∧ q14 ∧ q14 ∧ q14 ∧ q0) ∧ True) ∧ (bif q13 then decide (x.1.2.2.1 ≤ q5) else false) = Sp.usual x.1;
  let q16 : Prop := q11 = false;
  let q17 : Prop := ((True ∧ True ∧ q0) ∧ True) ∧ (decide (x.1.1 = (4 : Int)) && (decide (x.1.2.1 = q2) && (decide (x.1.2.2.1 = q2) && true))) = Sp.usual x.1;
  let q18 : Bool := x.1.1 == q3;
  True → dFact ((Ty.int IntKind.i64).prod ((Ty.int IntKind.i64).prod ((Ty.int IntKind.i64).prod Ty.unit))) x.1 ∧ True → q1 ∧ q1 ∧ q1 ∧ (q6 = true → ((True ∧ True ∧ True ∧ True ∧ q8 ∧ q8 ∧ q8 ∧ True ∧ True ∧ q10 ∧ q10 ∧ q10 ∧ q0) ∧ True) ∧ (bif q9 then x.1.2.2.1 == q2 else false) = Sp.usual x.1) ∧ (q6 = false → q1 ∧ (q12 → (q12 → q15) ∧ (q16 → q17)) ∧ (q16 → q1 ∧ (q18 = true → q15) ∧ (q18 = false → q17)))) := by kernel_rfl
theorem vc76 : (funI C76 (stpS C76) S76 L76 Try.f76) = (
let q0 : Nat × List Int := ((75 : Go.FuncId), ([] : List Int));
let q1 : Prop := True ∧ True ∧ True;
∀ (x : (Int × Int × Int × Unit) × Option (Nat × List Int) × Unit),
  let q2 : Bool := !Sp.usual x.1;
  x.2.1 = Option.some q0 → dFact ((Ty.int IntKind.i64).prod ((Ty.int IntKind.i64).prod ((Ty.int IntKind.i64).prod Ty.unit))) x.1 ∧ dFact (Ty.abs Abs.clo) x.2.1 ∧ True → (q1 ∧ True) ∧ ((True ∧ True ∧ (x.2.1.isSome = true ∧ Option.rec ((0 : Go.FuncId), ([] : List Int)) (fun (val : Go.FuncId × List Int) => (fun (x : Go.FuncId × List Int) => x) val) x.2.1 = q0) ∧ q1) ∧ True) ∧ q2 = q2) := by kernel_rfl
theorem vc94 : (funI C94 (stpS C94) S94 L94 Try.f94) = (
let q0 : List Ty := tLOp :: ([] : List Ty);
let q1 : Prop := (True ∧ True) ∧ True;
let q2 : Prop := True ∧ True ∧ True;
let q3 : Int := (0 : Int);
let q4 : Prop := q0 = q0;
let q5 : Prop := q2 ∧ True;
let q6 : Int := (1 : Int);
∀ (x : List (Int × Int × Int × Unit) × Fun q0 Ty.bool × Unit),
  let q7 : Nat := x.1.length;
  let q8 : Int := (↑q7 : Int);
  let q9 : Prop := x.1 = x.1 ∧ (∃ (h1 : q4), ∃ (h2 : Ty.bool = Ty.bool), x.2.1 = x.2.1) ∧ q8 = q8 ∧ True;
  let q10 : Int := Sp.findO (fun (e : Sp.LOp) => x.2.1.2 (e, ())) x.1;
  (∀ (e : Int × Int × Int × Unit), x.2.1.1 (e, ())) →
    dFact ((Ty.int IntKind.i64).prod ((Ty.int IntKind.i64).prod ((Ty.int IntKind.i64).prod Ty.unit))).slice x.1 ∧ True →
      q1 ∧
        ((True ∧ q2) ∧ True) ∧
          (∃ (x_1 : Nat), (x_1 ≤ q7 ∧ ∀ (e : Int × Int × Int × Unit), e ∈ List.take x_1 x.1 → x.2.1.2 (e, ()) = false) ∧ q3 = (↑x_1 : Int) ∧ q9) ∧
            ∀ (x_1 : Nat),
              let q11 : Bool := decide ((↑x_1 : Int) < q8);
              let q12 : (Int × Int × Int × Unit) × Unit := (x.1.getD (↑x_1 : Int).toNat (q3, q3, q3, ()), ());
              let q13 : Bool := x.2.1.2 q12;
              let q14 : Int := (↑x_1 : Int) + q6;
              (x_1 ≤ q7 ∧ ∀ (e : Int × Int × Int × Unit), e ∈ List.take x_1 x.1 → x.2.1.2 (e, ()) = false) → dFact (Ty.int IntKind.i64) (↑x_1 : Int) ∧ True → q1 ∧ (q11 = true → q5 ∧ ((True ∧ True ∧ True ∧ inN (↑x_1 : Int) q7 ∧ True ∧ x.2.1.1 q12 ∧ True) ∧ True) ∧ (q13 = true → q5 ∧ (↑x_1 : Int) = q10) ∧ (q13 = false → ((inK IntKind.i64 q14 ∧ True ∧ True) ∧ True) ∧ ∃ (y : Nat), (y ≤ q7 ∧ ∀ (e : Int × Int × Int × Unit), e ∈ List.take y x.1 → x.2.1.2 (e, ()) = false) ∧ q7 - y < q7 - x_1 ∧ q14 = (↑y : Int) ∧ q9)) ∧ (q11 = false → q1 ∧ -q6 = q10)) := by kernel_rfl
theorem vc77 : (funI C77 (stpS C77) S77 L77 Try.f77) = (
∀ (x : List (Int × Int × Int × Unit) × Fun (tLOp :: ([] : List Ty)) Ty.bool × Unit),
  let q0 : Prop := ∀ (e : Int × Int × Int × Unit), x.2.1.1 (e, ());
  q0 → dFact ((Ty.int IntKind.i64).prod ((Ty.int IntKind.i64).prod ((Ty.int IntKind.i64).prod Ty.unit))).slice x.1 ∧ True → ((True ∧ True) ∧ True) ∧ ((True ∧ True ∧ q0 ∧ True ∧ True ∧ True) ∧ True) ∧ decide (Sp.findO (fun (e : Sp.LOp) => x.2.1.2 (e, ())) x.1 ≥ (0 : Int)) = x.1.any fun (e : tLOp.den) => x.2.1.2 (e, ())) := by kernel_rfl
theorem vc100 : (funI C100 (stpS C100) S100 L100 Try.f100) = (
∀ (x : Int × Unit), True → dFact (Ty.int IntKind.i64) x.1 ∧ True → ((True ∧ True) ∧ True) ∧ ((True ∧ True ∧ True ∧ True ∧ True) ∧ True) ∧ (x.1 != x.1) = false) := by kernel_rfl
theorem vc91 : (funI C91 (stpS C91) S91 L91 Try.f91) = (
let q0 : Prop := (True ∧ True) ∧ True;
let q1 : Prop := (True ∧ True ∧ True ∧ True) ∧ True;
let q2 : Prop := false = true;
let q3 : Int := (0 : Int);
let q4 : Prop := false = false;
let q5 : Int := (1 : Int);
let q6 : Int := -q5;
∀ (x : Int × Int × Unit),
  let q7 : Int := Sp.cmp3 x.1 x.2.1;
  let q8 : Prop := q0 ∧ q3 = q7;
  let q9 : Prop := q0 ∧ q6 = q7;
  let q10 : Prop := q0 ∧ q5 = q7;
  let q11 : Bool := decide (x.1 < x.2.1);
  let q12 : Bool := decide (x.1 > x.2.1);
  True → dFact (Ty.int IntKind.i64) x.1 ∧ dFact (Ty.int IntKind.i64) x.2.1 ∧ True → q0 ∧ q1 ∧ q1 ∧ q0 ∧ (q2 → q0 ∧ (q2 → q8) ∧ (q4 → q9)) ∧ (q4 → q0 ∧ (q2 → q10) ∧ (q4 → q1 ∧ (q11 = true → q9) ∧ (q11 = false → q1 ∧ (q12 = true → q10) ∧ (q12 = false → q8))))) := by kernel_rfl
theorem vc70 : (funI C70 (stpS C70) S70 L70 Try.f70) = (
let q0 : Prop := (True ∧ True) ∧ True;
let q1 : Prop := True ∧ True ∧ True;
let q2 : Prop := True ∧ q1;
let q3 : Int := (0 : Int);
let q4 : Prop := True ∧ q2;
let q5 : Prop := q4 ∧ True;
let q6 : Int := (1 : Int);
let q7 : Prop := q1 ∧ True;
∀ (x : List Int × List Int × Unit),
  let q8 : Nat := x.1.length;
  let q9 : Nat := x.2.1.length;
  let q10 : Int := Sp.cmpI x.1 x.2.1;
  let q11 : Prop := x.1 = x.1;
  let q12 : Int := (↑q8 : Int);
  let q13 : Prop := q11 ∧ x.2.1 = x.2.1 ∧ q11 ∧ q12 = q12 ∧ True;
  let q14 : Int := (↑q9 : Int);
  let q15 : Bool := decide (q12 < q14);
  True →
    dFact (Ty.int IntKind.i64).slice x.1 ∧ dFact (Ty.int IntKind.i64).slice x.2.1 ∧ True →
      q0 ∧
        (q2 ∧ True) ∧
          (∃ (x_1 : Nat), (x_1 ≤ q8 ∧ x_1 ≤ q9 ∧ Sp.cmpI (List.drop x_1 x.1) (List.drop x_1 x.2.1) = q10) ∧ q3 = (↑x_1 : Int) ∧ q13) ∧
            ∀ (x_1 : Nat),
              let q16 : Bool := decide ((↑x_1 : Int) < q12);
              let q17 : Bool := decide ((↑x_1 : Int) ≥ q14);
              let q18 : Nat := (↑x_1 : Int).toNat;
              let q19 : Int := Sp.cmp3 (x.1.getD q18 q3) (x.2.1.getD q18 q3);
              let q20 : Bool := q19 != q3;
              let q21 : Int := (↑x_1 : Int) + q6;
              x_1 ≤ q8 ∧ x_1 ≤ q9 ∧ Sp.cmpI (List.drop x_1 x.1) (List.drop x_1 x.2.1) = q10 → dFact (Ty.int IntKind.i64) (↑x_1 : Int) ∧ True → q0 ∧ (q16 = true → ((True ∧ inN (↑x_1 : Int) q8 ∧ q2) ∧ True) ∧ q5 ∧ (q17 = true → q0 ∧ q6 = q10) ∧ (q17 = false → ((True ∧ True ∧ inN (↑x_1 : Int) q9 ∧ q1) ∧ True) ∧ q5 ∧ q7 ∧ (q20 = true → q7 ∧ q19 = q10) ∧ (q20 = false → ((inK IntKind.i64 q21 ∧ True ∧ True) ∧ True) ∧ ∃ (y : Nat), (y ≤ q8 ∧ y ≤ q9 ∧ Sp.cmpI (List.drop y x.1) (List.drop y x.2.1) = q10) ∧ q8 - y < q8 - x_1 ∧ q21 = (↑y : Int) ∧ q13))) ∧ (q16 = false → ((True ∧ q4) ∧ True) ∧ (q15 = true → q0 ∧ -q6 = q10) ∧ (q15 = false → q0 ∧ q3 = q10))) := by kernel_rfl
theorem vc69 : (funI C69 (stpS C69) S69 L69 Try.f69) = (
let q0 : Prop := (True ∧ True) ∧ True;
let q1 : Prop := True ∧ True ∧ True;
let q2 : Prop := (True ∧ q1) ∧ True;
let q3 : Int := (0 : Int);
let q4 : Prop := q3 = q3;
let q5 : Prop := q1 ∧ True;
let q6 : Int := (1 : Int);
∀ (x : List Int × Unit),
  let q7 : Nat := x.1.length;
  let q8 : Prop := x.1 = x.1;
  let q9 : Int := (↑q7 : Int);
  let q10 : Prop := q8 ∧ q4 ∧ q8 ∧ q9 = q9 ∧ True;
  True →
    dFact (Ty.int IntKind.i64).slice x.1 ∧ True →
      q0 ∧
        q0 ∧
          q2 ∧
            (∃ (x_1 : Nat), (x_1 ≤ q7 ∧ Sp.orI (List.drop x_1 x.1) = Sp.orI x.1) ∧ q3 = (↑x_1 : Int) ∧ q10) ∧
              ∀ (x_1 : Nat),
                let q11 : Bool := decide ((↑x_1 : Int) < q9);
                let q12 : Int := x.1.getD (↑x_1 : Int).toNat q3;
                let q13 : Bool := q12 != q3;
                let q14 : Int := (↑x_1 : Int) + q6;
                x_1 ≤ q7 ∧ Sp.orI (List.drop x_1 x.1) = Sp.orI x.1 → dFact (Ty.int IntKind.i64) (↑x_1 : Int) ∧ True → q0 ∧ (q11 = true → ((inN (↑x_1 : Int) q7 ∧ q1) ∧ True) ∧ q2 ∧ (q13 = true → q5 ∧ q12 = Sp.orI x.1) ∧ (q13 = false → ((inK IntKind.i64 q14 ∧ True ∧ True) ∧ True) ∧ ∃ (y : Nat), (y ≤ q7 ∧ Sp.orI (List.drop y x.1) = Sp.orI x.1) ∧ q7 - y < q7 - x_1 ∧ q14 = (↑y : Int) ∧ q10)) ∧ (q11 = false → q5 ∧ q3 = Sp.orI x.1)) := by kernel_rfl
theorem vc68 : (funI C68 (stpS C68) S68 L68 Try.f68) = (
let q0 : Prop := True ∧ True ∧ True ∧ True;
∀ (x : (List Int × List Int × Unit) × (List Int × List Int × Unit) × Unit), True → dFact ((Ty.int IntKind.i64).slice.prod ((Ty.int IntKind.i64).slice.prod Ty.unit)) x.1 ∧ dFact ((Ty.int IntKind.i64).slice.prod ((Ty.int IntKind.i64).slice.prod Ty.unit)) x.2.1 ∧ True → (q0 ∧ True) ∧ ((True ∧ True ∧ True ∧ True ∧ True ∧ True ∧ True ∧ True ∧ True ∧ True ∧ q0) ∧ True) ∧ Sp.orI (Sp.cmpI x.1.1 x.2.1.1 :: Sp.cmpI x.1.2.1 x.2.1.2.1 :: ([] : List tI.den)) = Sp.cmpO x.1 x.2.1) := by kernel_rfl
theorem vc73 : (funI C73 (stpS C73) S73 L73 Try.f73) = (
let q0 : Nat × List Int := ((68 : Go.FuncId), ([] : List Int));
let q1 : Prop := True ∧ True ∧ True;
let q2 : Prop := True ∧ q1;
let q3 : Prop := q2 ∧ True;
let q4 : Int := (0 : Int);
let q5 : Int := (1 : Int);
let q6 : Int := (2 : (Ty.int IntKind.u64).den) ^ shiftN IntKind.u64 q5;
let q7 : Nat × List Int := ((0 : Go.FuncId), ([] : List Int));
let q8 : List Int × List Int × Unit := (([] : List tI.den), ([] : List tI.den), ());
∀ (x : List (List Int × List Int × Unit) × (List Int × List Int × Unit) × Option (Nat × List Int) × Unit),
  let q9 : Nat := x.1.length;
  let q10 : Int := (↑q9 : Int);
  let q11 : Prop := x.1 = x.1 ∧ x.2.2.1 = x.2.2.1 ∧ x.2.1 = x.2.1 ∧ q10 = q10 ∧ True;
  let q12 : Prop := x.2.2.1.isSome = true ∧ Option.rec q7 (fun (val : Go.FuncId × List Int) => (fun (x : Go.FuncId × List Int) => x) val) x.2.2.1 = q0;
  x.2.2.1 = Option.some q0 ∧ q9 ≤ (500000000 : Nat) ∧ Sp.sortedO x.1 →
    dFact ((Ty.int IntKind.i64).slice.prod ((Ty.int IntKind.i64).slice.prod Ty.unit)).slice x.1 ∧ dFact ((Ty.int IntKind.i64).slice.prod ((Ty.int IntKind.i64).slice.prod Ty.unit)) x.2.1 ∧ dFact (Ty.abs Abs.clo) x.2.2.1 ∧ True →
      q3 ∧
        q3 ∧
          q3 ∧
            (∃ (x_1 : Nat × Nat), (x_1.1 ≤ x_1.2 ∧ x_1.2 ≤ q9 ∧ (∀ (k : Nat), k < x_1.1 → Sp.cmpO (x.1.getD k Sp.out0) x.2.1 < q4) ∧ ∀ (k : Nat), x_1.2 ≤ k → k < q9 → ¬Sp.cmpO (x.1.getD k Sp.out0) x.2.1 < q4) ∧ q4 = (↑x_1.1 : Int) ∧ q10 = (↑x_1.2 : Int) ∧ q11) ∧
              ∀ (x_1 : Nat × Nat),
                let q13 : Int := (↑x_1.1 : Int);
                let q14 : Int := (↑x_1.2 : Int);
                let q15 : Bool := decide (q13 < q14);
                let q16 : Int := q13 + q14;
                let q17 : Int := IntKind.i64.wrap (IntKind.u64.wrap q16 / q6);
                let q18 : Bool := decide (Sp.cmpO (x.1.getD q17.toNat q8) x.2.1 < q4);
                let q19 : Int := q17 + q5;
                let q20 : Bool := decide (q13 < q10);
                let q21 : Prop := (true && bif q20 then true else false) = true;
                let q22 : Prop := q21 → True;
                (x_1.1 ≤ x_1.2 ∧ x_1.2 ≤ q9 ∧ (∀ (k : Nat), k < x_1.1 → Sp.cmpO (x.1.getD k Sp.out0) x.2.1 < q4) ∧ ∀ (k : Nat), x_1.2 ≤ k → k < q9 → ¬Sp.cmpO (x.1.getD k Sp.out0) x.2.1 < q4) → dFact (Ty.int IntKind.i64) q13 ∧ dFact (Ty.int IntKind.i64) q14 ∧ True → q3 ∧ (q15 = true → ((True ∧ True ∧ inK IntKind.i64 q16 ∧ True ∧ q4 ≤ q5 ∧ q1) ∧ True) ∧ ((True ∧ True ∧ True ∧ inN q17 q9 ∧ True ∧ True ∧ q12 ∧ True ∧ True) ∧ True) ∧ (q18 = true → ((True ∧ inK IntKind.i64 q19 ∧ True ∧ True) ∧ True) ∧ ∃ (y : Nat × Nat), (y.1 ≤ y.2 ∧ y.2 ≤ q9 ∧ (∀ (k : Nat), k < y.1 → Sp.cmpO (x.1.getD k Sp.out0) x.2.1 < q4) ∧ ∀ (k : Nat), y.2 ≤ k → k < q9 → ¬Sp.cmpO (x.1.getD k Sp.out0) x.2.1 < q4) ∧ y.2 - y.1 < x_1.2 - x_1.1 ∧ q19 = (↑y.1 : Int) ∧ q14 = (↑y.2 : Int) ∧ q11) ∧ (q18 = false → (q1 ∧ True) ∧ ∃ (y : Nat × Nat), (y.1 ≤ y.2 ∧ y.2 ≤ q9 ∧ (∀ (k : Nat), k < y.1 → Sp.cmpO (x.1.getD k Sp.out0) x.2.1 < q4) ∧ ∀ (k : Nat), y.2 ≤ k → k < q9 → ¬Sp.cmpO (x.1.getD k Sp.out0) x.2.1 < q4) ∧ y.2 - y.1 < x_1.2 - x_1.1 ∧ q13 = (↑y.1 : Int) ∧ q17 = (↑y.2 : Int) ∧ q11)) ∧ (q15 = false → ((True ∧ True ∧ True ∧ True ∧ True ∧ q22 ∧ q22 ∧ q22 ∧ (q21 → inN q13 q9) ∧ q22 ∧ q22 ∧ (q21 → q12) ∧ q22 ∧ q2) ∧ True) ∧ (q13, bif q20 then Sp.cmpO (x.1.getD q13.toNat q8) x.2.1 == q4 else false, ()) = ((↑(Sp.below x.1 x.2.1) : Int), Sp.foundO x.1 x.2.1, ()))) := by kernel_rfl
theorem vc18 : (funI C18 (stpS C18) S18 L18 Try.f18) = (
let q0 : Prop := True ∧ True ∧ True;
let q1 : Prop := q0 ∧ True;
let q2 : Prop := (True ∧ True) ∧ True;
let q3 : Int := (0 : Int);
let q4 : Int := (1 : Int);
∀ (x : (List (List (Int × Int × Int × Unit)) × Unit) × Unit),
  let q5 : Nat := x.1.1.length;
  let q6 : Prop := x.1 = x.1 ∧ True;
  Sp.total x.1.1 ≤ (1000000 : Nat) →
    dFact (((Ty.int IntKind.i64).prod ((Ty.int IntKind.i64).prod ((Ty.int IntKind.i64).prod Ty.unit))).slice.slice.prod Ty.unit) x.1 ∧ True →
      q1 ∧
        q2 ∧
          q2 ∧
            (∃ (x_1 : Nat), x_1 ≤ q5 ∧ q3 = (↑x_1 : Int) ∧ q3 = (↑(Sp.total (List.take x_1 x.1.1)) : Int) ∧ q6) ∧
              ∀ (x_1 : Nat),
                let q7 : Int := (↑(Sp.total (List.take x_1 x.1.1)) : Int);
                let q8 : Bool := decide ((↑x_1 : Int) < (↑q5 : Int));
                let q9 : Int := q7 + (↑(List.length (x.1.1.getD (↑x_1 : Int).toNat (([] : List tLOp.den)))) : Int);
                let q10 : Int := (↑x_1 : Int) + q4;
                x_1 ≤ q5 → dFact (Ty.int IntKind.i64) (↑x_1 : Int) ∧ dFact (Ty.int IntKind.i64) q7 ∧ True → ((True ∧ True ∧ True ∧ q0) ∧ True) ∧ (q8 = true → ((True ∧ True ∧ True ∧ True ∧ inN (↑x_1 : Int) q5 ∧ True ∧ True ∧ inK IntKind.i64 q9 ∧ True ∧ True) ∧ True) ∧ ((True ∧ inK IntKind.i64 q10 ∧ True ∧ True) ∧ True) ∧ ∃ (y : Nat), y ≤ q5 ∧ q5 - y < q5 - x_1 ∧ q10 = (↑y : Int) ∧ q9 = (↑(Sp.total (List.take y x.1.1)) : Int) ∧ q6) ∧ (q8 = false → q1 ∧ q7 = (↑(Sp.total x.1.1) : Int))) := by kernel_rfl
theorem vc49 : (funI C49 (stpS C49) S49 L49 Try.f49) = (
let q0 : Prop := (True ∧ True) ∧ True;
let q1 : Int := (0 : Int);
let q2 : Prop := True ∧ True ∧ True;
let q3 : Int := (1 : Int);
∀ (x : List Int × List Int × Unit),
  let q4 : Nat := x.1.length;
  let q5 : Nat := x.2.1.length;
  let q6 : Prop := x.1 = x.1 ∧ x.2.1 = x.2.1 ∧ True;
  let q7 : Int := (↑q4 : Int);
  let q8 : Int := (↑q5 : Int);
  let q9 : Int := Sp.cmpR x.1 x.2.1;
  let q10 : Int := q7 - q8;
  True →
    dFact (Ty.int IntKind.i64).slice x.1 ∧ dFact (Ty.int IntKind.i64).slice x.2.1 ∧ True →
      q0 ∧
        q0 ∧
          (∃ (x_1 : Nat), (x_1 ≤ q4 ∧ x_1 ≤ q5 ∧ List.take x_1 x.1 = List.take x_1 x.2.1) ∧ q1 = (↑x_1 : Int) ∧ q6) ∧
            ∀ (x_1 : Nat),
              let q11 : Bool := decide ((↑x_1 : Int) < q7);
              let q12 : Prop := (true && bif q11 then true else false) = true → True;
              let q13 : Bool := bif q11 then decide ((↑x_1 : Int) < q8) else false;
              let q14 : Prop := inN (↑x_1 : Int) q4;
              let q15 : Prop := inN (↑x_1 : Int) q5;
              let q16 : Nat := (↑x_1 : Int).toNat;
              let q17 : Int := x.1.getD q16 q1;
              let q18 : Int := x.2.1.getD q16 q1;
              let q19 : Bool := q17 != q18;
              let q20 : Int := (↑x_1 : Int) + q3;
              x_1 ≤ q4 ∧ x_1 ≤ q5 ∧ List.take x_1 x.1 = List.take x_1 x.2.1 → dFact (Ty.int IntKind.i64) (↑x_1 : Int) ∧ True → ((True ∧ True ∧ True ∧ True ∧ True ∧ q12 ∧ q12 ∧ q12 ∧ q12 ∧ True ∧ True) ∧ True) ∧ (q13 = true → ((True ∧ True ∧ q14 ∧ True ∧ True ∧ True ∧ q15 ∧ q2) ∧ True) ∧ (q19 = true → ((True ∧ True ∧ q14 ∧ True ∧ True ∧ True ∧ q15 ∧ True ∧ q2) ∧ True) ∧ IntKind.i64.wrap (q17 - q18) = q9) ∧ (q19 = false → ((True ∧ inK IntKind.i64 q20 ∧ True ∧ True) ∧ True) ∧ ∃ (y : Nat), (y ≤ q4 ∧ y ≤ q5 ∧ List.take y x.1 = List.take y x.2.1) ∧ q4 - y < q4 - x_1 ∧ q20 = (↑y : Int) ∧ q6)) ∧ (q13 = false → ((True ∧ True ∧ True ∧ True ∧ inK IntKind.i64 q10 ∧ True ∧ True) ∧ True) ∧ q10 = q9)) := by kernel_rfl
theorem vc41 : (funI C41 (stpS C41) S41 L41 Try.f41) = (
∀ (x : List Int × List Int × Unit),
  let q0 : Bool := (↑x.1.length : Int) == (↑x.2.1.length : Int);
  let q1 : Prop := (true && bif q0 then true else false) = true → True;
  True → dFact (Ty.int IntKind.i64).slice x.1 ∧ dFact (Ty.int IntKind.i64).slice x.2.1 ∧ True → ((True ∧ True) ∧ True) ∧ ((True ∧ True ∧ True ∧ True ∧ True ∧ True ∧ q1 ∧ q1 ∧ q1 ∧ q1 ∧ True ∧ True ∧ True) ∧ True) ∧ (bif q0 then Sp.cmpR x.1 x.2.1 == (0 : Int) else false) = Sp.sameI x.1 x.2.1) := by kernel_rfl
theorem vc22 : (funI C22 (stpS C22) S22 L22 Try.f22) = (
let q0 : Prop := True ∧ True ∧ True;
let q1 : Prop := True ∧ q0;
let q2 : Prop := (True ∧ True ∧ True ∧ q1) ∧ True;
let q3 : Prop := q0 ∧ True;
∀ (x : (List Int × List Int × Unit) × (List Int × List Int × Unit) × Unit),
  let q4 : Int := Sp.cmpR x.1.1 x.2.1.1;
  let q5 : Bool := q4 != (0 : Int);
  let q6 : Int := Sp.cmpQ x.1 x.2.1;
  True → dFact ((Ty.int IntKind.i64).slice.prod ((Ty.int IntKind.i64).slice.prod Ty.unit)) x.1 ∧ dFact ((Ty.int IntKind.i64).slice.prod ((Ty.int IntKind.i64).slice.prod Ty.unit)) x.2.1 ∧ True → (q1 ∧ True) ∧ q2 ∧ q3 ∧ (q5 = true → q3 ∧ q4 = q6) ∧ (q5 = false → q2 ∧ Sp.cmpR x.1.2.1 x.2.1.2.1 = q6)) := by kernel_rfl
theorem vc40 : (funI C40 (stpS C40) S40 L40 Try.f40) = (
let q0 : Prop := (True ∧ True ∧ True) ∧ True;
let q1 : Int := (0 : Int);
let q2 : List Int × List Int × Unit := (([] : List tI.den), ([] : List tI.den), ());
let q3 : Int := (1 : Int);
∀ (x : List (List Int × List Int × Unit) × (List Int × List Int × Unit) × Unit),
  let q4 : Nat := x.1.length;
  let q5 : Nat := Sp.firstN x.1 x.2.1;
  let q6 : Prop := x.1 = x.1 ∧ x.2.1 = x.2.1 ∧ True;
  let q7 : Int := (↑q4 : Int);
  let q8 : List (List Int × List Int × Unit) := Sp.added x.1 x.2.1;
  let q9 : List (List Int × List Int × Unit) := x.2.1 :: ([] : List tOut.den);
  q4 ≤ (1000000 : Nat) →
    dFact ((Ty.int IntKind.i64).slice.prod ((Ty.int IntKind.i64).slice.prod Ty.unit)).slice x.1 ∧ dFact ((Ty.int IntKind.i64).slice.prod ((Ty.int IntKind.i64).slice.prod Ty.unit)) x.2.1 ∧ True →
      q0 ∧
        ((True ∧ True) ∧ True) ∧
          (∃ (x : Nat), x ≤ q5 ∧ q1 = (↑x : Int) ∧ q6) ∧
            ∀ (x_1 : Nat),
              let q10 : Bool := decide ((↑x_1 : Int) < q7);
              let q11 : Prop := (true && bif q10 then true else false) = true;
              let q12 : Prop := q11 → True;
              let q13 : Prop := (True ∧ True ∧ True ∧ True ∧ True ∧ q12 ∧ q12 ∧ (q11 → inN (↑x_1 : Int) q4) ∧ q12 ∧ q12 ∧ q12 ∧ q12 ∧ True ∧ True) ∧ True;
              let q14 : Int := Sp.cmpQ (x.1.getD (↑x_1 : Int).toNat q2) x.2.1;
              let q15 : Bool := bif q10 then decide (q14 < q1) else false;
              let q16 : Int := (↑x_1 : Int) + q3;
              let q17 : Bool := bif q10 then q14 == q1 else false;
              let q18 : List (List Int × List Int × Unit) := win q1 (↑x_1 : Int) x.1;
              let q19 : Nat := q18.length;
              let q20 : List (List Int × List Int × Unit) := q18 ++ q9;
              let q21 : List (List Int × List Int × Unit) := win (↑x_1 : Int) q7 x.1;
              x_1 ≤ q5 → dFact (Ty.int IntKind.i64) (↑x_1 : Int) ∧ True → q13 ∧ (q15 = true → ((True ∧ inK IntKind.i64 q16 ∧ True ∧ True) ∧ True) ∧ ∃ (y : Nat), y ≤ q5 ∧ q5 - y < q5 - x_1 ∧ q16 = (↑y : Int) ∧ q6) ∧ (q15 = false → q13 ∧ (q17 = true → q0 ∧ x.1 = q8) ∧ (q17 = false → ((True ∧ True ∧ True ∧ winI q1 (↑x_1 : Int) q4 ∧ (↑((0 : Nat) + q19) : Int) ≤ maxNew ∧ True ∧ True ∧ (↑(q19 + q9.length) : Int) ≤ maxNew ∧ True ∧ True ∧ winI (↑x_1 : Int) q7 q4 ∧ (↑(q20.length + q21.length) : Int) ≤ maxNew ∧ True) ∧ True ∧ True) ∧ q20 ++ q21 = q8))) := by kernel_rfl
theorem vc15 : (funI C15 (stpS C15) S15 L15 Try.f15) = (
let q0 : Nat := (1000000 : Nat);
let q1 : Prop := (True ∧ True) ∧ True;
let q2 : Prop := True ∧ True ∧ True ∧ True ∧ True;
let q3 : Int := (1 : Int);
∀ (x : List (List Int × List Int × Unit) × List (List Int × List Int × Unit) × Unit),
  let q4 : Nat := x.2.1.length;
  let q5 : Prop := q4 ≤ q0;
  let q6 : Nat := x.1.length;
  let q7 : Prop := x.1 = x.1 ∧ x.2.1 = x.2.1 ∧ True;
  let q8 : Bool := Sp.inside x.1 x.2.1;
  q5 →
    dFact ((Ty.int IntKind.i64).slice.prod ((Ty.int IntKind.i64).slice.prod Ty.unit)).slice x.1 ∧ dFact ((Ty.int IntKind.i64).slice.prod ((Ty.int IntKind.i64).slice.prod Ty.unit)).slice x.2.1 ∧ True →
      q1 ∧
        q1 ∧
          (∃ (x_1 : Nat), (x_1 ≤ q6 ∧ Sp.inside (List.take x_1 x.1) x.2.1 = true) ∧ (0 : Int) = (↑x_1 : Int) ∧ q7) ∧
            ∀ (x_1 : Nat),
              let q9 : Bool := decide ((↑x_1 : Int) < (↑q6 : Int));
              let q10 : Bool := (↑(Sp.added x.2.1 (x.1.getD (↑x_1 : Int).toNat (([] : List tI.den), ([] : List tI.den), ()))).length : Int) != (↑q4 : Int);
              let q11 : Int := (↑x_1 : Int) + q3;
              x_1 ≤ q6 ∧ Sp.inside (List.take x_1 x.1) x.2.1 = true → dFact (Ty.int IntKind.i64) (↑x_1 : Int) ∧ True → (q2 ∧ True) ∧ (q9 = true → ((True ∧ True ∧ True ∧ inN (↑x_1 : Int) q6 ∧ True ∧ q5 ∧ q2) ∧ True) ∧ (q10 = true → q1 ∧ false = q8) ∧ (q10 = false → ((True ∧ inK IntKind.i64 q11 ∧ True ∧ True) ∧ True) ∧ ∃ (y : Nat), (y ≤ q6 ∧ Sp.inside (List.take y x.1) x.2.1 = true) ∧ q6 - y < q6 - x_1 ∧ q11 = (↑y : Int) ∧ q7)) ∧ (q9 = false → q1 ∧ true = q8)) := by kernel_rfl
theorem vc38 : (funI C38 (stpS C38) S38 L38 Try.f38) = (
let q0 : Prop := (True ∧ True) ∧ True;
let q1 : Prop := True ∧ True ∧ True ∧ True ∧ True;
let q2 : Int := (1 : Int);
∀ (x : List (List Int × List Int × Unit) × Int × Int × Unit),
  let q3 : Nat := x.1.length;
  let q4 : Prop := x.1 = x.1 ∧ x.2.1 = x.2.1 ∧ x.2.2.1 = x.2.2.1 ∧ True;
  let q5 : Bool := Sp.rds x.1 x.2.1 x.2.2.1;
  True →
    dFact ((Ty.int IntKind.i64).slice.prod ((Ty.int IntKind.i64).slice.prod Ty.unit)).slice x.1 ∧ dFact (Ty.int IntKind.i64) x.2.1 ∧ dFact (Ty.int IntKind.i64) x.2.2.1 ∧ True →
      q0 ∧
        q0 ∧
          (∃ (x_1 : Nat), (x_1 ≤ q3 ∧ Sp.rds (List.take x_1 x.1) x.2.1 x.2.2.1 = false) ∧ (0 : Int) = (↑x_1 : Int) ∧ q4) ∧
            ∀ (x_1 : Nat),
              let q6 : Bool := decide ((↑x_1 : Int) < (↑q3 : Int));
              let q7 : Bool := Sp.sameI (x.1.getD (↑x_1 : Int).toNat (([] : List tI.den), ([] : List tI.den), ())).1 (x.2.1 :: x.2.2.1 :: ([] : List tI.den));
              let q8 : Int := (↑x_1 : Int) + q2;
              x_1 ≤ q3 ∧ Sp.rds (List.take x_1 x.1) x.2.1 x.2.2.1 = false → dFact (Ty.int IntKind.i64) (↑x_1 : Int) ∧ True → (q1 ∧ True) ∧ (q6 = true → ((True ∧ True ∧ inN (↑x_1 : Int) q3 ∧ True ∧ True ∧ q1) ∧ True) ∧ (q7 = true → q0 ∧ true = q5) ∧ (q7 = false → ((True ∧ inK IntKind.i64 q8 ∧ True ∧ True) ∧ True) ∧ ∃ (y : Nat), (y ≤ q3 ∧ Sp.rds (List.take y x.1) x.2.1 x.2.2.1 = false) ∧ q3 - y < q3 - x_1 ∧ q8 = (↑y : Int) ∧ q4)) ∧ (q6 = false → q0 ∧ false = q5)) := by kernel_rfl
end Go.User
namespace Pl
variable {α : Type}
theorem take_all {l : List α} {i : Nat} (h1 : i ≤ l.length) (h2 : (l.length : Int) ≤ (i : Int)) : l.take i = l := List.take_of_length_le (by omega)
theorem getD_at {l : List α} {i : Nat} (h : i < l.length) (d : α) : l.getD i d = l[i] := by rw [List.getD_eq_getElem?_getD, List.getElem?_eq_getElem h]; rfl
theorem getD_out {l : List α} {i : Nat} (h : l.length ≤ i) (d : α) : l.getD i d = d := by rw [List.getD_eq_getElem?_getD, List.getElem?_eq_none h]; rfl
theorem getD_mem {l : List α} {i : Nat} (h : i < l.length) (d : α) : l.getD i d ∈ l := by rw [getD_at h]; exact List.getElem_mem _
theorem take_succ {l : List α} {i : Nat} (h : i < l.length) (d : α) : l.take (i + 1) = l.take i ++ [l.getD i d] := by rw [List.take_succ_eq_append_getElem h, getD_at h]
theorem drop_cons {l : List α} {i : Nat} (h : i < l.length) (d : α) : l.drop i = l.getD i d :: l.drop (i + 1) := by rw [List.drop_eq_getElem_cons h, getD_at h]
theorem find_at {l : List α} {p : α → Bool} {i : Nat} {d : α} (h : ∀ e ∈ l.take i, p e = false) (hi : i < l.length) (hp : p (l.getD i d) = true) : l.findIdx? p = some i := by
  rw [getD_at hi] at hp
  rw [List.findIdx?_eq_some_iff_getElem]
  refine ⟨hi, hp, fun j hj => ?_⟩
  have := h l[j] (List.mem_take_iff_getElem.2 ⟨j, by omega, rfl⟩)
  rw [this]; simp
theorem find_none {l : List α} {p : α → Bool} (h : ∀ e ∈ l, p e = false) : l.findIdx? p = none := by
  rw [List.findIdx?_eq_none_iff]; exact h
theorem all_take_succ {l : List α} {p : α → Prop} {i : Nat} {d : α} (h : ∀ e ∈ l.take i, p e) (hi : i < l.length) (hp : p (l.getD i d)) : ∀ e ∈ l.take (i + 1), p e := by
  intro e he
  rw [take_succ hi d] at he
  rcases List.mem_append.1 he with he | he
  · exact h e he
  · rw [List.mem_singleton.1 he]; exact hp
theorem take_eq_succ {a b : List α} {i : Nat} {d : α} (ha : i < a.length) (hb : i < b.length) (h : a.take i = b.take i) (he : a.getD i d = b.getD i d) : a.take (i + 1) = b.take (i + 1) := by
  rw [take_succ ha d, take_succ hb d, h, he]
theorem getD_set {l : List α} {n : Nat} {a d : α} (c : Nat) (h : n < l.length) : (l.set n a).getD c d = if c = n then a else l.getD c d := by
  rw [List.getD_eq_getElem?_getD, List.getElem?_set, List.getD_eq_getElem?_getD]
  by_cases e : n = c
  · rw [if_pos e, if_pos e.symm, if_pos (e ▸ h)]; rfl
  · rw [if_neg e, if_neg (fun h => e h.symm)]
theorem tw_le (p : α → Bool) (l : List α) : (l.takeWhile p).length ≤ l.length := (List.takeWhile_sublist p).length_le
theorem tw_get {p : α → Bool} : ∀ {l : List α} {k : Nat} {d : α}, k < (l.takeWhile p).length → p (l.getD k d) = true
  | x :: l, k, d, h => by
    rw [List.takeWhile_cons] at h
    split at h
    · rename_i hx
      cases k with
      | zero => exact hx
      | succ k => exact tw_get (l := l) (by simpa using h)
    · simp at h
theorem tw_stop {p : α → Bool} : ∀ {l : List α} {d : α}, (l.takeWhile p).length < l.length → p (l.getD (l.takeWhile p).length d) = false
  | x :: l, d, h => by
    rw [List.takeWhile_cons] at h ⊢
    split
    · rename_i hx
      rw [if_pos hx] at h
      exact tw_stop (l := l) (by simpa using h)
    · rename_i hx
      simpa using hx
theorem win_take {l : List α} {i : Nat} : Go.Lf.win 0 (i : Int) l = l.take i := by unfold Go.Lf.win; simp
theorem win_drop {l : List α} {i : Nat} : Go.Lf.win (i : Int) (l.length : Int) l = l.drop i := by unfold Go.Lf.win; simp
theorem countP_at {l : List α} {p : α → Bool} {i : Nat} {d : α} (hi : i ≤ l.length) (h1 : ∀ k, k < i → p (l.getD k d) = true) (h2 : ∀ k, i ≤ k → k < l.length → p (l.getD k d) = false) : l.countP p = i := by
  rw [← List.take_append_drop i l, List.countP_append]
  have e1 : (l.take i).countP p = i := by
    have : (l.take i).countP p = (l.take i).length := by
      rw [List.countP_eq_length]
      intro a ha
      obtain ⟨k, hk, rfl⟩ := List.mem_take_iff_getElem.1 ha
      rw [← getD_at (by omega) d]
      exact h1 k (by omega)
    rw [this, List.length_take]; omega
  have e2 : (l.drop i).countP p = 0 := by
    rw [List.countP_eq_zero]
    intro a ha
    obtain ⟨k, hk, rfl⟩ := List.getElem_of_mem ha
    rw [List.getElem_drop]
    rw [List.length_drop] at hk
    have := h2 (i + k) (by omega) (by omega)
    rw [getD_at (by omega) d] at this
    rw [this]; decide
  omega
theorem wrap_in {z : Int} (h0 : -1000000000 ≤ z) (h1 : z ≤ 1000000000) : Go.IntKind.wrap .i64 z = z := Go.Lf.inK_wrap (k := .i64) ⟨by show (-9223372036854775808 : Int) ≤ z; omega, by show z ≤ 9223372036854775807; omega⟩
end Pl
namespace Sp
theorem cmp3_zero {x y : Int} : cmp3 x y = 0 ↔ x = y := by
  unfold cmp3
  split
  · constructor
    · intro h; cases h
    · intro h; omega
  · split
    · constructor
      · intro h; cases h
      · intro h; omega
    · constructor
      · intro _; omega
      · intro _; rfl
theorem cmpI_cons (x y : Int) (a b : List Int) : cmpI (x :: a) (y :: b) = if cmp3 x y = 0 then cmpI a b else cmp3 x y := by
  show (if x < y then -1 else if y < x then 1 else cmpI a b) = _
  unfold cmp3
  by_cases h1 : x < y
  · rw [if_pos h1, if_pos h1, if_neg (by decide)]
  · rw [if_neg h1, if_neg h1]
    by_cases h2 : y < x
    · rw [if_pos h2, if_pos h2, if_neg (by decide)]
    · rw [if_neg h2, if_neg h2, if_pos rfl]
theorem wrap_zero {z : Int} (h : Go.IntKind.wrap .i64 z = 0) (h1 : -18446744073709551616 < z) (h2 : z < 18446744073709551616) : z = 0 := by
  rw [Go.IntKind.wrap_i64] at h
  omega
theorem cmpR_self : ∀ (a : List Int), cmpR a a = 0
  | [] => rfl
  | x :: a => by
    show (if x = x then cmpR a a else _) = 0
    rw [if_pos rfl]; exact cmpR_self a
theorem cmpR_zero : ∀ {a b : List Int}, a.length = b.length → (∀ x ∈ a, Go.Lf.inK .i64 x) → (∀ x ∈ b, Go.Lf.inK .i64 x) → cmpR a b = 0 → a = b
  | [], [], _, _, _, _ => rfl
  | x :: a, y :: b, h, ha, hb, hz => by
    have hz : (if x = y then cmpR a b else Go.IntKind.wrap .i64 (x - y)) = 0 := hz
    by_cases hxy : x = y
    · rw [if_pos hxy] at hz
      rw [hxy, cmpR_zero (by simpa using h) (fun z hz => ha z (by simp [hz])) (fun z hz => hb z (by simp [hz])) hz]
    · rw [if_neg hxy] at hz
      have h1 := (Go.Lf.inK_i64 x).1 (ha x (by simp))
      have h2 := (Go.Lf.inK_i64 y).1 (hb y (by simp))
      have := wrap_zero hz (by omega) (by omega)
      omega
theorem cmpR_take {a b : List Int} {i : Nat} (h1 : i < a.length) (h2 : i < b.length) (h : a.take i = b.take i) (hn : ¬ a.getD i 0 = b.getD i 0) : Go.IntKind.wrap .i64 (a.getD i 0 - b.getD i 0) = cmpR a b := by
  induction i generalizing a b with
  | zero =>
    match a, b, h1, h2 with
    | x :: a, y :: b, _, _ =>
      show _ = if x = y then cmpR a b else Go.IntKind.wrap .i64 (x - y)
      have hn : ¬ x = y := hn
      rw [if_neg hn]; rfl
  | succ i ih =>
    match a, b, h1, h2 with
    | x :: a, y :: b, h1, h2 =>
      simp only [List.take_succ_cons, List.cons.injEq] at h
      show _ = if x = y then cmpR a b else Go.IntKind.wrap .i64 (x - y)
      rw [if_pos h.1]
      exact ih (by simpa using h1) (by simpa using h2) h.2 hn
theorem cmpR_end : ∀ {a b : List Int} {i : Nat}, i ≤ a.length → i ≤ b.length → (a.length ≤ i ∨ b.length ≤ i) → a.take i = b.take i → (a.length : Int) - (b.length : Int) = cmpR a b
  | [], b, i, _, _, _, _ => by cases b <;> rfl
  | x :: a, [], i, _, _, _, _ => rfl
  | x :: a, y :: b, 0, _, _, h, _ => by simp at h
  | x :: a, y :: b, i + 1, h1, h2, h3, h => by
    simp only [List.take_succ_cons, List.cons.injEq] at h
    have ih := cmpR_end (a := a) (b := b) (i := i) (by simpa using h1) (by simpa using h2) (by simpa using h3) h.2
    show _ = if x = y then cmpR a b else Go.IntKind.wrap .i64 (x - y)
    rw [if_pos h.1, ← ih, List.length_cons, List.length_cons]
    omega
theorem cmpI_trans : ∀ {a b c : List Int}, cmpI a b ≤ 0 → cmpI b c ≤ 0 → cmpI a c ≤ 0 ∧ (cmpI a c = 0 → cmpI a b = 0 ∧ cmpI b c = 0)
  | [], [], c, h1, h2 => ⟨h2, fun h => ⟨rfl, h⟩⟩
  | [], y :: b, [], h1, h2 => by
    have : (1 : Int) ≤ 0 := h2
    omega
  | [], y :: b, z :: c, h1, h2 => ⟨by show (-1 : Int) ≤ 0; omega, fun h => by have : (-1 : Int) = 0 := h; omega⟩
  | x :: a, [], c, h1, h2 => by
    have : (1 : Int) ≤ 0 := h1
    omega
  | x :: a, y :: b, [], h1, h2 => by
    have : (1 : Int) ≤ 0 := h2
    omega
  | x :: a, y :: b, z :: c, h1, h2 => by
    rw [cmpI_cons] at h1 h2
    rw [cmpI_cons, cmpI_cons, cmpI_cons]
    have ih := cmpI_trans (a := a) (b := b) (c := c)
    have e : ∀ u v : Int, cmp3 u v = if u < v then -1 else if v < u then 1 else 0 := fun _ _ => rfl
    rw [e] at h1 h2
    rw [e, e, e]
    rcases Int.lt_trichotomy x y with hxy | hxy | hxy
    · rcases Int.lt_trichotomy y z with hyz | hyz | hyz
      · simp only [hxy, hyz, show x < z from by omega, if_true] at *
        simp
      · subst hyz
        simp only [hxy, if_true] at *
        simp
      · simp only [show ¬ y < z from by omega, hyz, if_true, if_false] at h2
        simp at h2
    · subst hxy
      rcases Int.lt_trichotomy x z with hyz | hyz | hyz
      · simp only [hyz, if_true] at *
        simp
      · subst hyz
        simp only [Int.lt_irrefl, if_false, if_true] at *
        exact ih h1 h2
      · simp only [show ¬ x < z from by omega, hyz, if_true, if_false] at h2
        simp at h2
    · simp only [show ¬ x < y from by omega, hxy, if_true, if_false] at h1
      simp at h1
theorem cmpO_trans {a b c : Out} (h1 : cmpO a b < 0) (h2 : cmpO b c < 0) : cmpO a c < 0 := by
  unfold cmpO at *
  by_cases e1 : cmpI a.1 b.1 = 0
  · rw [if_pos e1] at h1
    by_cases e2 : cmpI b.1 c.1 = 0
    · rw [if_pos e2] at h2
      obtain ⟨k1, k2⟩ := cmpI_trans (a := a.1) (b := b.1) (c := c.1) (by omega) (by omega)
      obtain ⟨k3, k4⟩ := cmpI_trans (a := a.2.1) (b := b.2.1) (c := c.2.1) (by omega) (by omega)
      split
      · refine Classical.byContradiction fun h => ?_
        have := k4 (by omega)
        omega
      · omega
    · rw [if_neg e2] at h2
      obtain ⟨k1, k2⟩ := cmpI_trans (a := a.1) (b := b.1) (c := c.1) (by omega) (by omega)
      rw [if_neg (fun h => e2 (k2 h).2)]
      refine Classical.byContradiction fun h => ?_
      exact e2 (k2 (by omega)).2
  · rw [if_neg e1] at h1
    by_cases e2 : cmpI b.1 c.1 = 0
    · obtain ⟨k1, k2⟩ := cmpI_trans (a := a.1) (b := b.1) (c := c.1) (by omega) (by omega)
      rw [if_neg (fun h => e1 (k2 h).1)]
      refine Classical.byContradiction fun h => ?_
      exact e1 (k2 (by omega)).1
    · rw [if_neg e2] at h2
      obtain ⟨k1, k2⟩ := cmpI_trans (a := a.1) (b := b.1) (c := c.1) (by omega) (by omega)
      rw [if_neg (fun h => e1 (k2 h).1)]
      refine Classical.byContradiction fun h => ?_
      exact e1 (k2 (by omega)).1
theorem total_take_succ {p : List (List LOp)} {i : Nat} (h : i < p.length) : total (p.take (i + 1)) = total (p.take i) + (p.getD i []).length := by
  unfold total
  rw [Pl.take_succ h [], List.map_append, List.sum_append]
  simp
theorem total_take_le (p : List (List LOp)) (i : Nat) : total (p.take i) ≤ total p := by
  have : total p = total (p.take i) + total (p.drop i) := by
    unfold total
    rw [← List.sum_append, ← List.map_append, List.take_append_drop]
  omega
theorem orI_cons (x : Int) (l : List Int) : orI (x :: l) = if x = 0 then orI l else x := by
  unfold orI
  rw [List.find?_cons]
  by_cases h : x = 0
  · rw [if_pos h, h]; rfl
  · rw [if_neg h, decide_eq_true h]; rfl
theorem added_same {l : List Out} {t : Out} {k : Nat} (hk : k = firstN l t) (h1 : k < l.length) (h2 : cmpQ (l.getD k out0) t = 0) : l = added l t := by
  unfold added
  subst hk
  rw [if_pos ⟨h1, h2⟩]
theorem added_new {l : List Out} {t : Out} {k : Nat} (hk : k = firstN l t) (h : ¬ (k < l.length ∧ cmpQ (l.getD k out0) t = 0)) : l.take k ++ [t] ++ l.drop k = added l t := by
  unfold added
  subst hk
  rw [if_neg h]
end Sp
namespace Go.User
open Go.Lf Go.Proofs
theorem ok83 : FOk Try.prog 83 S83 := by
  refine FOk.intro (okA fns_nil) (stpS_ok (okA fns_nil)) Try.call83 Try.func83 (by kernel_rfl) (by kernel_rfl) L83 (vc83.mpr ?_)
  simp only [z1, z2, z3, z4, z5, z6, z7, z8, z9, z10, z11, z12, z13, z14, z15, z16, z17, z18, z19, z20, z21, z22, z23, z24, z25, z26, z27, z28, z29, z30, z31, z32, z33, z34, z35, z36, z37, z38]
  intro x hp hx
  exact ⟨fun h => h.symm, by rw [maxNew_eq]; omega⟩
theorem ok86 : FOk Try.prog 86 S86 := by
  refine FOk.intro (okA fns_nil) (stpS_ok (okA fns_nil)) Try.call86 Try.func86 (by kernel_rfl) (by kernel_rfl) L86 (vc86.mpr ?_)
  simp only [z1, z2, z3, z4, z5, z6, z7, z8, z9, z10, z11, z12, z13, z14, z15, z16, z17, z18, z19, z20, z21, z22, z23, z24, z25, z26, z27, z28, z29, z30, z31, z32, z33, z34, z35, z36, z37, z38]
  intro x hp hx
  exact ⟨fun h => h.symm, by rw [maxNew_eq]; omega⟩
theorem ok98 : FOk Try.prog 98 S98 := by
  refine FOk.intro (okA fns_nil) (stpS_ok (okA fns_nil)) Try.call98 Try.func98 (by kernel_rfl) (by kernel_rfl) L98 (vc98.mpr ?_)
  simp only [z1, z2, z3, z4, z5, z6, z7, z8, z9, z10, z11, z12, z13, z14, z15, z16, z17, z18, z19, z20, z21, z22, z23, z24, z25, z26, z27, z28, z29, z30, z31, z32, z33, z34, z35, z36, z37, z38]
  intro x hx
  rfl
theorem ok97 : FOk Try.prog 97 S97 := by
  refine FOk.intro (okA fns_nil) (stpS_ok (okA fns_nil)) Try.call97 Try.func97 (by kernel_rfl) (by kernel_rfl) L97 (vc97.mpr ?_)
  simp only [z1, z2, z3, z4, z5, z6, z7, z8, z9, z10, z11, z12, z13, z14, z15, z16, z17, z18, z19, z20, z21, z22, z23, z24, z25, z26, z27, z28, z29, z30, z31, z32, z33, z34, z35, z36, z37, z38]
  intro x hp hx
  refine ⟨⟨0, ⟨Nat.zero_le _, by simp⟩, rfl⟩, ?_⟩
  intro i hi hk
  refine ⟨fun hlt => ⟨⟨inN_of hlt, hp _⟩, fun h => ?_, fun h => ⟨inK_succ hlt hx.1, i + 1, ⟨by omega, Pl.all_take_succ hi.2 (by omega) h⟩, by omega, by omega⟩⟩, fun hge => ?_⟩
  · unfold Sp.findM; rw [Pl.find_at hi.2 (by omega) h]
  · have := hi.2
    rw [Pl.take_all hi.1 hge] at this
    unfold Sp.findM; rw [Pl.find_none this]
theorem ok84 : FOk Try.prog 84 S84 := by
  have hC : CtxOK Try.prog C84 := okA (fns_cons ok98 (fns_cons ok97 fns_nil))
  refine FOk.intro hC (stpS_ok hC) Try.call84 Try.func84 (by kernel_rfl) (by kernel_rfl) L84 (vc84.mpr ?_)
  simp only [z1, z2, z3, z4, z5, z6, z7, z8, z9, z10, z11, z12, z13, z14, z15, z16, z17, z18, z19, z20, z21, z22, z23, z24, z25, z26, z27, z28, z29, z30, z31, z32, z33, z34, z35, z36, z37, z38]
  intro x hx
  first | trivial | rfl | exact ⟨trivial, rfl⟩
theorem ok75 : FOk Try.prog 75 S75 := by
  refine FOk.intro (okA fns_nil) (stpS_ok (okA fns_nil)) Try.call75 Try.func75 (by kernel_rfl) (by kernel_rfl) L75 (vc75.mpr ?_)
  simp only [z1, z2, z3, z4, z5, z6, z7, z8, z9, z10, z11, z12, z13, z14, z15, z16, z17, z18, z19, z20, z21, z22, z23, z24, z25, z26, z27, z28, z29, z30, z31, z32, z33, z34, z35, z36, z37, z38]
  rintro ⟨o, u⟩ hx
  have k4 : ∀ h1 : ¬ o.1 = 1, ∀ h2 : ¬ o.1 = 2, ∀ h3 : ¬ o.1 = 3, (decide (o.1 = 4) && (decide (o.2.1 = 0) && decide (o.2.2.1 = 0))) = Sp.usual o := by
    intro h1 h2 h3
    unfold Sp.usual
    rw [if_neg h1, if_neg (by rintro (h | h) <;> contradiction), Bool.and_assoc]
  refine ⟨fun h1 => ?_, fun h1 => ⟨fun h2 => ⟨fun _ => ?_, fun h => absurd h2 h⟩, fun h2 => ⟨fun h3 => ?_, fun h3 => k4 h1 h2 h3⟩⟩⟩
  · unfold Sp.usual; rw [if_pos h1]; rfl
  · unfold Sp.usual; rw [if_neg h1, if_pos (.inl h2)]
  · unfold Sp.usual; rw [if_neg h1, if_pos (.inr h3)]
theorem val_ok : ClOk Try.prog tVal := by
  rintro ⟨f, l⟩ w F caps vs xs hF hc hv hp
  have hp : (f, l) = (75, []) := hp
  injection hp with h1 h2
  subst h1; subst h2
  have hc : caps = [] := by
    cases caps with
    | nil => rfl
    | cons c caps => obtain ⟨n, r, h, _⟩ := hc; cases h
  subst hc
  refine ⟨ok75.1, ?_⟩
  obtain ⟨v, r, rfl, h1, h2⟩ := hv
  have h2 : r = [] := h2
  subst h2
  exact ok75.2 w F [v] (xs.1, ()) hF ⟨v, [], rfl, h1, rfl⟩ trivial
theorem ok76 : FOk Try.prog 76 S76 := by
  have hC : CtxOK Try.prog C76 := ctx_okQ 0 rfl rfl fns_nil ptrs_nil (fun _ h => by cases h) (fun t h => by injection h with h; subst h; exact val_ok) ins_nil (fun _ h => by cases h)
  refine FOk.intro hC (stpS_ok hC) Try.call76 Try.func76 (by kernel_rfl) (by kernel_rfl) L76 (vc76.mpr ?_)
  simp only [z1, z2, z3, z4, z5, z6, z7, z8, z9, z10, z11, z12, z13, z14, z15, z16, z17, z18, z19, z20, z21, z22, z23, z24, z25, z26, z27, z28, z29, z30, z31, z32, z33, z34, z35, z36, z37, z38]
  rintro ⟨o, z, u⟩ hz hx
  have hz : z = some (75, []) := hz
  subst hz
  exact ⟨rfl, rfl⟩
theorem ok94 : FOk Try.prog 94 S94 := by
  refine FOk.intro (okA fns_nil) (stpS_ok (okA fns_nil)) Try.call94 Try.func94 (by kernel_rfl) (by kernel_rfl) L94 (vc94.mpr ?_)
  simp only [z1, z2, z3, z4, z5, z6, z7, z8, z9, z10, z11, z12, z13, z14, z15, z16, z17, z18, z19, z20, z21, z22, z23, z24, z25, z26, z27, z28, z29, z30, z31, z32, z33, z34, z35, z36, z37, z38]
  intro x hp hx
  refine ⟨⟨0, ⟨Nat.zero_le _, by simp⟩, rfl⟩, ?_⟩
  intro i hi hk
  refine ⟨fun hlt => ⟨⟨inN_of hlt, hp _⟩, fun h => ?_, fun h => ⟨inK_succ hlt hx.1, i + 1, ⟨by omega, Pl.all_take_succ hi.2 (by omega) h⟩, by omega, by omega⟩⟩, fun hge => ?_⟩
  · unfold Sp.findO; rw [Pl.find_at hi.2 (by omega) h]
  · have := hi.2
    rw [Pl.take_all hi.1 hge] at this
    unfold Sp.findO; rw [Pl.find_none this]
theorem ok77 : FOk Try.prog 77 S77 := by
  have hC : CtxOK Try.prog C77 := okA (fns_cons ok94 fns_nil)
  refine FOk.intro hC (stpS_ok hC) Try.call77 Try.func77 (by kernel_rfl) (by kernel_rfl) L77 (vc77.mpr ?_)
  simp only [z1, z2, z3, z4, z5, z6, z7, z8, z9, z10, z11, z12, z13, z14, z15, z16, z17, z18, z19, z20, z21, z22, z23, z24, z25, z26, z27, z28, z29, z30, z31, z32, z33, z34, z35, z36, z37, z38]
  intro x hp hx
  refine ⟨hp, ?_⟩
  unfold Sp.findO
  cases h : x.1.findIdx? fun e => x.2.1.fn (e, ()) with
  | none =>
    rw [List.findIdx?_eq_none_iff] at h
    have : (x.1.any fun e => x.2.1.fn (e, ())) = false := by rw [List.any_eq_false]; intro y hy; rw [h y hy]; simp
    rw [this]; rfl
  | some i =>
    rw [List.findIdx?_eq_some_iff_getElem] at h
    obtain ⟨hi, hp, _⟩ := h
    have : (x.1.any fun e => x.2.1.fn (e, ())) = true := List.any_eq_true.2 ⟨_, List.getElem_mem hi, hp⟩
    rw [this]
    simp
theorem ok100 : FOk Try.prog 100 S100 := by
  refine FOk.intro (okA fns_nil) (stpS_ok (okA fns_nil)) Try.call100 Try.func100 (by kernel_rfl) (by kernel_rfl) L100 (vc100.mpr ?_)
  intro x _ hx
  exact ⟨⟨⟨trivial, trivial⟩, trivial⟩, ⟨⟨trivial, trivial, trivial, trivial, trivial⟩, trivial⟩, by simp⟩
theorem ok91 : FOk Try.prog 91 S91 := by
  have hC : CtxOK Try.prog C91 := okA (fns_cons ok100 fns_nil)
  refine FOk.intro hC (stpS_ok hC) Try.call91 Try.func91 (by kernel_rfl) (by kernel_rfl) L91 (vc91.mpr ?_)
  simp only [z1, z2, z3, z4, z5, z6, z7, z8, z9, z10, z11, z12, z13, z14, z15, z16, z17, z18, z19, z20, z21, z22, z23, z24, z25, z26, z27, z28, z29, z30, z31, z32, z33, z34, z35, z36, z37, z38]
  intro x hx
  refine ⟨fun h => ?_, fun h => ⟨fun h2 => ?_, fun h2 => ?_⟩⟩
  · unfold Sp.cmp3; rw [if_pos h]
  · unfold Sp.cmp3; rw [if_neg (by omega), if_pos h2]
  · unfold Sp.cmp3; rw [if_neg (by omega), if_neg (by omega)]
theorem ok70 : FOk Try.prog 70 S70 := by
  have hC : CtxOK Try.prog C70 := okA (fns_cons ok91 fns_nil)
  refine FOk.intro hC (stpS_ok hC) Try.call70 Try.func70 (by kernel_rfl) (by kernel_rfl) L70 (vc70.mpr ?_)
  simp only [z1, z2, z3, z4, z5, z6, z7, z8, z9, z10, z11, z12, z13, z14, z15, z16, z17, z18, z19, z20, z21, z22, z23, z24, z25, z26, z27, z28, z29, z30, z31, z32, z33, z34, z35, z36, z37, z38]
  rintro ⟨a, b, u⟩ hx
  have ha : a.length ≤ lim := hx.1.1
  refine ⟨⟨0, ⟨Nat.zero_le _, Nat.zero_le _, rfl⟩, rfl⟩, ?_⟩
  rintro i ⟨h1, h2, h3⟩ hk
  have h1 : i ≤ a.length := h1
  have h2 : i ≤ b.length := h2
  have h3 : Sp.cmpI (a.drop i) (b.drop i) = Sp.cmpI a b := h3
  refine ⟨fun hlt => ?_, fun hge => ⟨fun hl => ?_, fun hl => ?_⟩⟩
  · have hlt : (i : Int) < (a.length : Int) := hlt
    refine ⟨inN_of hlt, fun hge => ?_, fun hlb => ?_⟩
    · have hge : (b.length : Int) ≤ (i : Int) := hge
      show (1 : Int) = Sp.cmpI a b
      rw [← h3, Pl.drop_cons (d := 0) (by omega : i < a.length), List.drop_eq_nil_of_le (by omega : b.length ≤ i)]
      rfl
    · have hlb : (i : Int) < (b.length : Int) := hlb
      have e := h3
      rw [Pl.drop_cons (d := 0) (by omega : i < a.length), Pl.drop_cons (d := 0) (by omega : i < b.length), Sp.cmpI_cons] at e
      refine ⟨inN_of hlb, fun hn => ?_, fun hz => ⟨inK_succ hlt ha, i + 1, ⟨by show i + 1 ≤ a.length; omega, by show i + 1 ≤ b.length; omega, ?_⟩, by show a.length - (i + 1) < a.length - i; omega, by omega⟩⟩
      · show _ = Sp.cmpI a b
        rw [← e, if_neg hn]
      · show Sp.cmpI (a.drop (i + 1)) (b.drop (i + 1)) = Sp.cmpI a b
        rw [← e, if_pos hz]
  · have hge : (a.length : Int) ≤ (i : Int) := hge
    have hl : (a.length : Int) < (b.length : Int) := hl
    show (-1 : Int) = Sp.cmpI a b
    rw [← h3, List.drop_eq_nil_of_le (by omega : a.length ≤ i), Pl.drop_cons (d := 0) (by omega : i < b.length)]
    rfl
  · have hge : (a.length : Int) ≤ (i : Int) := hge
    have hl : (b.length : Int) ≤ (a.length : Int) := hl
    show (0 : Int) = Sp.cmpI a b
    rw [← h3, List.drop_eq_nil_of_le (by omega : a.length ≤ i), List.drop_eq_nil_of_le (by omega : b.length ≤ i)]
    rfl
theorem ok69 : FOk Try.prog 69 S69 := by
  refine FOk.intro (okA fns_nil) (stpS_ok (okA fns_nil)) Try.call69 Try.func69 (by kernel_rfl) (by kernel_rfl) L69 (vc69.mpr ?_)
  simp only [z1, z2, z3, z4, z5, z6, z7, z8, z9, z10, z11, z12, z13, z14, z15, z16, z17, z18, z19, z20, z21, z22, z23, z24, z25, z26, z27, z28, z29, z30, z31, z32, z33, z34, z35, z36, z37, z38]
  rintro ⟨a, u⟩ hx
  have ha : a.length ≤ lim := hx.1
  refine ⟨⟨0, ⟨Nat.zero_le _, rfl⟩, rfl⟩, ?_⟩
  rintro i ⟨h1, h3⟩ hk
  have h1 : i ≤ a.length := h1
  have h3 : Sp.orI (a.drop i) = Sp.orI a := h3
  refine ⟨fun hlt => ?_, fun hge => ?_⟩
  · have hlt : (i : Int) < (a.length : Int) := hlt
    have e := h3
    rw [Pl.drop_cons (d := 0) (by omega : i < a.length), Sp.orI_cons] at e
    refine ⟨inN_of hlt, fun hn => ?_, fun hz => ⟨inK_succ hlt ha, i + 1, ⟨by show i + 1 ≤ a.length; omega, ?_⟩, by show a.length - (i + 1) < a.length - i; omega, by omega⟩⟩
    · show _ = Sp.orI a
      rw [← e, if_neg hn]
    · show Sp.orI (a.drop (i + 1)) = Sp.orI a
      rw [← e, if_pos hz]
  · have hge : (a.length : Int) ≤ (i : Int) := hge
    show (0 : Int) = Sp.orI a
    rw [← h3, List.drop_eq_nil_of_le (by omega : a.length ≤ i)]
    rfl
theorem ok68 : FOk Try.prog 68 S68 := by
  have hC : CtxOK Try.prog C68 := okA (fns_cons ok70 (fns_cons ok69 fns_nil))
  refine FOk.intro hC (stpS_ok hC) Try.call68 Try.func68 (by kernel_rfl) (by kernel_rfl) L68 (vc68.mpr ?_)
  simp only [z1, z2, z3, z4, z5, z6, z7, z8, z9, z10, z11, z12, z13, z14, z15, z16, z17, z18, z19, z20, z21, z22, z23, z24, z25, z26, z27, z28, z29, z30, z31, z32, z33, z34, z35, z36, z37, z38]
  intro x hx
  show Sp.orI [_, _] = Sp.cmpO _ _
  unfold Sp.cmpO
  rw [Sp.orI_cons, Sp.orI_cons]
  by_cases h : Sp.cmpI x.1.1 x.2.1.1 = 0
  · rw [if_pos h, if_pos h]
    by_cases h2 : Sp.cmpI x.1.2.1 x.2.1.2.1 = 0
    · rw [if_pos h2, h2]; rfl
    · rw [if_neg h2]
  · rw [if_neg h, if_neg h]
theorem cmp_ok : ClOk Try.prog tCmp := by
  rintro ⟨f, l⟩ w F caps vs xs hF hc hv hp
  have hp : (f, l) = (68, []) := hp
  injection hp with h1 h2
  subst h1; subst h2
  have hc : caps = [] := by
    cases caps with
    | nil => rfl
    | cons c caps => obtain ⟨n, r, h, _⟩ := hc; cases h
  subst hc
  refine ⟨ok68.1, ?_⟩
  obtain ⟨v, r, rfl, h1, v2, r2, rfl, h2, h3⟩ := hv
  have h3 : r2 = [] := h3
  subst h3
  exact ok68.2 w F [v, v2] (xs.1, xs.2.1, ()) hF ⟨v, [v2], rfl, h1, v2, [], rfl, h2, rfl⟩ trivial
theorem mid_eq {i j : Nat} (h : i + j ≤ 1000000000) : IntKind.i64.wrap (IntKind.u64.wrap ((i : Int) + (j : Int)) / 2 ^ shiftN IntKind.u64 1) = (((i + j) / 2 : Nat) : Int) := by
  have e1 : IntKind.u64.wrap ((i : Int) + (j : Int)) = (i : Int) + (j : Int) := inK_wrap (k := .u64) ⟨by show (0 : Int) ≤ _; omega, by show _ ≤ (18446744073709551615 : Int); omega⟩
  have e2 : shiftN IntKind.u64 1 = 1 := by decide
  rw [e1, e2, Pl.wrap_in (by omega) (by omega)]
  omega
theorem ok73 : FOk Try.prog 73 S73 := by
  have hC : CtxOK Try.prog C73 := ctx_okQ 0 rfl rfl fns_nil ptrs_nil (fun _ h => by cases h) (fun t h => by injection h with h; subst h; exact cmp_ok) ins_nil (fun _ h => by cases h)
  refine FOk.intro hC (stpS_ok hC) Try.call73 Try.func73 (by kernel_rfl) (by kernel_rfl) L73 (vc73.mpr ?_)
  simp only [z1, z2, z3, z4, z5, z6, z7, z8, z9, z10, z11, z12, z13, z14, z15, z16, z17, z18, z19, z20, z21, z22, z23, z24, z25, z26, z27, z28, z29, z30, z31, z32, z33, z34, z35, z36, z37, z38]
  rintro ⟨l, t, z, u⟩ ⟨hz, hl, hs⟩ hx
  have hz : z = some (68, []) := hz
  subst hz
  have hl : l.length ≤ 500000000 := hl
  have hs : Sp.sortedO l := hs
  have tr : ∀ {a b c : Sp.Out}, True := trivial
  have q0 : ∀ k, k < 0 → Sp.cmpO (l.getD k Sp.out0) t < 0 := fun k hk => by omega
  have q1 : ∀ k, l.length ≤ k → k < l.length → 0 ≤ Sp.cmpO (l.getD k Sp.out0) t := fun k h1 h2 => by omega
  refine ⟨⟨(0, l.length), ⟨Nat.zero_le _, Nat.le_refl _, q0, q1⟩, rfl, rfl⟩, ?_⟩
  rintro ⟨i, j⟩ ⟨h1, h2, h3, h4⟩ hk
  have h1 : i ≤ j := h1
  have h2 : j ≤ l.length := h2
  have h3 : ∀ k, k < i → Sp.cmpO (l.getD k Sp.out0) t < 0 := h3
  have h4 : ∀ k, j ≤ k → k < l.length → 0 ≤ Sp.cmpO (l.getD k Sp.out0) t := h4
  have hmid : IntKind.i64.wrap (IntKind.u64.wrap ((i : Int) + (j : Int)) / 2 ^ shiftN IntKind.u64 1) = (((i + j) / 2 : Nat) : Int) := mid_eq (by omega)
  simp only
  rw [hmid]
  have htr : ∀ {a b : Nat}, a < b → b < l.length → Sp.cmpO (l.getD a Sp.out0) (l.getD b Sp.out0) < 0 := fun h1 h2 => hs _ _ h1 h2
  refine ⟨fun hlt => ?_, fun hge => ?_⟩
  · have hlt : (i : Int) < (j : Int) := hlt
    have hml : (i + j) / 2 < l.length := by omega
    refine ⟨⟨inK_mid (by omega) (by omega), by decide⟩, ⟨⟨by omega, by show _ < (l.length : Int); omega⟩, rfl, trivial⟩, fun hn => ?_, fun hn => ?_⟩
    · have hn : Sp.cmpO (l.getD ((i + j) / 2) Sp.out0) t < 0 := hn
      refine ⟨inK_mid (by omega) (by omega), ((i + j) / 2 + 1, j), ⟨by show (i + j) / 2 + 1 ≤ j; omega, h2, ?_, h4⟩, by show j - ((i + j) / 2 + 1) < j - i; omega, by show _ = (((i + j) / 2 + 1 : Nat) : Int); omega, rfl⟩
      intro k hk
      have hk : k < (i + j) / 2 + 1 := hk
      rcases Nat.lt_or_ge k ((i + j) / 2) with h | h
      · exact Sp.cmpO_trans (htr h hml) hn
      · rw [show k = (i + j) / 2 from by omega]; exact hn
    · have hn : 0 ≤ Sp.cmpO (l.getD ((i + j) / 2) Sp.out0) t := hn
      refine ⟨(i, (i + j) / 2), ⟨by show i ≤ (i + j) / 2; omega, by show (i + j) / 2 ≤ l.length; omega, h3, ?_⟩, by show (i + j) / 2 - i < j - i; omega, rfl, rfl⟩
      intro k hk hkl
      have hk : (i + j) / 2 ≤ k := hk
      have hkl : k < l.length := hkl
      refine Classical.byContradiction fun hc => ?_
      have hc : Sp.cmpO (l.getD k Sp.out0) t < 0 := by show _ < (0 : Int); omega
      rcases Nat.lt_or_ge ((i + j) / 2) k with h | h
      · have := Sp.cmpO_trans (htr h hkl) hc
        omega
      · rw [show k = (i + j) / 2 from by omega] at hc; omega
  · have hij : i = j := by have hge : (j : Int) ≤ (i : Int) := hge; omega
    subst hij
    have hb : Sp.below l t = i := Pl.countP_at (d := Sp.out0) h2 (fun k hk => decide_eq_true (h3 k hk)) (fun k h5 h6 => decide_eq_false (by have := h4 k h5 h6; omega))
    refine ⟨⟨fun h => inN_of h, fun _ => ⟨rfl, trivial⟩⟩, ?_⟩
    unfold Sp.foundO
    rw [hb]
    have e1 : decide ((i : Int) < (l.length : Int)) = decide (i < l.length) := by
      by_cases h : i < l.length
      · rw [decide_eq_true h, decide_eq_true (by omega)]
      · rw [decide_eq_false h, decide_eq_false (by omega)]
    rw [e1]
    rfl
end Go.User
namespace Go.User
open Go.Lf Go.Proofs
theorem ok18 : FOk Try.prog 18 S18 := by
  refine FOk.intro (okA fns_nil) (stpS_ok (okA fns_nil)) Try.call18 Try.func18 (by kernel_rfl) (by kernel_rfl) L18 (vc18.mpr ?_)
  simp only [z1, z2, z3, z4, z5, z6, z7, z8, z9, z10, z11, z12, z13, z14, z15, z16, z17, z18, z19, z20, z21, z22, z23, z24, z25, z26, z27, z28, z29, z30, z31, z32, z33, z34, z35, z36, z37, z38]
  rintro ⟨⟨p, u⟩, u'⟩ hp hx
  have hp : Sp.total p ≤ 1000000 := hp
  have hl : p.length ≤ lim := hx.1.1
  refine ⟨⟨0, Nat.zero_le _, rfl, by simp [Sp.total]⟩, ?_⟩
  intro i hi hk
  have hi : i ≤ p.length := hi
  have hle := Sp.total_take_le p i
  refine ⟨fun hlt => ?_, fun hge => ?_⟩
  · have hlt : (i : Int) < (p.length : Int) := hlt
    have hs := Sp.total_take_succ (p := p) (i := i) (by omega)
    have hle2 := Sp.total_take_le p (i + 1)
    refine ⟨⟨inN_of hlt, inK_mid (by omega) ?_⟩, inK_succ hlt hl, i + 1, by show i + 1 ≤ p.length; omega, by show p.length - (i + 1) < p.length - i; omega, by omega, ?_⟩
    · show ((Sp.total (p.take i) : Nat) : Int) + ((p.getD i []).length : Int) ≤ 1000000000; omega
    · show ((Sp.total (p.take i) : Nat) : Int) + ((p.getD i []).length : Int) = ((Sp.total (p.take (i + 1)) : Nat) : Int); omega
  · show ((Sp.total (p.take i) : Nat) : Int) = _
    rw [Pl.take_all hi hge]
theorem ok49 : FOk Try.prog 49 S49 := by
  have hC : CtxOK Try.prog C49 := okC fns_nil rfl rfl rfl rfl rfl rfl rfl
  refine FOk.intro hC (stpS_ok hC) Try.call49 Try.func49 (by kernel_rfl) (by kernel_rfl) L49 (vc49.mpr ?_)
  simp only [z1, z2, z3, z4, z5, z6, z7, z8, z9, z10, z11, z12, z13, z14, z15, z16, z17, z18, z19, z20, z21, z22, z23, z24, z25, z26, z27, z28, z29, z30, z31, z32, z33, z34, z35, z36, z37, z38]
  rintro ⟨a, b, u⟩ hx
  have ha : a.length ≤ lim := hx.1.1
  have hb : b.length ≤ lim := hx.2.1
  refine ⟨⟨0, ⟨Nat.zero_le _, Nat.zero_le _, rfl⟩, rfl⟩, ?_⟩
  rintro i ⟨h1, h2, h3⟩ hk
  have h1 : i ≤ a.length := h1
  have h2 : i ≤ b.length := h2
  have h3 : a.take i = b.take i := h3
  refine ⟨fun ⟨hla, hlb⟩ => ?_, fun hn => ?_⟩
  · have hla : (i : Int) < (a.length : Int) := hla
    have hlb : (i : Int) < (b.length : Int) := hlb
    refine ⟨⟨inN_of hla, inN_of hlb⟩, fun hn => ⟨⟨inN_of hla, inN_of hlb⟩, Sp.cmpR_take (by omega) (by omega) h3 hn⟩, fun he => ⟨inK_succ hla ha, i + 1, ⟨by show i + 1 ≤ a.length; omega, by show i + 1 ≤ b.length; omega, ?_⟩, by show a.length - (i + 1) < a.length - i; omega, by omega⟩⟩
    exact Pl.take_eq_succ (d := 0) (by omega) (by omega) h3 he
  · have hn : (decide ((i : Int) < (a.length : Int)) && decide ((i : Int) < (b.length : Int))) = false := hn
    rw [Bool.and_eq_false_iff, decide_eq_false_iff_not, decide_eq_false_iff_not] at hn
    rw [lim_eq] at ha hb
    refine ⟨inK_of ?_ ?_, Sp.cmpR_end (a := a) (b := b) h1 h2 (by omega) h3⟩
    · show _ ≤ (a.length : Int) - (b.length : Int); omega
    · show (a.length : Int) - (b.length : Int) ≤ _; omega
theorem ok41 : FOk Try.prog 41 S41 := by
  have hC : CtxOK Try.prog C41 := okA (fns_cons ok49 fns_nil)
  refine FOk.intro hC (stpS_ok hC) Try.call41 Try.func41 (by kernel_rfl) (by kernel_rfl) L41 (vc41.mpr ?_)
  simp only [z1, z2, z3, z4, z5, z6, z7, z8, z9, z10, z11, z12, z13, z14, z15, z16, z17, z18, z19, z20, z21, z22, z23, z24, z25, z26, z27, z28, z29, z30, z31, z32, z33, z34, z35, z36, z37, z38]
  rintro ⟨a, b, u⟩ hx
  have ha : ∀ x ∈ a, inK .i64 x := hx.1.2
  have hb : ∀ x ∈ b, inK .i64 x := hx.2.2
  show (((a.length : Int) == (b.length : Int)) && (Sp.cmpR a b == 0)) = Sp.sameI a b
  unfold Sp.sameI
  by_cases h : a = b
  · subst h
    rw [Sp.cmpR_self]; simp
  · rw [decide_eq_false h]
    by_cases hl : a.length = b.length
    · have : ¬ Sp.cmpR a b = 0 := fun hz => h (Sp.cmpR_zero hl ha hb hz)
      simp [hl, this]
    · have : ¬ (a.length : Int) = (b.length : Int) := by omega
      simp [this]
theorem ok22 : FOk Try.prog 22 S22 := by
  have hC : CtxOK Try.prog C22 := okA (fns_cons ok49 fns_nil)
  refine FOk.intro hC (stpS_ok hC) Try.call22 Try.func22 (by kernel_rfl) (by kernel_rfl) L22 (vc22.mpr ?_)
  simp only [z1, z2, z3, z4, z5, z6, z7, z8, z9, z10, z11, z12, z13, z14, z15, z16, z17, z18, z19, z20, z21, z22, z23, z24, z25, z26, z27, z28, z29, z30, z31, z32, z33, z34, z35, z36, z37, z38]
  intro x hx
  refine ⟨fun h => ?_, fun h => ?_⟩
  · unfold Sp.cmpQ; rw [if_pos h]
  · unfold Sp.cmpQ; rw [if_neg (by rw [h]; simp)]
theorem ok40 : FOk Try.prog 40 S40 := by
  have hC : CtxOK Try.prog C40 := okC (fns_cons ok22 fns_nil) rfl rfl rfl rfl rfl rfl rfl
  refine FOk.intro hC (stpS_ok hC) Try.call40 Try.func40 (by kernel_rfl) (by kernel_rfl) L40 (vc40.mpr ?_)
  simp only [z1, z2, z3, z4, z5, z6, z7, z8, z9, z10, z11, z12, z13, z14, z15, z16, z17, z18, z19, z20, z21, z22, z23, z24, z25, z26, z27, z28, z29, z30, z31, z32, z33, z34, z35, z36, z37, z38]
  rintro ⟨l, t, u⟩ hp hx
  have hp : l.length ≤ 1000000 := hp
  have hle : Sp.firstN l t ≤ l.length := Pl.tw_le _ _
  refine ⟨⟨0, Nat.zero_le _, rfl⟩, ?_⟩
  intro k hk _
  have hk : k ≤ Sp.firstN l t := hk
  refine ⟨fun h => inN_of h, fun ⟨h1, h2⟩ => ?_, fun h => ?_⟩
  · have h1 : (k : Int) < (l.length : Int) := h1
    have h2 : Sp.cmpQ (l.getD k Sp.out0) t < 0 := h2
    have : k ≠ Sp.firstN l t := by
      rintro rfl
      have := Pl.tw_stop (p := fun e => decide (Sp.cmpQ e t < 0)) (l := l) (d := Sp.out0) (by show Sp.firstN l t < l.length; omega)
      exact of_decide_eq_false this h2
    exact ⟨inK_mid (by omega) (by omega), k + 1, by show k + 1 ≤ Sp.firstN l t; omega, by show Sp.firstN l t - (k + 1) < Sp.firstN l t - k; omega, by omega⟩
  · have h : (decide ((k : Int) < (l.length : Int)) && decide (Sp.cmpQ (l.getD k Sp.out0) t < 0)) = false := h
    have e : k = Sp.firstN l t := by
      rw [Bool.and_eq_false_iff, decide_eq_false_iff_not, decide_eq_false_iff_not] at h
      refine Classical.byContradiction fun hne => ?_
      have := Pl.tw_get (p := fun e => decide (Sp.cmpQ e t < 0)) (l := l) (k := k) (d := Sp.out0) (by show k < Sp.firstN l t; omega)
      rcases h with h | h
      · omega
      · exact h (of_decide_eq_true this)
    refine ⟨fun h => inN_of h, fun ⟨h1, h2⟩ => ?_, fun hn => ⟨⟨⟨by omega, by omega, by show (k : Int) ≤ (l.length : Int); omega⟩, ?_, ?_, ⟨by omega, by show (k : Int) ≤ (l.length : Int); omega, Int.le_refl _⟩, ?_⟩, ?_⟩⟩
    · have h1 : (k : Int) < (l.length : Int) := h1
      exact Sp.added_same e (by omega) h2
    · show ((0 + (win 0 (k : Int) l).length : Nat) : Int) ≤ maxNew
      rw [Pl.win_take, List.length_take, maxNew_eq]; omega
    · show (((win 0 (k : Int) l).length + 1 : Nat) : Int) ≤ maxNew
      rw [Pl.win_take, List.length_take, maxNew_eq]; omega
    · show (((win 0 (k : Int) l ++ [t]).length + (win (k : Int) (l.length : Int) l).length : Nat) : Int) ≤ maxNew
      rw [Pl.win_take, Pl.win_drop, List.length_append, List.length_take, List.length_drop, maxNew_eq]; simp; omega
    · show win 0 (k : Int) l ++ [t] ++ win (k : Int) (l.length : Int) l = Sp.added l t
      rw [Pl.win_take, Pl.win_drop]
      refine Sp.added_new e (fun ⟨g1, g2⟩ => ?_)
      have hn : (decide ((k : Int) < (l.length : Int)) && (Sp.cmpQ (l.getD k Sp.out0) t == 0)) = false := hn
      rw [decide_eq_true (by omega), g2] at hn
      simp at hn
theorem ok15 : FOk Try.prog 15 S15 := by
  have hC : CtxOK Try.prog C15 := okA (fns_cons ok40 fns_nil)
  refine FOk.intro hC (stpS_ok hC) Try.call15 Try.func15 (by kernel_rfl) (by kernel_rfl) L15 (vc15.mpr ?_)
  simp only [z1, z2, z3, z4, z5, z6, z7, z8, z9, z10, z11, z12, z13, z14, z15, z16, z17, z18, z19, z20, z21, z22, z23, z24, z25, z26, z27, z28, z29, z30, z31, z32, z33, z34, z35, z36, z37, z38]
  rintro ⟨a, b, u⟩ hp hx
  have hp : b.length ≤ 1000000 := hp
  have ha : a.length ≤ lim := hx.1.1
  refine ⟨⟨0, ⟨Nat.zero_le _, rfl⟩, rfl⟩, ?_⟩
  rintro i ⟨h1, h2⟩ _
  have h1 : i ≤ a.length := h1
  have h2 : Sp.inside (a.take i) b = true := h2
  refine ⟨fun hlt => ⟨⟨inN_of hlt, hp⟩, fun hn => ?_, fun he => ⟨inK_succ hlt ha, i + 1, ⟨?_, ?_⟩, ?_, by omega⟩⟩, fun hge => ?_⟩
  · have hlt : (i : Int) < (a.length : Int) := hlt
    have hn : ¬ ((Sp.added b (a.getD i Sp.out0)).length : Int) = (b.length : Int) := hn
    show false = Sp.inside a b
    symm
    unfold Sp.inside
    rw [List.all_eq_false]
    exact ⟨_, Pl.getD_mem (by omega : i < a.length) Sp.out0, fun h => hn (by have h : (Sp.added b (a.getD i Sp.out0)).length = b.length := of_decide_eq_true h; omega)⟩
  · have hlt : (i : Int) < (a.length : Int) := hlt
    show i + 1 ≤ a.length; omega
  · have hlt : (i : Int) < (a.length : Int) := hlt
    have he : ((Sp.added b (a.getD i Sp.out0)).length : Int) = (b.length : Int) := he
    unfold Sp.inside at h2 ⊢
    rw [List.all_eq_true] at h2 ⊢
    exact Pl.all_take_succ (d := Sp.out0) h2 (by show i < a.length; omega) (by show decide ((Sp.added b (a.getD i Sp.out0)).length = b.length) = true; exact decide_eq_true (by omega))
  · have hlt : (i : Int) < (a.length : Int) := hlt
    show a.length - (i + 1) < a.length - i; omega
  · show true = Sp.inside a b
    rw [Pl.take_all h1 hge] at h2
    exact h2.symm
theorem ok38 : FOk Try.prog 38 S38 := by
  have hC : CtxOK Try.prog C38 := okC (fns_cons ok41 fns_nil) rfl rfl rfl rfl rfl rfl rfl
  refine FOk.intro hC (stpS_ok hC) Try.call38 Try.func38 (by kernel_rfl) (by kernel_rfl) L38 (vc38.mpr ?_)
  simp only [z1, z2, z3, z4, z5, z6, z7, z8, z9, z10, z11, z12, z13, z14, z15, z16, z17, z18, z19, z20, z21, z22, z23, z24, z25, z26, z27, z28, z29, z30, z31, z32, z33, z34, z35, z36, z37, z38]
  rintro ⟨l, p, q, u⟩ hx
  have hl : l.length ≤ lim := hx.1.1
  refine ⟨⟨0, ⟨Nat.zero_le _, rfl⟩, rfl⟩, ?_⟩
  rintro i ⟨h1, h2⟩ _
  have h1 : i ≤ l.length := h1
  have h2 : Sp.rds (l.take i) p q = false := h2
  refine ⟨fun hlt => ⟨inN_of hlt, fun he => ?_, fun he => ⟨inK_succ hlt hl, i + 1, ⟨?_, ?_⟩, ?_, by omega⟩⟩, fun hge => ?_⟩
  · have hlt : (i : Int) < (l.length : Int) := hlt
    have he : Sp.sameI (l.getD i Sp.out0).1 [p, q] = true := he
    show true = Sp.rds l p q
    symm
    unfold Sp.rds
    rw [List.any_eq_true]
    exact ⟨_, Pl.getD_mem (by omega) Sp.out0, decide_eq_true (of_decide_eq_true he)⟩
  · have hlt : (i : Int) < (l.length : Int) := hlt
    show i + 1 ≤ l.length; omega
  · have hlt : (i : Int) < (l.length : Int) := hlt
    have he : Sp.sameI (l.getD i Sp.out0).1 [p, q] = false := he
    show Sp.rds (l.take (i + 1)) p q = false
    unfold Sp.rds at h2 ⊢
    rw [List.any_eq_false] at h2 ⊢
    exact Pl.all_take_succ (d := Sp.out0) (p := fun o : Sp.Out => ¬ decide (o.1 = [p, q]) = true) h2 (by omega) (by
      have := of_decide_eq_false he
      simpa using this)
  · have hlt : (i : Int) < (l.length : Int) := hlt
    show l.length - (i + 1) < l.length - i; omega
  · show false = Sp.rds l p q
    rw [Pl.take_all h1 hge] at h2
    exact h2.symm
end Go.User
namespace Sp
open Go.Lf
theorem cat_len (p : List (List LOp)) : (cat p).length = total p := by
  unfold cat total; rw [List.length_flatten]
theorem choN_succ (s : VSt) (n : Nat) : choN s (n + 1) = choN s n ++ chC s n := by
  unfold choN; rw [List.range_succ, List.flatMap_append]; simp
theorem chI_succ (o : LOp) (m : List Msg) (a : Int) (c i : Nat) (h : a ≤ (i : Int)) : chI o m a c (i + 1) = chI o m a c i ++ (if may o m i = true then [((c : Int), (i : Int), ())] else []) := by
  unfold chI
  rw [List.range_succ, List.filter_append, List.map_append]
  congr 1
  by_cases hm : may o m i = true
  · simp [hm, h]
  · simp [hm]
theorem chI_nil (o : LOp) (m : List Msg) (a : Int) (c i : Nat) (h : (i : Int) ≤ a) : chI o m a c i = [] := by
  unfold chI
  rw [List.map_eq_nil_iff, List.filter_eq_nil_iff]
  intro k hk
  have := List.mem_range.1 hk
  have h' : ¬ a ≤ (k : Int) := by omega
  simp [h']
theorem chI_len (o : LOp) (m : List Msg) (a : Int) (c i : Nat) : (chI o m a c i).length ≤ i := by
  unfold chI
  rw [List.length_map]
  have := List.length_filter_le (fun (k : Nat) => decide (a ≤ (k : Int)) && may o m k) (List.range i)
  rw [List.length_range] at this; exact this
theorem mem_chI {o : LOp} {m : List Msg} {a : Int} {c i : Nat} {x : Cho} : x ∈ chI o m a c i ↔ ∃ k : Nat, k < i ∧ a ≤ (k : Int) ∧ may o m k = true ∧ x = ((c : Int), (k : Int), ()) := by
  unfold chI
  simp only [List.mem_map, List.mem_filter, List.mem_range, Bool.and_eq_true, decide_eq_true_eq]
  constructor
  · rintro ⟨k, ⟨h1, h2, h3⟩, rfl⟩; exact ⟨k, h1, h2, h3, rfl⟩
  · rintro ⟨k, h1, h2, h3, rfl⟩; exact ⟨k, ⟨h1, h2, h3⟩, rfl⟩
theorem chC_done {s : VSt} {c : Nat} (h : pcOf s c = (opsOf s c).length) : chC s c = [] := by unfold chC; rw [if_pos h]
theorem chC_fence {s : VSt} {c : Nat} (h : ¬ pcOf s c = (opsOf s c).length) (hf : (nextOp s c).1 = 4) : chC s c = [((c : Int), 0, ())] := by unfold chC; rw [if_neg h, if_pos hf]
theorem chC_other {s : VSt} {c : Nat} (h : ¬ pcOf s c = (opsOf s c).length) (hf : ¬ (nextOp s c).1 = 4) :
    chC s c = chI (nextOp s c) (memOf s (nextOp s c).2.1.toNat) (plV s c (nextOp s c).2.1.toNat) c (memOf s (nextOp s c).2.1.toNat).length := by unfold chC; rw [if_neg h, if_neg hf]
theorem OkS.op {s : VSt} (h : OkS s) {c : Nat} (hc : c < s.1.1.length) (hn : ¬ pcOf s c = (opsOf s c).length) :
    0 ≤ pcOf s c ∧ (pcOf s c).toNat < (opsOf s c).length ∧ 0 ≤ (nextOp s c).2.1 ∧ (nextOp s c).2.1 < 3 ∧ nextOp s c ∈ opsOf s c := by
  obtain ⟨h1, h2⟩ := h.pc c hc
  have h3 : (pcOf s c).toNat < (opsOf s c).length := by omega
  have hm : nextOp s c ∈ opsOf s c := Pl.getD_mem h3 _
  obtain ⟨h4, h5⟩ := h.ops (opsOf s c) (Pl.getD_mem hc _) _ hm
  exact ⟨h1, h3, h4, h5, hm⟩
theorem chC_len {s : VSt} (h : OkS s) {c : Nat} (hc : c < s.1.1.length) : (chC s c).length ≤ 2000 := by
  by_cases h1 : pcOf s c = (opsOf s c).length
  · rw [chC_done h1]; simp
  · by_cases h2 : (nextOp s c).1 = 4
    · rw [chC_fence h1 h2]; simp
    · rw [chC_other h1 h2]
      obtain ⟨_, _, g3, g4, _⟩ := h.op hc h1
      exact Nat.le_trans (chI_len _ _ _ _ _) (h.mem _ (by omega)).2
theorem choN_len {s : VSt} (h : OkS s) : ∀ {n : Nat}, n ≤ s.1.1.length → (choN s n).length ≤ 2000 * n
  | 0, _ => Nat.le_refl _
  | n + 1, hn => by
    rw [choN_succ, List.length_append]
    have := choN_len h (n := n) (by omega)
    have := chC_len h (c := n) (by omega)
    omega
theorem mem_choN {s : VSt} {n : Nat} {x : Cho} : x ∈ choN s n ↔ ∃ c, c < n ∧ x ∈ chC s c := by
  unfold choN
  simp only [List.mem_flatMap, List.mem_range]
theorem mem_choices {s : VSt} {x : Cho} : x ∈ choices s ↔ ∃ c, c < s.1.1.length ∧ x ∈ chC s c := mem_choN
/-- What is known of a choice. -/
structure XF (s : VSt) (x : Cho) : Prop where
  lt : ofC x < s.1.1.length
  eq : x.1 = (ofC x : Int)
  pcn : ¬ pcOf s (ofC x) = (opsOf s (ofC x)).length
  pc0 : 0 ≤ pcOf s (ofC x)
  pc1 : (pcOf s (ofC x)).toNat < (opsOf s (ofC x)).length
  pl0 : 0 ≤ (opX s x).2.1
  pl1 : (opX s x).2.1 < 3
  mem : opX s x ∈ opsOf s (ofC x)
  fen : (opX s x).1 = 4 → x.2.1 = 0
  idx : (opX s x).1 ≠ 4 → plV s (ofC x) (plX s x) ≤ x.2.1 ∧ 0 ≤ x.2.1 ∧ x.2.1.toNat < (memOf s (plX s x)).length ∧ may (opX s x) (memOf s (plX s x)) x.2.1.toNat = true
theorem OkS.xf {s : VSt} (h : OkS s) {x : Cho} (hx : x ∈ choices s) : XF s x := by
  obtain ⟨c, hc, hm⟩ := mem_choices.1 hx
  by_cases h1 : pcOf s c = (opsOf s c).length
  · rw [chC_done h1] at hm; cases hm
  obtain ⟨g1, g2, g3, g4, g5⟩ := h.op hc h1
  by_cases h2 : (nextOp s c).1 = 4
  · rw [chC_fence h1 h2, List.mem_singleton] at hm
    subst hm
    have e : ofC ((c : Int), 0, ()) = c := Int.toNat_natCast c
    refine ⟨by rw [e]; exact hc, by rw [e], by rw [e]; exact h1, by rw [e]; exact g1, by rw [e]; exact g2, ?_, ?_, ?_, fun _ => rfl, fun hn => ?_⟩
    · unfold opX; rw [e]; exact g3
    · unfold opX; rw [e]; exact g4
    · unfold opX; rw [e]; exact g5
    · unfold opX at hn; rw [e] at hn; exact absurd h2 hn
  · rw [chC_other h1 h2, mem_chI] at hm
    obtain ⟨k, k1, k2, k3, rfl⟩ := hm
    have e : ofC ((c : Int), (k : Int), ()) = c := Int.toNat_natCast c
    refine ⟨by rw [e]; exact hc, by rw [e], by rw [e]; exact h1, by rw [e]; exact g1, by rw [e]; exact g2, ?_, ?_, ?_, ?_, fun _ => ?_⟩
    · unfold opX; rw [e]; exact g3
    · unfold opX; rw [e]; exact g4
    · unfold opX; rw [e]; exact g5
    · intro hn; unfold opX at hn; rw [e] at hn; exact absurd hn h2
    · unfold plX opX; rw [e]
      exact ⟨k2, Int.natCast_nonneg k, by simpa using k1, by simpa using k3⟩
theorem choP_start {s : VSt} {c i : Nat} (h : (i : Int) ≤ plV s c (nextOp s c).2.1.toNat) : choP s c i = choN s c := by
  unfold choP; rw [chI_nil _ _ _ _ _ h, List.append_nil]
theorem choP_yes {s : VSt} {c i : Nat} (h : plV s c (nextOp s c).2.1.toNat ≤ (i : Int)) (hm : may (nextOp s c) (memOf s (nextOp s c).2.1.toNat) i = true) : choP s c i ++ [((c : Int), (i : Int), ())] = choP s c (i + 1) := by
  unfold choP; rw [chI_succ _ _ _ _ _ h, if_pos hm, List.append_assoc]
theorem choP_no {s : VSt} {c i : Nat} (h : plV s c (nextOp s c).2.1.toNat ≤ (i : Int)) (hm : may (nextOp s c) (memOf s (nextOp s c).2.1.toNat) i = false) : choP s c i = choP s c (i + 1) := by
  unfold choP; rw [chI_succ _ _ _ _ _ h, if_neg (by rw [hm]; decide), List.append_nil]
theorem choP_end {s : VSt} {c : Nat} (h1 : ¬ pcOf s c = (opsOf s c).length) (h2 : ¬ (nextOp s c).1 = 4) {i : Nat} (hi : i = (memOf s (nextOp s c).2.1.toNat).length) : choP s c i = choN s (c + 1) := by
  subst hi; unfold choP; rw [choN_succ, chC_other h1 h2]
theorem choP_len {s : VSt} (h : OkS s) {c i : Nat} (hc : c ≤ s.1.1.length) : (choP s c i).length ≤ 2000 * c + i := by
  unfold choP; rw [List.length_append]
  have := choN_len h hc
  have := chI_len (nextOp s c) (memOf s (nextOp s c).2.1.toNat) (plV s c (nextOp s c).2.1.toNat) c i
  omega
theorem plc_le (m : List Msg) (e : Int) : plc m e < (m.length : Int) ∨ plc m e = -1 := by
  unfold plc findM
  split
  · rename_i i h
    have := (List.findIdx?_eq_some_iff_getElem.1 h)
    obtain ⟨h1, _⟩ := this
    left; omega
  · right; rfl
theorem rowN_len (s : VSt) (c n : Nat) : (rowN s c n).length = 3 := by simp [rowN]
theorem rowN_get (s : VSt) (c n : Nat) {j : Nat} (hj : j < 3) : (rowN s c n).getD j 0 = if j < n then later s c j else vw s c j := by
  have : j = 0 ∨ j = 1 ∨ j = 2 := by omega
  rcases this with rfl | rfl | rfl <;> rfl
theorem rowN_succ (s : VSt) (c : Nat) {n : Nat} (hn : n < 3) : (rowN s c n).set n (later s c n) = rowN s c (n + 1) := by
  have : n = 0 ∨ n = 1 ∨ n = 2 := by omega
  rcases this with rfl | rfl | rfl <;> rfl
theorem rowN_zero {s : VSt} {c : Nat} (h : (rowOf s c).length = 3) : rowN s c 0 = rowOf s c := by
  unfold rowN vw
  match hr : rowOf s c, h with
  | [a, b, d], _ => rfl
theorem set_same {α : Type} {l : List α} {n : Nat} {d : α} (h : n < l.length) : l.set n (l.getD n d) = l := by
  rw [Pl.getD_at h]; exact List.set_getElem_self h
theorem vwN_zero {s : VSt} {c : Nat} (hc : c < s.2.2.2.1.length) (h : (rowOf s c).length = 3) : vwN s c 0 = s.2.2.2.1 := by
  unfold vwN; rw [rowN_zero h]; exact set_same hc
theorem vwN_len (s : VSt) (c n : Nat) : (vwN s c n).length = s.2.2.2.1.length := by unfold vwN; rw [List.length_set]
theorem vwN_get {s : VSt} {c : Nat} (n : Nat) (hc : c < s.2.2.2.1.length) (d : List Int) : (vwN s c n).getD c d = rowN s c n := by
  unfold vwN; rw [Pl.getD_set c hc, if_pos rfl]
theorem vwN_set {s : VSt} {c : Nat} (n : Nat) (r : List Int) : (vwN s c n).set c r = s.2.2.2.1.set c r := by
  unfold vwN; rw [List.set_set]
theorem evt_lt {s : VSt} {c : Int} (h0 : 0 ≤ c) (h1 : c < (s.1.1.length : Int)) (h2 : 0 ≤ pcOf s c.toNat) (h3 : pcOf s c.toNat < ((opsOf s c.toNat).length : Int)) : 0 ≤ evt s c ∧ evt s c < (total s.1.1 : Int) := by
  have e1 := total_take_succ (p := s.1.1) (i := c.toNat) (by omega)
  have e2 := total_take_le s.1.1 (c.toNat + 1)
  have e3 : (opsOf s c.toNat).length = (s.1.1.getD c.toNat []).length := rfl
  unfold evt
  omega
theorem st_eq {A : Lit} {b b' : List Int} {c c' : List (List Msg)} {d d' : List (List Int)} {e e' f f' g g' h h' : List Int} (h1 : b = b') (h2 : c = c') (h3 : d = d') (h4 : e = e') (h5 : f = f') (h6 : g = g') (h7 : h = h') :
    ((A, b, c, d, e, f, g, h, ()) : VSt) = (A, b', c', d', e', f', g', h', ()) := by
  subst h1 h2 h3 h4 h5 h6 h7; rfl
end Sp
namespace Go.User
open Go.Proofs Go.Lf
set_option maxRecDepth 100000
theorem vc43 : (funI C43 (stpT G32 C43) S43 L43 Try.f43) = (
let q0 : Prop := (True ∧ True) ∧ True;
let q1 : Prop := True ∧ True ∧ True;
let q2 : Prop := (True ∧ q1) ∧ True;
let q3 : Int := (0 : Int);
let q4 : Prop := q1 ∧ True;
let q5 : Int := (1 : Int);
∀ (x : List (List (Int × Int × Int × Unit)) × Unit),
  let q6 : Nat := x.1.length;
  let q7 : Prop := x.1 = x.1;
  let q8 : Int := (↑q6 : Int);
  let q9 : Prop := q7 ∧ q8 = q8 ∧ True;
  let q10 : Prop := q7 ∧ q9;
  Sp.total x.1 ≤ (1000 : Nat) →
    dFact ((Ty.int IntKind.i64).prod ((Ty.int IntKind.i64).prod ((Ty.int IntKind.i64).prod Ty.unit))).slice.slice x.1 ∧ True →
      q0 ∧
        q0 ∧
          q2 ∧
            (∃ (x_1 : Nat), x_1 ≤ q6 ∧ q3 = (↑x_1 : Int) ∧ q3 = (↑(Sp.total (List.take x_1 x.1)) : Int) ∧ q10) ∧
              ∀ (x_1 : Nat),
                let q11 : Int := (↑(Sp.total (List.take x_1 x.1)) : Int);
                let q12 : Bool := decide ((↑x_1 : Int) < q8);
                let q13 : Int := q11 + (↑(List.length (x.1.getD (↑x_1 : Int).toNat (([] : List tLOp.den)))) : Int);
                let q14 : Bool := decide (q13 < q3);
                let q15 : Int := (↑x_1 : Int) + q5;
                x_1 ≤ q6 →
                  dFact (Ty.int IntKind.i64) (↑x_1 : Int) ∧ dFact (Ty.int IntKind.i64) q11 ∧ True →
                    q0 ∧
                      (q12 = true → ((inN (↑x_1 : Int) q6 ∧ q1) ∧ True) ∧ ((True ∧ True ∧ True ∧ inK IntKind.i64 q13 ∧ True ∧ True) ∧ True) ∧ q4 ∧ (q14 = true → False) ∧ (q14 = false → ((inK IntKind.i64 q15 ∧ True ∧ True) ∧ True) ∧ ∃ (y : Nat), y ≤ q6 ∧ q6 - y < q6 - x_1 ∧ q15 = (↑y : Int) ∧ q13 = (↑(Sp.total (List.take y x.1)) : Int) ∧ q10)) ∧
                        (q12 = false →
                          ((True ∧ True) ∧ ((0 : (Ty.int IntKind.i64).den) ≤ q11 ∧ q11 ≤ (1000000 : (Ty.int IntKind.i64).den)) ∧ True ∧ True) ∧
                            q2 ∧
                              (∃ (x_2 : Nat), x_2 ≤ q6 ∧ q3 = (↑x_2 : Int) ∧ ([] : List tLOp.den) = Sp.cat (List.take x_2 x.1) ∧ q9) ∧
                                ∀ (x_2 : Nat),
                                  let q16 : List (Int × Int × Int × Unit) := Sp.cat (List.take x_2 x.1);
                                  let q17 : Bool := decide ((↑x_2 : Int) < q8);
                                  let q18 : List (Int × Int × Int × Unit) := x.1.getD (↑x_2 : Int).toNat (([] : List tLOp.den));
                                  let q19 : Int := (↑x_2 : Int) + q5;
                                  x_2 ≤ q6 → dFact (Ty.int IntKind.i64) (↑x_2 : Int) ∧ dFact ((Ty.int IntKind.i64).prod ((Ty.int IntKind.i64).prod ((Ty.int IntKind.i64).prod Ty.unit))).slice q16 ∧ True → q0 ∧ (q17 = true → ((inN (↑x_2 : Int) q6 ∧ q1) ∧ True) ∧ (q1 ∧ (↑(q16.length + q18.length) : Int) ≤ maxNew ∧ True ∧ True) ∧ ((inK IntKind.i64 q19 ∧ True ∧ True) ∧ True) ∧ ∃ (y : Nat), y ≤ q6 ∧ q6 - y < q6 - x_2 ∧ q19 = (↑y : Int) ∧ q16 ++ q18 = Sp.cat (List.take y x.1) ∧ q9) ∧ (q17 = false → q4 ∧ q16 = Sp.cat x.1))) := by kernel_rfl
end Go.User
