/- Operations that only copy a slot may be executed as soon as they can: regions in which they float. A region whose stores into new variables come last, in another order of its operations. Code, by value: one proposition for a body. A function, by value: from its body's proposition to its contract. One step, by value. Arguments as they come in: numbers, slices of numbers, numbers in structs and arrays, slices of such structs. -/
import Derived.Test.YtghhmompjooecaaDoorLff
import Derived.Laws.Sem
import Derived.ProofKit
import Derived.SizedLaws
import Derived.Deep.Slices
set_option linter.unusedVariables false
set_option linter.unusedSimpArgs false
namespace Go.Lf

def floB (o : Oper) : Bool := (match o.guard with
 | none => true
 | some _ => false) && (match o.op, o.dst with
 | .move (.tmp _), some _ => true
 | .extract (.tmp _) _, some _ => true
 | _, _ => false)
def addE (f : Nat) (o : Oper) : Oper := { o with after := o.after.push ⟨f, .data⟩ }
def predB (o : Oper) (m : Nat) : Bool := o.after.toList.all fun e => bif Region.binds .any e then m.testBit e.on else true
def addB (anc : List Nat) (o : Oper) (f j : Nat) : Bool := Nat.blt f j && !(anc.getD j 0).testBit f && predB o (anc.getD j 0)
def hoistL (anc : List Nat) (of : Oper) (f : Nat) : List Oper -> Nat -> List Oper
 | [], _ => []
 | o :: l, j => (bif addB anc of f j then addE f o else o) :: hoistL anc of f l (j + 1)
def selB (o : Oper) : Bool := match o.op with
 | .select _ _ => false
 | _ => true
def freeB (ops : Array Oper) (anc : List Nat) (of : Oper) (f : Nat) : List Oper -> Nat -> Bool
 | [], _ => true
 | o :: l, j => selB o && (Nat.beq j f || (anc.getD j 0).testBit f || (anc.getD f 0).testBit j || of.apart ops o) && freeB ops anc of f l (j + 1)
def hoist1 (ops : List Oper) (f : Nat) : List Oper := match ops[f]? with
 | some of => bif floB of && freeB ops.toArray (ancB ops) of f ops 0 then hoistL (ancB ops) of f ops 0 else ops
 | none => ops
def hoistN : Nat -> List Oper -> List Oper
 | 0, ops => ops
 | n + 1, ops => hoist1 (hoistN n ops) n
def hoist (ops : List Oper) : List Oper := hoistN ops.length ops

section
variable {P : Program} {Q : Exit -> Act -> World -> Prop}

theorem hoistL_get {anc : List Nat} {of : Oper} {f : Nat} : ∀ {l : List Oper} {k : Nat} (j : Nat), (hoistL anc of f l k)[j]? = (l[j]?).map fun o => bif addB anc of f (k + j) then addE f o else o
 | [], k, j => by simp [hoistL]
 | o :: l, k, 0 => by simp [hoistL]
 | o :: l, k, j + 1 => by
  simp only [hoistL, List.getElem?_cons_succ];rw [hoistL_get (l := l) (k := k + 1) j, show k + 1 + j = k + (j + 1) by omega]

theorem freeB_ok {ops : Array Oper} {anc : List Nat} {of : Oper} {f : Nat} : ∀ {l : List Oper} {k : Nat}, freeB ops anc of f l k = true -> ∀ j o, l[j]? = some o ->
  selB o = true /\ (k + j = f ∨ (anc.getD (k + j) 0).testBit f = true ∨ (anc.getD f 0).testBit (k + j) = true ∨ of.apart ops o = true)
 | [], _, _, j, o, h => by simp at h
 | o :: l, k, h, 0, o', ho => by
  simp only [List.getElem?_cons_zero, Option.some.injEq] at ho;subst ho;simp only [freeB, Bool.and_eq_true, Bool.or_eq_true] at h;refine ⟨h.1.1, ?_⟩;rcases h.1.2 with ((h1 | h1) | h1) | h1
  ·exact .inl (Nat.eq_of_beq_eq_true h1)
  ·exact .inr (.inl h1)
  ·exact .inr (.inr (.inl h1))
  ·exact .inr (.inr (.inr h1))
 | o :: l, k, h, j + 1, o', ho => by
  simp only [List.getElem?_cons_succ] at ho;simp only [freeB, Bool.and_eq_true] at h;have := freeB_ok h.2 j o' ho;rw [show k + 1 + j = k + (j + 1) by omega] at this
  exact this

theorem selB_ok {o : Oper} (h : selB o = true) : ∀ cs b, o.op ≠ .select cs b := by
 intro cs b he
 rw [selB, he] at h; cases h

def onlyN (K : Act -> World -> Prop) : Exit -> Act -> World -> Prop := fun e a w => match e with
 | .normal => K a w
 | _ => False

theorem flo_step {ops : Array Oper} {f : Nat} {of : Oper} (hf : ops[f]? = some of) (hb : floB of = true) {K : Act -> World -> Prop} {K0 : Act -> World -> Prop} {a : Act} {w : World} (h : wpOp P ops (onlyN K0) f K a w) :
  ∃ v, Yields P ops of v a /\ K (a.put of.dst v) w := by
 unfold wpOp at h
 simp only [hf] at h
 unfold floB at hb
 simp only [Bool.and_eq_true] at hb
 obtain ⟨hg, ho⟩ := hb
 have hgn : of.guard = none := by
  cases hgg : of.guard with
  | none => rfl
  | some x => rw [hgg] at hg; cases hg
 have hw : Region.wanted of (yielded ops a.tmps) = true := by simp [Region.wanted, hgn]
 rw [if_pos hw] at h
 have hlet : ¬ LetsOut (onlyN K0) := by rintro ⟨_, _, h⟩; exact h
 rcases h with h | ⟨_, h⟩
 ·unfold Oper.wp at h
  split at ho
  ·rename_i x d hop hd
   have hv : ∀ w, (execOp a.eval of).run P w = .ok (.value (a.eval (.tmp x))) w := by
    intro w; simp [execOp, hop]
   rw [hv, Oper.upon_value] at h;exact ⟨_, .inl ⟨hw, hv⟩, h⟩
  ·rename_i x k d hop hd
   have hcase : (∃ v, ∀ w, (execOp a.eval of).run P w = .ok (.value v) w) ∨ ∀ w, ∃ s w', (execOp a.eval of).run P w = .halt s w' /\ ∀ v, s ≠ .panic v := by
    simp only [execOp, hop];cases hx : a.eval (.tmp x) <;> simp [Instr.extract, stuck];rename_i vs;cases hvs : vs[k]? <;> simp [stuck]
   rcases hcase with ⟨v, hv⟩ | hs
   ·rw [hv, Oper.upon_value] at h
    exact ⟨_, .inl ⟨hw, hv⟩, h⟩
   ·obtain ⟨s, w', h1, h2⟩ := hs w
    rw [h1] at h;cases s <;> first | exact h.elim | exact absurd rfl (h2 _)
  ·cases ho
 ·exact absurd h hlet

section core
variable {ops ops' : Array Oper} {X : Nat -> Bool} {f : Nat} {of : Oper} {K0 : Act -> World -> Prop}

theorem yielded_add (hmap : ∀ i, ops'[i]? = (ops[i]?).map fun o => bif X i then addE f o else o) (t : Array Value) : yielded ops' t = yielded ops t := by
 funext j
 unfold yielded
 rw [hmap j]
 cases ops[j]? with
 | none => rfl
 | some o => simp only [Option.map_some, Option.bind_some]; cases X j <;> rfl

theorem wpOp_add (hmap : ∀ i, ops'[i]? = (ops[i]?).map fun o => bif X i then addE f o else o) {i : Nat} {K : Act -> World -> Prop} {a : Act} {w : World} (h : wpOp P ops' Q i K a w) : wpOp P ops Q i K a w := by
 unfold wpOp at h ⊢
 rw [yielded_add hmap, hmap i] at h
 cases ho : ops[i]? with
 | none => rw [ho] at h; exact h
 | some o =>
  rw [ho] at h;simp only [Option.map_some] at h ⊢;cases hx : X i
  ·rw [hx] at h; exact h
  ·rw [hx] at h; exact h

theorem hoist_core (hmap : ∀ i, ops'[i]? = (ops[i]?).map fun o => bif X i then addE f o else o) (hf : ops[f]? = some of) (hb : floB of = true)
  (hfree : ∀ j o, ops[j]? = some o -> selB o = true /\ (j = f ∨ Reach ops j f ∨ Reach ops f j ∨ of.apart ops o = true)) (hX : ∀ j, X j = true -> j ≠ f /\ ∀ k, Waits ops f k -> Reach ops j k) :
  ∀ n, (∀ (listed : Array Bool) (a : Act) (w : World), listed.size = ops.size -> Closed ops (fun j => listed.getD j false) -> (listed.getD f false = true ∨ ¬ ∀ k, Waits ops f k -> listed.getD k false = true) ->
    wpAny P .any ops' (onlyN K0) n listed a w -> wpAny P .any ops (onlyN K0) n listed a w) /\
   ∀ (listed : Array Bool) (a : Act) (w : World) (v : Value), listed.size = ops.size -> Closed ops (fun j => listed.getD j false) -> listed.getD f false = false -> (∀ k, Waits ops f k -> listed.getD k false = true) -> Yields P ops of v a ->
    wpAny P .any ops' (onlyN K0) n (listed.setIfInBounds f true) (a.put of.dst v) w -> wpAny P .any ops (onlyN K0) (n + 1) listed a w := by
 have hXf : X f = false := by
  cases hx : X f
  ·rfl
  ·exact absurd rfl (hX f hx).1
 have hf' : ops'[f]? = some of := by rw [hmap, hf, hXf]; rfl
 have hflt : f < ops.size := by
  rcases Nat.lt_or_ge f ops.size with h | h
  ·exact h
  ·rw [Array.getElem?_eq_none h] at hf; cases hf
 have hYs : ∀ {v : Value} {a : Act}, Yields P ops' of v a -> Yields P ops of v a := by
  intro v a h;unfold Yields at h ⊢;rw [yielded_add hmap] at h; exact h
 have hpred : ∀ {listed : Array Bool} {i : Nat}, i ∈ Region.ready .any ops listed -> ∀ k, Waits ops i k -> listed.getD k false = true := by
  rintro listed i hi k ⟨o, e, g1, g2, g3, rfl⟩
  obtain ⟨_, o', ho, h2⟩ := mem_ready.1 hi;rw [g1] at ho; injection ho with ho; subst ho;exact h2 e g2 g3
 have hmk : ∀ {listed : Array Bool} {i : Nat}, i ∈ Region.ready .any ops listed -> (X i = true -> listed.getD f false = true) -> i ∈ Region.ready .any ops' listed := by
  intro listed i hi hx;obtain ⟨h1, o, ho, h2⟩ := mem_ready.1 hi;refine mem_ready.2 ⟨h1, _, by rw [hmap, ho]; rfl, ?_⟩
  intro e he hbd;cases hxi : X i
  ·rw [hxi] at he; exact h2 e he hbd
  ·rw [hxi] at he
   simp only [cond_true, addE, Array.mem_push] at he;rcases he with he | rfl
   ·exact h2 e he hbd
   ·exact hx hxi
 have hsize : ∀ {listed : Array Bool} (i : Nat), listed.size = ops.size -> (listed.setIfInBounds i true).size = ops.size := by
  intro listed i h; simpa using h
 have hclose : ∀ {listed : Array Bool} {i : Nat}, listed.size = ops.size -> Closed ops (fun j => listed.getD j false) -> i ∈ Region.ready .any ops listed -> Closed ops (fun j => (listed.setIfInBounds i true).getD j false) := by
  intro listed i hs hc hi j k hj hw;by_cases hji : i = j
  ·subst hji; exact getD_set_true (hpred hi k hw)
  ·simp only at hj
   rw [getD_set_ne false hji] at hj;exact getD_set_true (hc j k hj hw)
 intro n
 induction n using Nat.strongRecOn with
 | _ n ih =>
  have hA : ∀ (listed : Array Bool) (a : Act) (w : World), listed.size = ops.size -> Closed ops (fun j => listed.getD j false) -> (listed.getD f false = true ∨ ¬ ∀ k, Waits ops f k -> listed.getD k false = true) ->
    wpAny P .any ops' (onlyN K0) n listed a w -> wpAny P .any ops (onlyN K0) n listed a w := by
   intro listed a w hs hc hnp h;have hR : ∀ i, i ∈ Region.ready .any ops listed -> i ∈ Region.ready .any ops' listed := by
    intro i hi;refine hmk hi fun hx => ?_
    rcases hnp with h | h
    ·exact h
    ·exact absurd (fun k hk => reach_of_ready hc (hpred hi) ((hX i hx).2 k hk)) h
   have hnil : Region.ready .any ops' listed = [] -> Region.ready .any ops listed = [] := by
    intro h0;refine List.eq_nil_iff_forall_not_mem.2 fun i hi => ?_
    have := hR i hi
    rw [h0] at this; cases this
   cases n with
   | zero => exact ⟨hnil h.1, h.2⟩
   | succ n =>
    have hnil2 : Region.ready .any ops listed = [] -> Region.ready .any ops' listed = [] := by
     intro h0;refine List.eq_nil_iff_forall_not_mem.2 fun i hi => ?_
     have hi' : i ∈ Region.ready .any ops listed := by
      obtain ⟨h1, o, ho, h2⟩ := mem_ready.1 hi;rw [hmap] at ho;cases hoi : ops[i]? with
      | none => rw [hoi] at ho; cases ho
      | some o' =>
       rw [hoi] at ho;simp only [Option.map_some, Option.some.injEq] at ho;refine mem_ready.2 ⟨h1, o', hoi, fun e he hbd => h2 e ?_ hbd⟩
       rw [<- ho];cases X i
       ·exact he
       ·simp only [cond_true, addE, Array.mem_push]; exact .inl he
     rw [h0] at hi'; cases hi'
    refine ⟨fun h0 => h.1 (hnil2 h0), fun i hi => ?_⟩
    refine wpOp_mono ?_ (wpOp_add hmap (h.2 i (hR i hi)))
    intro a' w' h';have hs1 := hsize (listed := listed) i hs;have hc1 := hclose hs hc hi;by_cases hp : (listed.setIfInBounds i true).getD f false = true ∨ ¬ ∀ k, Waits ops f k -> (listed.setIfInBounds i true).getD k false = true
    ·exact (ih n (by omega)).1 _ _ _ hs1 hc1 hp h'
    ·have hp1 : (listed.setIfInBounds i true).getD f false = false := by
      cases hh : (listed.setIfInBounds i true).getD f false
      ·rfl
      ·exact absurd (.inl hh) hp
     have hp2 : ∀ k, Waits ops f k -> (listed.setIfInBounds i true).getD k false = true := Classical.not_not.1 fun hh => hp (.inr hh)
     have hrf : f ∈ Region.ready .any ops' (listed.setIfInBounds i true) := by
      refine mem_ready.2 ⟨?_, of, hf', fun e he hbd => hp2 _ ⟨of, e, hf, he, hbd, rfl⟩⟩
      have hl : f < (listed.setIfInBounds i true).size := by rw [hs1]; exact hflt
      simp only [Array.getD_eq_getD_getElem?, Array.getElem?_eq_getElem hl, Option.getD_some] at hp1 ⊢;exact hp1
     cases n with
     | zero => rw [h'.1] at hrf; cases hrf
     | succ m =>
      obtain ⟨v, hy, h2⟩ := flo_step hf' hb (h'.2 f hrf);exact (ih m (by omega)).2 _ _ _ v hs1 hc1 hp1 hp2 (hYs hy) h2
  refine ⟨hA, ?_⟩
  intro listed a w v hs hc hfl hfp hy h;have hrf : f ∈ Region.ready .any ops listed := by
   refine mem_ready.2 ⟨?_, of, hf, fun e he hbd => hfp _ ⟨of, e, hf, he, hbd, rfl⟩⟩
   have hl : f < listed.size := by rw [hs]; exact hflt
   simp only [Array.getD_eq_getD_getElem?, Array.getElem?_eq_getElem hl, Option.getD_some] at hfl ⊢;exact hfl
  refine ⟨fun h0 => (by rw [h0] at hrf; cases hrf), fun i hi => ?_⟩
  have hsf : (listed.setIfInBounds f true).getD f false = true := by
   have hl : f < listed.size := by rw [hs]; exact hflt
   simp [hl]
  by_cases hif : i = f
  ·subst hif
   exact Yields.wpOp hf hy (hA _ _ _ (hsize _ hs) (hclose hs hc hrf) (.inl hsf) h)
  ·have hri : i ∈ Region.ready .any ops' (listed.setIfInBounds f true) := hmk (ready_mono hi hif) fun _ => hsf
   cases n with
   | zero => rw [h.1] at hri; cases hri
   | succ m =>
    obtain ⟨hl, oi, ho, _⟩ := mem_ready.1 hi;obtain ⟨g1, g2⟩ := hfree i oi ho;have hap : of.apart ops oi = true := by
     rcases g2 with g2 | g2 | g2 | g2
     ·exact absurd g2 hif
     ·have := reach_of_ready hc (hpred hi) g2
      rw [hfl] at this; cases this
     ·have h1 := reach_of_ready hc hfp g2
      have hlt : i < listed.size := by
       rw [hs];rcases Nat.lt_or_ge i ops.size with h | h
       ·exact h
       ·rw [Array.getElem?_eq_none h] at ho; cases ho
      simp only [Array.getD_eq_getD_getElem?, Array.getElem?_eq_getElem hlt, Option.getD_some] at hl h1;rw [hl] at h1; cases h1
     ·exact g2
    have hsf0 := selB_ok (hfree f of hf).1
    refine wpOp_mono ?_ (wpOp_put ho hap hsf0 (selB_ok g1) (fun c a w h => h) hy (wpOp_add hmap (h.2 i hri)))
    rintro a' w' ⟨hy', h'⟩
    have hcomm : (listed.setIfInBounds f true).setIfInBounds i true = (listed.setIfInBounds i true).setIfInBounds f true := Array.setIfInBounds_comm _ _ (fun e => hif e.symm)
    rw [hcomm] at h';refine (ih m (by omega)).2 _ _ _ v (hsize _ hs) (hclose hs hc hi) ?_ (fun k hk => getD_set_true (hfp k hk)) hy' h'
    rw [getD_set_ne false hif]; exact hfl
end core

theorem hoist1_ok {ops : List Oper} {f : Nat} {K0 : Act -> World -> Prop} {a : Act} {w : World} (h : RegW P (hoist1 ops f).toArray true (onlyN K0) a w) : RegW P ops.toArray true (onlyN K0) a w := by
 unfold hoist1 at h
 split at h
 ·rename_i of hf
  cases hb : (floB of && freeB ops.toArray (ancB ops) of f ops 0)
  ·rw [hb] at h; exact h
  rw [hb] at h;simp only [cond_true] at h;simp only [Bool.and_eq_true] at hb;have hlen : (hoistL (ancB ops) of f ops 0).toArray.size = ops.toArray.size := by
   have : ∀ (l : List Oper) k, (hoistL (ancB ops) of f l k).length = l.length := by
    intro l; induction l with
    | nil => intro k; rfl
    | cons o l ih => intro k; simp [hoistL, ih]
   simpa using this ops 0
  have hmap : ∀ i, (hoistL (ancB ops) of f ops 0).toArray[i]? = (ops.toArray[i]?).map fun o => bif addB (ancB ops) of f i then addE f o else o := by
   intro i;have := hoistL_get (anc := ancB ops) (of := of) (f := f) (l := ops) (k := 0) i
   simpa using this
  have hf' : ops.toArray[f]? = some of := by simpa using hf
  have hfree : ∀ j o, ops.toArray[j]? = some o -> selB o = true /\ (j = f ∨ Reach ops.toArray j f ∨ Reach ops.toArray f j ∨ of.apart ops.toArray o = true) := by
   intro j o ho;obtain ⟨g1, g2⟩ := freeB_ok hb.2 j o (by simpa using ho);rw [Nat.zero_add] at g2;exact ⟨g1, g2.imp id (Or.imp ancB_ok (Or.imp ancB_ok id))⟩
  have hX : ∀ j, addB (ancB ops) of f j = true -> j ≠ f /\ ∀ k, Waits ops.toArray f k -> Reach ops.toArray j k := by
   intro j hj;simp only [addB, Bool.and_eq_true] at hj;refine ⟨fun e => by rw [e, blt_self] at hj; simp at hj, ?_⟩
   rintro k ⟨o, e, q1, q2, q3, rfl⟩
   rw [hf'] at q1; injection q1 with q1; subst q1;have := List.all_eq_true.1 hj.2 e (by simpa using q2);rw [q3] at this;exact ancB_ok this
  have hcore := fun n => hoist_core (P := P) (K0 := K0) hmap hf' hb.1 hfree hX n
  ·show wpAny P .any ops.toArray (onlyN K0) ops.toArray.size (Array.replicate ops.toArray.size false) a _
   have h : wpAny P .any (hoistL (ancB ops) of f ops 0).toArray (onlyN K0) (hoistL (ancB ops) of f ops 0).toArray.size (Array.replicate (hoistL (ancB ops) of f ops 0).toArray.size false) a { w with drawn := w.drawn + 1 } := h
   rw [hlen] at h;have hrep : ∀ j, (Array.replicate ops.toArray.size false).getD j false = false := by
    intro j; simp [Array.getD_eq_getD_getElem?, Array.getElem?_replicate]; split <;> rfl
   have hcl : Closed ops.toArray (fun j => (Array.replicate ops.toArray.size false).getD j false) := by
    intro i k hi; simp only [hrep] at hi; cases hi
   by_cases hp : ∀ k, Waits ops.toArray f k -> (Array.replicate ops.toArray.size false).getD k false = true
   ·
    have hXf : addB (ancB ops) of f f = false := by simp [addB, blt_self]
    have hrf : f ∈ Region.ready .any (hoistL (ancB ops) of f ops 0).toArray (Array.replicate ops.toArray.size false) := by
     have hflt : f < ops.toArray.size := by
      rcases Nat.lt_or_ge f ops.toArray.size with h | h
      ·exact h
      ·rw [Array.getElem?_eq_none h] at hf'; cases hf'
     refine mem_ready.2 ⟨?_, of, by rw [hmap, hf', hXf]; rfl, fun e he hbd => hp _ ⟨of, e, hf', he, hbd, rfl⟩⟩
     simp [Array.getD_eq_getD_getElem?, Array.getElem?_replicate]
     rw [if_pos (by simpa using hflt)]; rfl
    generalize hn : ops.toArray.size = n at *
    cases n with
    | zero =>
     rw [h.1] at hrf; cases hrf
    | succ m =>
     have hXf' : (hoistL (ancB ops) of f ops 0).toArray[f]? = some of := by rw [hmap, hf', hXf]; rfl
     obtain ⟨v, hy, h2⟩ := flo_step hXf' hb.1 (h.2 f hrf);have hy' : Yields P ops.toArray of v a := by
      unfold Yields at hy ⊢;rw [yielded_add hmap] at hy; exact hy
     exact (hcore m).2 _ _ _ v (by simp) hcl (hrep f) hp hy' h2
   ·exact (hcore _).1 _ _ _ (by simp) hcl (.inr hp) h
 ·exact h

theorem hoistN_ok {ops : List Oper} {K0 : Act -> World -> Prop} {a : Act} {w : World} : ∀ n, RegW P (hoistN n ops).toArray true (onlyN K0) a w -> RegW P ops.toArray true (onlyN K0) a w
 | 0, h => h
 | n + 1, h => hoistN_ok n (hoist1_ok h)
theorem hoist_ok {ops : List Oper} {K0 : Act -> World -> Prop} {a : Act} {w : World} (h : RegW P (hoist ops).toArray true (onlyN K0) a w) : RegW P ops.toArray true (onlyN K0) a w := hoistN_ok _ h
end
end Go.Lf
namespace Go.Lf

def permI : List Oper -> Nat -> List (Nat × Oper)
 | [], _ => []
 | o :: l, i => (i, o) :: permI l (i + 1)
def dstB (o : Oper) : Bool := match o.dst with
 | some _ => true
 | none => false
def permL (ops : List Oper) : List (Nat × Oper) := (permI ops 0).filter (fun x => dstB x.2) ++ (permI ops 0).filter (fun x => !dstB x.2)
def bitsY (a : Nat) : List Nat -> Nat -> Nat
 | [], _ => 0
 | p :: l, j => (bif a.testBit p then 2 ^ j else 0) ||| bitsY a l (j + 1)
def ancY (anc : List Nat) (zs : List (Nat × Oper)) : List Nat := zs.map fun x => bitsY (anc.getD x.1 0) (zs.map (·.1)) 0
def noG : List Oper -> Bool
 | [] => true
 | o :: l => isNone o.guard && noG l
def raceY1 (anc : List Nat) (r : Row) (i : Nat) : List Row -> Nat -> Bool
 | [], _ => true
 | q :: l, j => (Nat.beq j i || !touchB q r.rs || ((anc.getD i 0).testBit j && Nat.blt j i) || ((anc.getD j 0).testBit i && Nat.blt i j)) && raceY1 anc r i l (j + 1)
def raceY (anc : List Nat) (rows : List Row) : List Row -> Nat -> Bool
 | [], _ => true
 | r :: l, i => raceY1 anc r i rows 0 && raceY anc rows l (i + 1)

def regionY (C : Ctx) (st : St) (ops : List Oper) : Option (Prop × St) :=
 match genRows false C st ((permL ops).map (·.2)) [] with
 | (c, rows, tail) => match lateL C rows st (ancY (ancB ops) (permL ops)) true tail rows.length with
  | some ls => bif nodupN (tgts ls) && zFreeL (tgts ls) tail && noG ops && lowB ops 0 && raceY (ancY (ancB ops) (permL ops)) rows rows 0 then some (c, stF (rows.map (patR (fun _ => true) ls)) st) else none
  | none => none

theorem bitsY_ok {a k : Nat} : ∀ {l : List Nat} {j : Nat}, (bitsY a l j).testBit k = true -> ∃ i p, l[i]? = some p /\ k = j + i /\ a.testBit p = true
 | [], j, h => by simp [bitsY] at h
 | p :: l, j, h => by
  simp only [bitsY, Nat.testBit_or, Bool.or_eq_true] at h;rcases h with h | h
  ·cases ha : a.testBit p
   ·rw [ha] at h; simp at h
   ·rw [ha] at h
    simp only [cond_true, Nat.testBit_two_pow, decide_eq_true_eq] at h;exact ⟨0, p, rfl, by omega, ha⟩
  ·obtain ⟨i, q, h1, h2, h3⟩ := bitsY_ok h
   exact ⟨i + 1, q, by simpa using h1, by omega, h3⟩
theorem permI_get : ∀ {l : List Oper} {n : Nat} {x : Nat × Oper}, x ∈ permI l n -> n <= x.1 /\ l[x.1 - n]? = some x.2
 | [], n, x, h => by cases h
 | o :: l, n, x, h => by
  rcases List.mem_cons.1 h with rfl | h
  ·simp
  ·obtain ⟨h1, h2⟩ := permI_get h
   refine ⟨by omega, ?_⟩
   rw [show x.1 - n = (x.1 - (n + 1)) + 1 from by omega, List.getElem?_cons_succ]
   exact h2
theorem permI_has : ∀ {l : List Oper} {n k : Nat} {o : Oper}, l[k]? = some o -> (n + k, o) ∈ permI l n
 | [], n, k, o, h => by simp at h
 | p :: l, n, 0, o, h => by
  simp only [List.getElem?_cons_zero, Option.some.injEq] at h;subst h;exact List.mem_cons_self
 | p :: l, n, k + 1, o, h => by
  have := permI_has (n := n + 1) (l := l) (k := k) (by simpa using h)
  rw [show n + 1 + k = n + (k + 1) from by omega] at this
  exact List.mem_cons_of_mem _ this
theorem permI_lt : ∀ {l : List Oper} {n : Nat}, ((permI l n).map (·.1)).Nodup /\ ∀ x ∈ permI l n, n <= x.1
 | [], n => ⟨List.nodup_nil, fun _ h => by cases h⟩
 | p :: l, n => by
  obtain ⟨h1, h2⟩ := permI_lt (l := l) (n := n + 1);refine ⟨?_, ?_⟩
  ·show (n :: (permI l (n + 1)).map (·.1)).Nodup
   refine List.nodup_cons.2 ⟨fun h => ?_, h1⟩
   obtain ⟨x, hx, he⟩ := List.mem_map.1 h;have := h2 x hx;omega
  ·intro x hx
   rcases List.mem_cons.1 hx with rfl | hx
   ·exact Nat.le_refl _
   ·have := h2 x hx; omega
theorem permL_perm (ops : List Oper) : (permL ops).Perm (permI ops 0) := List.filter_append_perm _ _
theorem permL_get {ops : List Oper} {i : Nat} {x : Nat × Oper} (h : (permL ops)[i]? = some x) : ops[x.1]? = some x.2 := by
 have := (permL_perm ops).mem_iff.1 (List.mem_of_getElem? h)
 have := (permI_get this).2
 simpa using this
theorem permL_has {ops : List Oper} {k : Nat} {o : Oper} (h : ops[k]? = some o) : ∃ i : Nat, (permL ops)[i]? = some (k, o) := by
 have := permI_has (n := 0) h
 rw [Nat.zero_add] at this
 exact List.mem_iff_getElem?.1 ((permL_perm ops).mem_iff.2 this)
theorem permL_inj {ops : List Oper} {i j : Nat} {x y : Nat × Oper} (hi : (permL ops)[i]? = some x) (hj : (permL ops)[j]? = some y) (h : x.1 = y.1) : i = j := by
 have hn : ((permL ops).map (·.1)).Nodup := ((permL_perm ops).map _).nodup_iff.2 permI_lt.1
 have e1 : ((permL ops).map (·.1))[i]? = some x.1 := by simp [hi]
 have e2 : ((permL ops).map (·.1))[j]? = some x.1 := by simp [hj, h]
 have hil : i < ((permL ops).map (·.1)).length := by
  rcases Nat.lt_or_ge i ((permL ops).map (·.1)).length with h | h
  ·exact h
  ·rw [List.getElem?_eq_none h] at e1; cases e1
 exact (List.getElem?_inj hil hn).1 (e1.trans e2.symm)
theorem noG_ok : ∀ {l : List Oper}, noG l = true -> ∀ o ∈ l, o.guard = none
 | [], _, _, h => by cases h
 | p :: l, h, o, ho => by
  simp only [noG, Bool.and_eq_true, isNone_iff] at h;rcases List.mem_cons.1 ho with rfl | ho
  ·exact h.1
  ·exact noG_ok h.2 o ho
theorem raceY1_ok {anc : List Nat} {r : Row} {i : Nat} : ∀ {l : List Row} {k : Nat}, raceY1 anc r i l k = true -> ∀ j q, l[j]? = some q -> touchB q r.rs = true ->
  k + j = i ∨ ((anc.getD i 0).testBit (k + j) = true /\ k + j < i) ∨ ((anc.getD (k + j) 0).testBit i = true /\ i < k + j)
 | [], _, _, j, q, h, _ => by simp at h
 | p :: l, k, h, j, q, hq, ht => by
  simp only [raceY1, Bool.and_eq_true, Bool.or_eq_true, Bool.not_eq_true'] at h;cases j with
  | zero =>
   simp at hq; subst hq
   simp only [Nat.add_zero];rcases h.1 with ((h1 | h1) | h1) | h1
   ·exact .inl (nbeq_iff.1 h1)
   ·rw [ht] at h1; cases h1
   ·exact .inr (.inl ⟨h1.1, blt_iff.1 h1.2⟩)
   ·exact .inr (.inr ⟨h1.1, blt_iff.1 h1.2⟩)
  | succ j =>
   have := raceY1_ok h.2 j q (by simpa using hq) ht
   simpa [Nat.add_assoc, Nat.add_comm 1 j] using this
theorem raceY_ok {anc : List Nat} {rows : List Row} : ∀ {l : List Row} {k : Nat}, raceY anc rows l k = true -> ∀ i r, l[i]? = some r -> raceY1 anc r (k + i) rows 0 = true
 | [], _, _, i, r, h => by simp at h
 | p :: l, k, h, i, r, hr => by
  simp only [raceY, Bool.and_eq_true] at h;cases i with
  | zero => simp at hr; subst hr; simpa using h.1
  | succ i =>
   have := raceY_ok h.2 i r (by simpa using hr)
   simpa [Nat.add_assoc, Nat.add_comm 1 i] using this

section
variable {P : Program} {C : Ctx} {w0 : World} {F0 H : NSet} {env0 : St} {ops : Array Oper} {Q : Exit -> Act -> World -> Prop}

def setY (zs : List (Nat × Oper)) (T : Nat -> Bool) : Nat -> Bool := fun i => match zs[i]? with
 | some x => T x.1
 | none => false
theorem wpOp_same {ops ops' : Array Oper} {i k : Nat} {o : Oper} (h1 : ops[k]? = some o) (h2 : ops'[i]? = some o) (hg : o.guard = none) {K : Act -> World -> Prop} {a : Act} {w : World} (h : wpOp P ops' Q i K a w) : wpOp P ops Q k K a w := by
 unfold wpOp at h ⊢
 rw [h1]
 rw [h2] at h
 simp only [] at h ⊢
 have hw : ∀ y, Region.wanted o y = true := fun y => by unfold Region.wanted; rw [hg]
 rw [hw] at h ⊢
 exact h

theorem regionY_ok (hC : CtxOK P C) {st' : St} {c : Prop} (h : regionY C env0 ops.toList = some (c, st')) (hc : c)
  {a : Act} {w : World} (hi : Inv P C.np w0 F0 H env0 a w) (hQ : ∀ a' w', Inv P C.np w0 F0 H st' a' w' -> Q .normal a' w') : RegW P ops true Q a w := by
 unfold regionY at h
 generalize hzs : permL ops.toList = zs at h
 generalize hops2 : (zs.map (·.2)).toArray = ops2
 have hl2 : zs.map (·.2) = ops2.toList := by rw [<- hops2]
 rw [hl2] at h
 generalize hgen : genRows false C env0 ops2.toList [] = g at h
 obtain ⟨c1, rows, tail⟩ := g
 simp only [] at h
 generalize hA : ancY (ancB ops.toList) zs = anc at h
 split at h
 ·rename_i ls hls
  cases hB : (nodupN (tgts ls) && zFreeL (tgts ls) tail && noG ops.toList && lowB ops.toList 0 && raceY anc rows rows 0)
  ·rw [hB] at h; cases h
  rw [hB] at h;simp only [cond_true, Option.some.injEq, Prod.mk.injEq] at h;obtain ⟨rfl, rfl⟩ := h;simp only [Bool.and_eq_true] at hB;obtain ⟨⟨⟨⟨hnd, hzf⟩, hnog⟩, hlowB⟩, hrace⟩ := hB;have hget : ∀ {i : Nat} {x : Nat × Oper}, zs[i]? = some x -> ops[x.1]? = some x.2 := by
   intro i x hx;rw [<- hzs] at hx
   simpa using permL_get hx
  have hhas : ∀ {k : Nat}, k < ops.size -> ∃ (i : Nat) (o : Oper), zs[i]? = some (k, o) := by
   intro k hk;obtain ⟨i, hi⟩ := permL_has (ops := ops.toList) (k := k) (o := ops[k]) (by simp [hk]);exact ⟨i, ops[k], by rw [<- hzs]; exact hi⟩
  have hinj : ∀ {i j : Nat} {x y : Nat × Oper}, zs[i]? = some x -> zs[j]? = some y -> x.1 = y.1 -> i = j := by
   intro i j x y h1 h2;rw [<- hzs] at h1 h2;exact permL_inj h1 h2
  have hops2g : ∀ {i : Nat} {x : Nat × Oper}, zs[i]? = some x -> ops2[i]? = some x.2 := by
   intro i x hx;rw [<- hops2]; simp [hx]
  have hsz2 : ops2.size = zs.length := by rw [<- hops2]; simp
  obtain ⟨ht, htail⟩ := genRows_ok (ops := ops2) ops2.toList [] hgen hc (by simp) (fun i r hr => by simp at hr)
  have htd : tail = ops2.toList.drop rows.length := by
   apply List.ext_getElem?
   intro j;rw [htail j]; simp
  have hlen : rows.length <= ops2.size := by
   rcases Nat.lt_or_ge ops2.size rows.length with h | h
   ·obtain ⟨o, ho, _⟩ := ht.facts (List.getElem?_eq_getElem h)
    simp at ho
   ·exact h
  obtain ⟨hl1, hl2⟩ := lateL_ok hls;have hnopd : ∀ (i : Nat) (r : Row) r0 p0, rows[i]? = some r -> r.pd ≠ some (r0, p0) := by
   intro i r r0 p0 hr hpd;obtain ⟨o, _, hf⟩ := ht.facts hr;rcases hf.op with ⟨_, _, _, h⟩ | ⟨_, _, _, h, _⟩
   ·rw [h] at hpd; cases hpd
   ·cases h
  have hlow : ∀ i k, Waits ops i k -> k < i := fun i k hw => lowB_ok ops.toList 0 (by simp) hlowB i k (Nat.zero_le i) hw
  have hanc2 : ∀ {i j : Nat} {x : Nat × Oper}, zs[i]? = some x -> (anc.getD i 0).testBit j = true -> ∃ y, zs[j]? = some y /\ Reach ops x.1 y.1 := by
   intro i j x hx h;rw [<- hA] at h;have e : (ancY (ancB ops.toList) zs).getD i 0 = bitsY ((ancB ops.toList).getD x.1 0) (zs.map (·.1)) 0 := by
    simp [ancY, List.getD_eq_getElem?_getD, hx]
   rw [e] at h;obtain ⟨i', p, h1, h2, h3⟩ := bitsY_ok h;have : j = i' := by omega
   subst this;simp only [List.getElem?_map, Option.map_eq_some_iff] at h1;obtain ⟨y, h4, rfl⟩ := h1;have := ancB_ok h3;exact ⟨y, h4, by simpa using this⟩
  have hsetY : ∀ {T : Nat -> Bool} {i : Nat} {x : Nat × Oper}, zs[i]? = some x -> setY zs T i = T x.1 := by
   intro T i x hx; unfold setY; rw [hx]
  have haddY : ∀ {T : Nat -> Bool} {i : Nat} {x : Nat × Oper}, zs[i]? = some x -> setY zs (addT T x.1) = addT (setY zs T) i := by
   intro T i x hx
   funext j
   unfold setY addT;cases hj : zs[j]? with
   | none =>
    have : j ≠ i := fun h => by rw [h, hx] at hj; cases hj
    simp only [nbeq_ne this, Bool.false_or, hj]
   | some y =>
    simp only [];by_cases hji : j = i
    ·subst hji
     rw [hx] at hj; injection hj with hj; subst hj;simp only [nbeq_iff.2 (rfl : x.1 = x.1), nbeq_iff.2 (rfl : j = j), Bool.true_or]
    ·have hne : y.1 ≠ x.1 := fun h => hji (hinj hj hx h)
     simp only [nbeq_ne hne, nbeq_ne hji, Bool.false_or, hj]
  have hmem : ∀ u ∈ ls, ∃ j, ls[j]? = some u := fun u hu => List.mem_iff_getElem?.1 hu
  have hkinj : ∀ u ∈ ls, ∀ v ∈ ls, u.1 = v.1 -> u = v := by
   intro u hu v hv h;obtain ⟨i, hi⟩ := hmem u hu;obtain ⟨j, hj⟩ := hmem v hv;have e1 := (hl2 i u hi).1;have e2 := (hl2 j v hj).1;have : i = j := by omega
   subst this;rw [hi] at hj; injection hj
  have hks : ∀ u ∈ ls, rows.length <= u.1 /\ u.1 < zs.length := by
   intro u hu;obtain ⟨i, hi⟩ := hmem u hu;have h1 := (hl2 i u hi).1;have h2 : i < ls.length := by
    rcases Nat.lt_or_ge i ls.length with h | h
    ·exact h
    ·rw [List.getElem?_eq_none h] at hi; cases hi
   rw [hl1, htd] at h2;simp at h2;omega
  have hbox : ∀ u ∈ ls, ∀ d, u.2.2.root ≠ some d := by
   intro u hu d;obtain ⟨i, hi⟩ := hmem u hu;obtain ⟨_, o, _, hf⟩ := hl2 i u hi;obtain ⟨T, z, j, r, τ, m, x, y, _, _, _, _, _, _, he, _⟩ := hf.ex;rw [he]; intro h; cases h
  have htgt : ∀ u ∈ ls, ∃ (j : Nat) (r : Row), rows[j]? = some r /\ r.d = u.2.1 /\ r.ch = [] /\ noRd rows u.2.1 = true /\ (anc.getD u.1 0).testBit j = true := by
   intro u hu;obtain ⟨i, hi⟩ := hmem u hu;obtain ⟨e1, o, _, hf⟩ := hl2 i u hi;obtain ⟨T, z, j, r, τ, m, x, y, _, _, _, h4, _, _, _, h7, _, _, _, h11, h12, _⟩ := hf.ex;obtain ⟨_, g2, g3⟩ := idxR_ok h4;simp only [Nat.sub_zero] at g2;exact ⟨j, r, g2, (lookR_mem g3).2, h7, h11, by rw [e1]; exact h12 rfl⟩
  have hroot : ∀ u ∈ ls, ∀ t, (env0 t).root ≠ some u.2.1 := by
   intro u hu t hr;obtain ⟨j, r, e1, e2, _⟩ := htgt u hu;obtain ⟨F, S, hi⟩ := hi;have := (hi.ent t).root_owner (r := u.2.1) hr;obtain ⟨o, _, hf⟩ := ht.facts e1;have hfr := hf.fresh;rw [e2, this] at hfr; cases hfr
  refine wp_region_run (fun T a w => InvT P C w0 F0 H env0 (rows.map (patR (setY zs T) ls)) (setY zs T) a w) (fun _ => hlow) ?_ ?_ ?_
  ·intro T k hkn hTk hdrw _
   obtain ⟨hcl, hw⟩ := hdrw rfl;obtain ⟨i, o, hzi⟩ := hhas hkn;have hko : ops[k]? = some o := hget hzi;have hio : ops2[i]? = some o := hops2g hzi;have hog : o.guard = none := noG_ok hnog o (by
    have : ops.toList[k]? = some o := by simpa using hko
    exact List.mem_of_getElem? this)
   have hTi : setY zs T i = false := by rw [hsetY hzi]; exact hTk
   have hin : i < ops2.size := by
    rcases Nat.lt_or_ge i ops2.size with h | h
    ·exact h
    ·rw [Array.getElem?_eq_none h] at hio; cases hio
   intro a w hJ;refine wpOp_same (ops' := ops2) hko hio hog ?_;have hwaits : ∀ j, (anc.getD i 0).testBit j = true -> setY zs T j = true := by
    intro j hj;obtain ⟨y, h1, h2⟩ := hanc2 hzi hj;rw [hsetY h1];exact reach_of_ready hcl hw h2
   have hback : ∀ j x, zs[j]? = some x -> setY zs T j = true -> ∀ l, (anc.getD j 0).testBit l = true -> setY zs T l = true := by
    intro j x hx hj l hl;obtain ⟨y, h1, h2⟩ := hanc2 hx hl;rw [hsetY h1];rw [hsetY hx] at hj;exact hcl.reach h2 hj
   have hsome : ∀ j, j < zs.length -> ∃ x, zs[j]? = some x := fun j hj => ⟨zs[j], List.getElem?_eq_getElem hj⟩
   show wpOp P ops2 Q i (InvT P C w0 F0 H env0 (rows.map (patR (setY zs (addT T k)) ls)) (setY zs (addT T k))) a w
   have hadd := haddY (T := T) hzi
   simp only [] at hadd;rw [hadd];have hJ : InvT P C w0 F0 H env0 (rows.map (patR (setY zs T) ls)) (setY zs T) a w := hJ;by_cases him : i < rows.length
   ·have hr : rows[i]? = some rows[i] := List.getElem?_eq_getElem him
    have hag : ∀ s ∈ rows[i].rs, ∀ j q, rows[j]? = some q -> q.d = s ∨ s ∈ q.used -> setY zs T j = Nat.blt j i := by
     intro s hs j q hq hd;have hjr : j < rows.length := by
      rcases Nat.lt_or_ge j rows.length with h | h
      ·exact h
      ·rw [List.getElem?_eq_none h] at hq; cases hq
     have h1 := raceY_ok hrace i _ hr
     rw [Nat.zero_add] at h1;have h2 := raceY1_ok h1 j q hq (touchB_of hs hd);rw [Nat.zero_add] at h2;rcases h2 with h2 | ⟨h2, h3⟩ | ⟨h2, h3⟩
     ·subst h2; rw [hTi, blt_self]
     ·rw [hwaits j h2, blt_iff.2 h3]
     ·have e1 : Nat.blt j i = false := by
       cases hb : Nat.blt j i
       ·rfl
       ·have := blt_iff.1 hb; omega
      rw [e1];cases hTj : setY zs T j
      ·rfl
      ·obtain ⟨x, hx⟩ := hsome j (by omega)
       have := hback j x hx hTj i h2
       rw [hTi] at this; cases this
    have hpat : Pat rows (rows.map (patR (setY zs T) ls)) i rows[i] := by
     refine ⟨by simp, fun j q q' hq hq' => ?_⟩
     simp only [List.getElem?_map, hq, Option.map_some, Option.some.injEq] at hq';subst hq';refine ⟨patR_d.1, patR_d.2.1, patR_d.2.2.1, fun hqr => patR_none (patE_none fun u hu hd => ?_)⟩
     obtain ⟨_, _, _, _, _, hno, _⟩ := htgt u hu;exact absurd (hd ▸ hqr) (noRd_ok hno _ (List.mem_of_getElem? hr)).1
    have hr' : (rows.map (patR (setY zs T) ls))[i]? = some rows[i] := by
     simp only [List.getElem?_map, hr, Option.map_some, Option.some.injEq];refine patR_none (patE_none fun u hu hd => ?_)
     obtain ⟨j, r, e1, e2, _, _, hanc⟩ := htgt u hu;have hij : j = i := ht.ud j i r rows[i] e1 hr (e2.trans hd);subst hij;obtain ⟨x, hx⟩ := hsome u.1 (hks u hu).2;cases hTu : setY zs T u.1
     ·rfl
     ·have := hback u.1 x hx hTu j hanc
      rw [hTi] at this; cases this
    have hsame : rows.map (patR (addT (setY zs T) i) ls) = rows.map (patR (setY zs T) ls) := by
     refine List.map_congr_left fun q _ => ?_
     unfold patR;rw [patE_congr (T := addT (setY zs T) i) (T' := setY zs T) fun u hu _ => ?_]
     have := (hks u hu).1
     simp [addT, nbeq_ne (show u.1 ≠ i by omega)]
    refine wpOp_mono ?_ (row_okP hC ht hr hTi hio (fun g b h => by rw [hog] at h; cases h) hpat hr' (fun r0 p0 hpd => absurd hpd (hnopd i _ r0 p0 hr)) hag a w hJ)
    intro a' w' h';rw [hsame]; exact h'
   ·have hil : i - rows.length < ls.length := by
     rw [hl1, htd]; simp; omega
    have hls' : ls[i - rows.length]? = some ls[i - rows.length] := List.getElem?_eq_getElem hil
    obtain ⟨e1, o', e2, hf⟩ := hl2 _ _ hls';rw [show rows.length + (i - rows.length) = i from by omega] at e1 hf
    have ho : ops2[i]? = some o' := by
     rw [htail] at e2;rw [show rows.length + (i - rows.length) = i from by omega] at e2
     exact e2
    have hxm0 : ∀ x : Nat × Nat × Ent, ls[i - rows.length]? = some x -> x.1 = i -> (i, x.2.1, x.2.2) ∈ ls := by
     rintro ⟨k', d', e'⟩ hx hk'
     have hk' : k' = i := hk'
     rw [<- hk']; exact List.mem_of_getElem? hx
    have hxm := hxm0 _ hls' e1
    refine late_ok hC ht hnd hxm (by omega) hkinj ho hf ?_ hTi ?_ (hroot (i, ls[i - rows.length].2.1, ls[i - rows.length].2.2) hxm) (fun u hu => hbox u hu _) a w hJ
    ·intro T0 a0 z hz
     have aux : ∀ (l : List Oper) (n : Nat), zFreeL (tgts ls) l = true -> l[n]? = some o' -> zFree (tgts ls) z = true := by
      intro l
      induction l with
      | nil => intro n _ h; simp at h
      | cons p l ih =>
       intro n h1 h2;simp only [zFreeL, Bool.and_eq_true] at h1;cases n with
       | zero =>
        simp only [List.getElem?_cons_zero, Option.some.injEq] at h2;subst h2;rw [hz] at h1; exact h1.1
       | succ n => exact ih n h1.2 (by simpa using h2)
     exact aux tail _ hzf e2
    ·intro j hj hanc
     exact hwaits j (hanc rfl)
  ·intro T a w hT hJ
   refine hQ a w ?_
   have hT2 : ∀ j, j < zs.length -> setY zs T j = true := by
    intro j hj;have hx : zs[j]? = some zs[j] := List.getElem?_eq_getElem hj;rw [hsetY hx];refine hT _ ?_;have := hget hx;rcases Nat.lt_or_ge zs[j].1 ops.size with h | h
    ·exact h
    ·rw [Array.getElem?_eq_none h] at this; cases this
   have hsame : rows.map (patR (setY zs T) ls) = rows.map (patR (fun _ => true) ls) := by
    refine List.map_congr_left fun q _ => ?_
    unfold patR;rw [patE_congr (T := setY zs T) (T' := fun _ => true) fun u hu _ => ?_]
    exact hT2 _ (hks u hu).2
   have hJ : InvT P C w0 F0 H env0 (rows.map (patR (setY zs T) ls)) (setY zs T) a w := hJ
   rw [hsame] at hJ;refine hJ.doneG ?_ ?_ (fun j hj => hT2 j (by simp at hj; omega))
   ·intro i r hr hch
    simp only [List.getElem?_map, Option.map_eq_some_iff] at hr;obtain ⟨p, e1, rfl⟩ := hr;rw [patR_d.2.2.2] at hch;rw [patR_d.2.2.1];exact (ht.gb i e1).2 (by rw [hch]; intro x hx; cases hx)
   ·intro i r hr
    simp only [List.getElem?_map, Option.map_eq_some_iff] at hr;obtain ⟨p, e1, rfl⟩ := hr;obtain ⟨o, _, hf⟩ := ht.facts e1;rw [patR_d.2.2.2];cases hp : patE (fun _ => true) ls p.d with
    | none => rw [patR_none hp]; exact hf.cond.imp (fun h => h) (fun h => h.2)
    | some e =>
     left
     obtain ⟨u, hu, hd, _, _⟩ := patE_some hp;obtain ⟨j, r, g1, g2, g3, _⟩ := htgt u hu;have := ht.ud i j p r e1 g1 (hd.symm.trans g2.symm);subst this;rw [e1] at g1; injection g1 with g1; subst g1;exact g3
  ·intro w' hh hos htp hout
   obtain ⟨F, S, hi⟩ := hi;have hz : setY zs (fun _ => false) = fun _ => false := by
    funext j; unfold setY; split <;> rfl
   show InvT P C w0 F0 H env0 (rows.map (patR (setY zs fun _ => false) ls)) (setY zs fun _ => false) a w'
   rw [hz];refine ⟨F, S, ?_, fun j q _ h => by cases h⟩
   have hs : ∀ (l : List Row) (k : Nat), sel l (fun _ => false) k = [] := by
    intro l
    induction l with
    | nil => intro k; rfl
    | cons r l ih => intro k; simp only [sel, cond_false]; exact ih (k + 1)
   rw [hs];have he : stR true [] env0 = env0 := by
    funext t
    unfold stR baseR;simp only [usedR, cond_false, lookR];cases (env0 t).root <;> rfl
   rw [he];exact hi.world hos htp hout (by rw [hh]; exact Nat.le_refl _) (fun b _ => by rw [hh]) (fun k _ _ => by rw [hh])
 ·cases h
end
end Go.Lf
namespace Go.Lf

def leE : Ent -> Ent -> Prop
 | _, .dead => True
 | .shr τ x, .shr σ y => match castD (τ := τ) (σ := σ) x with
  | some z => z = y
  | none => False
 | .full e x, .shr σ y => match castD (τ := .slice e) (σ := σ) x with
  | some z => z = y
  | none => False
 | .full e x, .full e' y => match castD (τ := .slice e) (σ := .slice e') x with
  | some z => z = y
  | none => False
 | .own τ m x, .own σ m' y => bif decide (m = m') then (match castD (τ := τ) (σ := σ) x with
  | some z => z = y
  | none => False) else False
 | .box τ m x, .box σ m' y => bif decide (m = m') then (match castD (τ := τ) (σ := σ) x with
  | some z => z = y
  | none => False) else False
 | .saddr τ x, .saddr σ y => match castD (τ := τ) (σ := σ) x with
  | some z => z = y
  | none => False
 | .rd r τ x, .rd r' σ y => bif Nat.beq r r' then (match castD (τ := τ) (σ := σ) x with
  | some z => z = y
  | none => False) else False
 | .raddr r τ x, .raddr r' σ y => bif Nat.beq r r' then (match castD (τ := τ) (σ := σ) x with
  | some z => z = y
  | none => False) else False
 | .sub r p, .sub r' p' => bif Nat.beq r r' then p = p' else False
 | .addr r p, .addr r' p' => bif Nat.beq r r' then p = p' else False
 | .nilS, .nilS => True
 | .nilS, .shr (.slice _) y => y = []
 | .nilS, .own (.slice _) (.own _) y => y = []
 | .fn A R g, .fn A' R' g' => ∃ (h1 : A = A') (h2 : R = R'), (h1 ▸ h2 ▸ g : Fun A' R') = g'
 | .pp r, .pp r' => bif Nat.beq r r' then True else False
 | _, _ => False

theorem leE_cases {e e' : Ent} (h : leE e e') : e' = .dead ∨ e' = e ∨ (e = .nilS /\ ∃ τ, e' = .shr (.slice τ) ([] : List τ.den)) ∨ (e = .nilS /\ ∃ τ me, e' = .own (.slice τ) (.own me) ([] : List τ.den)) ∨
  ∃ e0 x, e = .full e0 x /\ e' = .shr (.slice e0) x := by
 have aux : ∀ {τ σ : Ty} {x : τ.den} {y : σ.den} {f : (τ : Ty) -> τ.den -> Ent}, (match castD (τ := τ) (σ := σ) x with | some z => z = y | none => False) -> f σ y = f τ x := by
  intro τ σ x y f h;split at h
  ·rename_i z hz
   have := castD_some hz
   injection this with e1 e2;subst e1; cases e2; subst h; rfl
  ·cases h
 unfold leE at h
 split at h
 ·exact .inl rfl
 ·exact .inr (.inl (aux (f := .shr) h))
 ·rename_i e x σ y
  right; right; right; right
  split at h
  ·rename_i z hz
   have := castD_some hz
   injection this with e1 e2;subst e1; cases e2; subst h;exact ⟨e, x, rfl, rfl⟩
  ·cases h
 ·rename_i e x e' y
  right; left
  split at h
  ·rename_i z hz
   have := castD_some hz
   injection this with e1 e2;injection e1 with e1;subst e1; cases e2; subst h; rfl
  ·cases h
 ·rename_i τ m x σ m' y
  cases hm : decide (m = m')
  ·rw [hm] at h; cases h
  ·rw [hm] at h
   have := of_decide_eq_true hm
   subst this;exact .inr (.inl (aux (f := fun τ x => .own τ m x) h))
 ·rename_i τ m x σ m' y
  cases hm : decide (m = m')
  ·rw [hm] at h; cases h
  ·rw [hm] at h
   have := of_decide_eq_true hm
   subst this;exact .inr (.inl (aux (f := fun τ x => .box τ m x) h))
 ·exact .inr (.inl (aux (f := .saddr) h))
 ·rename_i r τ x r' σ y
  cases hm : Nat.beq r r'
  ·rw [hm] at h; cases h
  ·rw [hm] at h
   have := nbeq_iff.1 hm
   subst this;exact .inr (.inl (aux (f := fun τ x => .rd r τ x) h))
 ·rename_i r τ x r' σ y
  cases hm : Nat.beq r r'
  ·rw [hm] at h; cases h
  ·rw [hm] at h
   have := nbeq_iff.1 hm
   subst this;exact .inr (.inl (aux (f := fun τ x => .raddr r τ x) h))
 ·rename_i r p r' p'
  cases hm : Nat.beq r r'
  ·rw [hm] at h; cases h
  ·rw [hm] at h
   have := nbeq_iff.1 hm
   subst this;simp only [cond_true] at h;subst h;exact .inr (.inl rfl)
 ·rename_i r p r' p'
  cases hm : Nat.beq r r'
  ·rw [hm] at h; cases h
  ·rw [hm] at h
   have := nbeq_iff.1 hm
   subst this;simp only [cond_true] at h;subst h;exact .inr (.inl rfl)
 ·exact .inr (.inl rfl)
 ·rename_i τ y
  subst h;exact .inr (.inr (.inl ⟨rfl, τ, rfl⟩))
 ·rename_i τ me y
  subst h;exact .inr (.inr (.inr (.inl ⟨rfl, τ, me, rfl⟩)))
 ·obtain ⟨h1, h2, h⟩ := h
  subst h1; subst h2; subst h;exact .inr (.inl rfl)
 ·rename_i r r'
  cases hm : Nat.beq r r'
  ·rw [hm] at h; cases h
  ·have := nbeq_iff.1 hm
   subst this;exact .inr (.inl rfl)
 ·cases h

theorem Inv0.le {P : Program} {N : NP} {w0 : World} {F0 H : NSet} {env : St} {a : Act} {w : World} {F : NSet} {S : Nat -> NSet} (hi : Inv0 P N w0 F0 H env a w F S) {env2 : St}
  (h1 : ∀ t, leE (env t) (env2 t)) (h2 : ∀ t r, (env2 t).root = some r -> (env2 r).isOwner = true) : Inv0 P N w0 F0 H env2 a w F S := by
 refine ⟨hi.os, hi.tape, hi.output, hi.size, hi.block, hi.fb, hi.f0, hi.fn, hi.sb, hi.sd, ?_, hi.defers, hi.slots⟩
 intro t
 have ht := hi.ent t
 rcases leE_cases (h1 t) with h | h | ⟨h, τ, h'⟩ | ⟨h, τ, me, h'⟩ | ⟨e0, x, h, h'⟩
 ·rw [h]; trivial
 ·rw [h]
  refine EntOK.keep (fun _ h => h) (fun _ _ => rfl) rfl ?_ (fun _ => ⟨rfl, fun _ _ => rfl, fun b h1 h2 => absurd h1 h2⟩) ht
  intro r hr;refine ⟨fun ho => ?_, fun _ => rfl, rfl, fun _ _ => rfl, fun b h1 h2 => absurd h1 h2, fun b hb => (hi.sb r b hb).2.2⟩
  have ho2 := h2 t r (by rw [h]; exact hr)
  rcases leE_cases (h1 r) with k | k | ⟨k, _, k'⟩ | ⟨k, _, _, k'⟩ | ⟨_, _, k, k'⟩
  ·rw [k] at ho2; cases ho2
  ·exact k
  ·rw [k] at ho; cases ho
  ·rw [k] at ho; cases ho
  ·rw [k] at ho; cases ho
 ·rw [h] at ht
  rw [h'];have ht : a.tmps.getD t undef = .slice none 0 0 := ht;show OwnV F w (.slice τ) .shr none' (a.tmps.getD t undef) ([] : List τ.den);rw [ht]; exact .nil _ _ _ _ _
 ·rw [h] at ht
  rw [h'];have ht : a.tmps.getD t undef = .slice none 0 0 := ht;obtain ⟨cs, q1, q2⟩ := OwnV.nil F w τ (.own me) (S t);exact ⟨.val cs, S t, cs, .inl ⟨rfl, rfl, rfl, ht.trans q1⟩, rfl, q2⟩
 ·rw [h] at ht
  rw [h'];obtain ⟨_, _, ht⟩ := ht;exact ht

structure LoopI where
 ι : Type
 inv : ι -> Prop
 dec : ι -> Nat
 ovr : ι -> List (Nat × Ent)
 keep : List Nat
 sub : ι -> List LoopI := fun _ => []
 frz : List Nat := []

def stx (l : LoopI) (st : St) (x : l.ι) : St := fun t => match look (l.ovr x) t with
 | some e => e
 | none => bif memN l.keep t then st t else .dead

def keysL : List (Nat × Ent) -> List Nat
 | [] => []
 | p :: l => p.1 :: keysL l

def leAll (st st' : St) : List Nat -> Prop
 | [] => True
 | t :: l => leE (st t) (st' t) /\ leAll st st' l
def rootsB (st : St) : List Nat -> Bool
 | [] => true
 | t :: l => (match (st t).root with
  | some r => (st r).isOwner
  | none => true) && rootsB st l

def atX (l : LoopI) (st : St) (x : l.ι) (st' : St) : Prop :=
 bif rootsB (stx l st x) (keysL (l.ovr x) ++ l.keep) then leAll st' (stx l st x) (keysL (l.ovr x) ++ l.keep) else False

def nl : Code -> Nat
 | .loop b => 1
 | .seq a b => nl a + nl b
 | .cond _ a b => nl a + nl b
 | .block _ b => nl b
 | _ => 0

def wpI (C : Ctx) (stp : St -> Oper -> Option (Prop × St)) : List LoopI -> Code -> Nat -> St -> (St -> Prop) -> (Nat -> St -> Prop) -> (St -> Prop) -> Prop
 | _, .skip, _, st, Qn, _, _ => Qn st
 | L, .region _ ops draw, _, st, Qn, _, _ => match regionA C stp draw st ops.toList with
  | some (c, st') => c /\ Qn st'
  | none => bif draw then (match regionA C stp true st (hoist ops.toList) with
   | some (c, st') => c /\ Qn st'
   | none => match regionY C st ops.toList with
    | some (c, st') => c /\ Qn st'
    | none => False) else False
 | L, .seq a b, k, st, Qn, Qx, Qr => wpI C stp L a k st (fun st' => wpI C stp L b (k + nl a) st' Qn Qx Qr) Qx Qr
 | L, .cond x a b, k, st, Qn, Qx, Qr => match (viewO st x).val with
  | some ⟨.bool, p⟩ => (p = true -> wpI C stp L a k st Qn Qx Qr) /\ (p = false -> wpI C stp L b (k + nl a) st Qn Qx Qr)
  | none => match (viewO st x).e with
   | .nb p q => (p -> wpI C stp L a k st Qn Qx Qr) /\ (q -> wpI C stp L b (k + nl a) st Qn Qx Qr)
   | _ => False
  | _ => False
 | L, .block id b, k, st, Qn, Qx, Qr => wpI C stp L b k st Qn (fun i st' => bif Nat.beq i id then Qn st' else Qx i st') Qr
 | L, .loop b, k, st, _, Qx, Qr => match L[k]? with
  | some l => (∃ x, l.inv x /\ atX l (frzA st l.frz) x (frzA st l.frz)) /\ ∀ x, l.inv x -> factsL (l.ovr x) [] -> wpI C stp (l.sub x) b 0 (stx l (frzA st l.frz) x) (fun st' => ∃ y, l.inv y /\ l.dec y < l.dec x /\ atX l (frzA st l.frz) y (frzA st' l.frz)) Qx Qr
  | none => False
 | _, .exit id, _, st, _, Qx, _ => Qx id st
 | _, .ret, _, st, _, _, Qr => Qr st
 | _, _, _, _, _, _, _ => False

section
variable {P : Program} {C : Ctx} {w0 : World} {F0 H : NSet}

theorem look_keys : ∀ {l : List (Nat × Ent)} {t : Nat} {e : Ent}, look l t = some e -> t ∈ keysL l
 | [], _, _, h => by cases h
 | (k, v) :: l, t, e, h => by
  simp only [look] at h;cases hb : Nat.beq k t
  ·rw [hb] at h; simp only [keysL, List.mem_cons]; exact .inr (look_keys h)
  ·simp only [keysL, List.mem_cons]; exact .inl (nbeq_iff.1 hb).symm

theorem leAll_mem {st st' : St} : ∀ {l : List Nat} {t : Nat}, leAll st st' l -> t ∈ l -> leE (st t) (st' t)
 | x :: l, t, h, ht => by
  rcases List.mem_cons.1 ht with rfl | ht
  ·exact h.1
  ·exact leAll_mem h.2 ht
theorem rootsB_mem {st : St} : ∀ {l : List Nat} {t r : Nat}, rootsB st l = true -> t ∈ l -> (st t).root = some r -> (st r).isOwner = true
 | x :: l, t, r, h, ht, hr => by
  simp only [rootsB, Bool.and_eq_true] at h;rcases List.mem_cons.1 ht with rfl | ht
  ·have := h.1; rw [hr] at this; exact this
  ·exact rootsB_mem h.2 ht hr

theorem leE_dead (e : Ent) : leE e .dead := by cases e <;> trivial

theorem atX_ok {N : NP} {l : LoopI} {st st' : St} {x : l.ι} (h : atX l st x st') {a : Act} {w : World} (hi : Inv P N w0 F0 H st' a w) : Inv P N w0 F0 H (stx l st x) a w := by
 unfold atX at h
 cases hb : rootsB (stx l st x) (keysL (l.ovr x) ++ l.keep)
 ·rw [hb] at h; cases h
 rw [hb] at h
 simp only [cond_true] at h
 obtain ⟨F, S, hi⟩ := hi
 have hkey : ∀ t, stx l st x t ≠ .dead -> t ∈ keysL (l.ovr x) ++ l.keep := by
  intro t ht;unfold stx at ht;rw [List.mem_append];cases hl : look (l.ovr x) t with
  | some e => exact .inl (look_keys hl)
  | none =>
   rw [hl] at ht;simp only [] at ht;cases hm : memN l.keep t
   ·rw [hm] at ht; exact absurd rfl ht
   ·exact .inr (memN_mem.1 hm)
 refine ⟨F, S, hi.le ?_ ?_⟩
 ·intro t
  by_cases ht : stx l st x t = .dead
  ·rw [ht]; exact leE_dead _
  ·exact leAll_mem h (hkey t ht)
 ·intro t r hr
  exact rootsB_mem hb (hkey t (fun h => by rw [h] at hr; cases hr)) hr

theorem wp_loop_x {c : Code} {ι : Type} (I : ι -> Act -> World -> Prop) (dec : ι -> Nat) {Q : Exit -> Act -> World -> Prop} {a : Act} {w : World} (x : ι) (h0 : I x a w)
  (round : ∀ x a w, I x a w -> c.wp P (Exit.then (fun a' w' => ∃ y, I y a' w' /\ dec y < dec x) Q) a w) : (Code.loop c).wp P Q a w := by
 have hmin : ∀ (p : Nat -> Prop) (n : Nat), p n -> ∃ m, p m /\ ∀ k, p k -> m <= k := by
  intro p n
  induction n using Nat.strongRecOn with
  | _ n ih =>
   intro hn;by_cases h : ∃ m, m < n /\ p m
   ·obtain ⟨m, h1, h2⟩ := h; exact ih m h1 h2
   ·refine ⟨n, hn, fun k hk => ?_⟩
    rcases Nat.lt_or_ge k n with h' | h'
    ·exact absurd ⟨k, h', hk⟩ h
    ·exact h'
 let p : Act -> World -> Nat -> Prop := fun a w n => ∃ x, I x a w /\ dec x = n
 have hex : ∀ a w, ∃ m, (∃ n, p a w n) -> p a w m /\ ∀ k, p a w k -> m <= k := by
  intro a w;by_cases h : ∃ n, p a w n
  ·obtain ⟨n, hn⟩ := h
   obtain ⟨m, h1, h2⟩ := hmin (p a w) n hn;exact ⟨m, fun _ => ⟨h1, h2⟩⟩
  ·exact ⟨0, fun h' => absurd h' h⟩
 let μ : Act -> World -> Nat := fun a w => Classical.choose (hex a w)
 have hμ : ∀ a w, (∃ n, p a w n) -> p a w (μ a w) /\ ∀ k, p a w k -> μ a w <= k := fun a w => Classical.choose_spec (hex a w)
 refine wp_loop (fun a w => ∃ x, I x a w) μ ⟨x, h0⟩ ?_
 intro a w ⟨x, hx⟩
 obtain ⟨⟨y, hy, hd⟩, _⟩ := hμ a w ⟨_, x, hx, rfl⟩
 refine wp_mono (round y a w hy) ?_
 intro e a' w' h
 cases e with
 | normal =>
  obtain ⟨z, hz, hlt⟩ := h;refine ⟨⟨z, hz⟩, ?_⟩;have := (hμ a' w' ⟨_, z, hz, rfl⟩).2 _ ⟨z, hz, rfl⟩;omega
 | _ => exact h

theorem wpI_ok (hC : CtxOK P C) {stp : St -> Oper -> Option (Prop × St)} (hstp : StpOK P C stp) :
  ∀ (c : Code) {L : List LoopI} {k : Nat} {st : St} {Qn : St -> Prop} {Qx : Nat -> St -> Prop} {Qr : St -> Prop} {Q : Exit -> Act -> World -> Prop} {a : Act} {w : World}, wpI C stp L c k st Qn Qx Qr -> Inv P C.np w0 F0 H st a w ->
   (∀ st a w, Qn st -> Inv P C.np w0 F0 H st a w -> Q .normal a w) -> (∀ i st a w, Qx i st -> Inv P C.np w0 F0 H st a w -> Q (.exit i) a w) -> (∀ st a w, Qr st -> Inv P C.np w0 F0 H st a w -> Q .ret a w) -> c.wp P Q a w
 | .skip, L, k, st, Qn, Qx, Qr, Q, a, w, h, hi, hn, hx, hr => wp_skip (hn _ _ _ h hi)
 | .region id ops draw, L, k, st, Qn, Qx, Qr, Q, a, w, h, hi, hn, hx, hr => by
  simp only [wpI] at h;split at h
  ·rename_i c st' hr'
   exact (regionA_ok hC hstp hr' h.1 hi (fun a' w' hi' => hn _ _ _ h.2 hi')).wp hC.mixed
  ·cases draw with
   | false => cases h
   | true =>
    simp only [cond_true] at h;split at h
    ·rename_i c st' hr'
     have h1 := regionA_ok (ops := (hoist ops.toList).toArray) (Q := onlyN fun a' w' => Inv P C.np w0 F0 H st' a' w') hC hstp hr' h.1 hi (fun a' w' hi' => hi')
     refine wp_mono ((hoist_ok h1).wp (id := id) hC.mixed) ?_
     intro e a' w' h';cases e with
     | normal => exact hn _ _ _ h.2 h'
     | _ => exact h'.elim
    ·split at h
     ·rename_i c st' hr'
      exact (regionY_ok hC hr' h.1 hi (fun a' w' hi' => hn _ _ _ h.2 hi')).wp hC.mixed
     ·cases h
 | .seq x y, L, k, st, Qn, Qx, Qr, Q, a, w, h, hi, hn, hx, hr => by
  simp only [wpI] at h;refine wp_seq (wpI_ok hC hstp x h hi ?_ ?_ ?_)
  ·intro st1 a1 w1 h1 hi1
   exact wpI_ok hC hstp y h1 hi1 hn hx hr
  ·exact hx
  ·exact hr
 | .cond z x y, L, k, st, Qn, Qx, Qr, Q, a, w, h, hi, hn, hx, hr => by
  simp only [wpI] at h;split at h
  ·rename_i p hv
   obtain ⟨F, S, hi0⟩ := hi;have := (View.val_ok hi0 (viewO_ok hi0 z) hv).bool_eq;refine wp_cond_split this (fun hp => wpI_ok hC hstp x (h.1 hp) ⟨F, S, hi0⟩ hn hx hr) (fun hp => wpI_ok hC hstp y (h.2 hp) ⟨F, S, hi0⟩ hn hx hr)
  ·split at h
   ·rename_i p q hv
    obtain ⟨F, S, hi0⟩ := hi;have h1 := (viewO_ok hi0 z).ent (by rw [hv]; rfl) 0 (by rw [hv]; simp [Ent.root]);rw [hv] at h1;simp only [EntOK, if_true] at h1;obtain ⟨b, h1, h2, h3⟩ := h1;refine wp_cond_split h1 (fun hp => wpI_ok hC hstp x (h.1 (h2 hp)) ⟨F, S, hi0⟩ hn hx hr) (fun hp => wpI_ok hC hstp y (h.2 (h3 hp)) ⟨F, S, hi0⟩ hn hx hr)
   ·cases h
  ·cases h
 | .block id b, L, k, st, Qn, Qx, Qr, Q, a, w, h, hi, hn, hx, hr => by
  simp only [wpI] at h;refine wp_block (wpI_ok hC hstp b h hi hn ?_ hr);intro i st1 a1 w1 h1 hi1;simp only [Exit.inBlock];cases hb : Nat.beq i id
  ·rw [hb] at h1
   have : i ≠ id := fun e => by subst e; rw [Nat.beq_refl] at hb; cases hb
   rw [if_neg this];exact hx _ _ _ _ h1 hi1
  ·rw [hb] at h1
   rw [if_pos (nbeq_iff.1 hb)];exact hn _ _ _ h1 hi1
 | .loop b, L, k, st, Qn, Qx, Qr, Q, a, w, h, hi, hn, hx, hr => by
  simp only [wpI] at h;split at h
  ·rename_i l hl
   obtain ⟨⟨x, h1, h2⟩, h3⟩ := h;refine wp_loop_x (fun x a w => l.inv x /\ Inv P C.np w0 F0 H (stx l (frzA st l.frz) x) a w) l.dec x ⟨h1, atX_ok h2 (frzA_ok hi)⟩ ?_
   intro y a1 w1 ⟨g1, g2⟩;refine wpI_ok hC hstp b (h3 y g1 (factsL_ok g2 (f := l.ovr y) (fun t e h => by simp only [stx, h]) (l.ovr y) [] (fun t e _ h => h))) g2 ?_ hx hr
   intro st2 a2 w2 ⟨z, k1, k2, k3⟩ hi2;exact ⟨z, ⟨k1, atX_ok k3 (frzA_ok hi2)⟩, k2⟩
  ·cases h
 | .exit id, L, k, st, Qn, Qx, Qr, Q, a, w, h, hi, hn, hx, hr => wp_exit (hx _ _ _ _ h hi)
 | .ret, L, k, st, Qn, Qx, Qr, Q, a, w, h, hi, hn, hx, hr => wp_ret (hr _ _ _ h hi)
 | .rangeFunc _ _ _ _, _, _, _, _, _, _, _, _, _, h, _, _, _, _ => by simp only [wpI] at h
 | .scope _, _, _, _, _, _, _, _, _, _, h, _, _, _, _ => by simp only [wpI] at h
 | .label _, _, _, _, _, _, _, _, _, _, h, _, _, _, _ => by simp only [wpI] at h
 | .goto _, _, _, _, _, _, _, _, _, _, h, _, _, _, _ => by simp only [wpI] at h
 | .refuse _, _, _, _, _, _, _, _, _, _, h, _, _, _, _ => by simp only [wpI] at h
end
end Go.Lf
namespace Go.Lf

def argEnt : (k : AK) -> k.den -> Ent
 | .val τ, x => .shr τ x
 | .fn A R, g => .fn A R g
 | .sptr τ, x => .saddr τ x
def argsEnt : (ks : List AK) -> kdens ks -> Nat -> List (Nat × Ent)
 | [], _, _ => []
 | k :: ks, x, n => (n, argEnt k x.1) :: argsEnt ks x.2 (n + 1)
def ofL (l : List (Nat × Ent)) : St := fun t => match look l t with
 | some e => e
 | none => .dead

def readR (τ : Ty) (v : View) : Option τ.den :=
 match v.shrAs τ with
 | some x => some x
 | none => match v.val with
  | some ⟨σ, x⟩ => castD (τ := σ) (σ := τ) x
  | none => none

def resV (C : Ctx) (st : St) : ResultVar -> Option View
 | .tmp t => some (viewO st (.tmp t))
 | .cell _ _ => none

def ownRs : (τ : Ty) -> Md -> List View -> Option (τ.den × List Nat)
 | .unit, _, [] => some ((), [])
 | .prod a b, m, v :: vs => match ownR a m.fst v, ownRs b m.snd vs with
  | some (x, l), some (y, l') => some ((x, y), l ++ l')
  | _, _ => none
 | _, _, _ => none
def readRs : (τ : Ty) -> List View -> Option τ.den
 | .unit, [] => some ()
 | .prod a b, v :: vs => match readR a v, readRs b vs with
  | some x, some y => some (x, y)
  | _, _ => none
 | _, _ => none

def cellOf (st : St) (T : TypeId) (C : Ctx) (t : Nat) (τ : Ty) : Option τ.den :=
 match st t with
 | .box σ _ x => bif decide (look C.tys T = some τ) then castD (τ := σ) (σ := τ) x else none
 | _ => none

def cellOwn (st : St) (T : TypeId) (C : Ctx) (t : Nat) (τ : Ty) (md : Md) : Option τ.den :=
 match st t with
 | .box σ m x => bif decide (look C.tys T = some τ) && decide (m = md) then castD (τ := σ) (σ := τ) x else none
 | _ => none

def viewsR (st : St) : List ResultVar -> Option (List View)
 | [] => some []
 | .tmp t :: l => match viewsR st l with
  | some vs => some (viewO st (.tmp t) :: vs)
  | none => none
 | .cell _ _ :: _ => none

def readCs (C : Ctx) (st : St) : (τ : Ty) -> List ResultVar -> Option τ.den
 | .unit, [] => some ()
 | .prod a b, .tmp t :: rs => match readR a (viewO st (.tmp t)), readCs C st b rs with
  | some x, some y => some (x, y)
  | _, _ => none
 | .prod a b, .cell t T :: rs => match cellOf st T C t a, readCs C st b rs with
  | some x, some y => some (x, y)
  | _, _ => none
 | _, _ => none
def retE (C : Ctx) (rs : List ResultVar) (s : FSpec) (st : St) : Option s.res.den :=
 match rs, s.multi with
 | [.tmp t], false => match ownR s.res s.mode (viewO st (.tmp t)) with
  | some (x, _) => some x
  | none => bif shrM s.mode then readR s.res (viewO st (.tmp t)) else none
 | [.cell t T], false => bif s.res.flat || shrM s.mode then cellOf st T C t s.res else cellOwn st T C t s.res s.mode
 | _, true => bif Nat.beq rs.length 1 then none else match viewsR st rs with
  | some vs => match ownRs s.res s.mode vs with
   | some (x, l) => bif nodupN l then some x else none
   | none => bif shrM s.mode then readRs s.res vs else none
  | none => bif shrM s.mode then readCs C st s.res rs else none
 | _, _ => none

def retP (C : Ctx) (rs : List ResultVar) (s : FSpec) (y : s.res.den) (st : St) : Prop := match retE C rs s st with
 | some x => x = y
 | none => False

def funI (C : Ctx) (stp : St -> Oper -> Option (Prop × St)) (s : FSpec) (L : kdens s.args -> List LoopI) (fn : Func) : Prop :=
 match fn.body with
 | some c => ∀ x, s.pre x -> factsK s.args x -> wpI C stp (L x) c 0 (ofL (argsEnt s.args x 0)) (retP C fn.results.toList s (s.fn x)) (fun _ _ => False) (retP C fn.results.toList s (s.fn x))
 | none => False

section
variable {P : Program} {C : Ctx} {N : NP} {w0 : World} {F0 H : NSet} {env : St} {a : Act} {w : World} {F : NSet} {S : Nat -> NSet}

theorem argEnt_ok {k : AK} {v : Value} {x : k.den} (h : ArgOK P F w k v x) {V : Nat -> Value} {t : Nat} (hV : V t = v) : EntOK P F w env V S t (argEnt k x) := by
 cases k with
 | val τ => show OwnV F w τ .shr none' (V t) x; rw [hV]; exact h
 | fn A R => show FnVal P F w (V t) A R x; rw [hV]; exact h
 | sptr τ => show SAddr F w (V t) τ x; rw [hV]; exact h

theorem argsEnt_ok {V : Nat -> Value} : ∀ {ks : List AK} {vs : List Value} {x : kdens ks} {n : Nat}, ArgsOK P F w ks vs x -> (∀ i v, vs[i]? = some v -> V (n + i) = v) ->
  vs.length = ks.length /\ ∀ t e, look (argsEnt ks x n) t = some e -> e.isOwner = false /\ e.root = none /\ EntOK P F w env V S t e
 | [], vs, x, n, h, hV => by
  have h : vs = [] := h
  subst h; exact ⟨rfl, fun t e h => by cases h⟩
 | k :: ks, vs, x, n, h, hV => by
  obtain ⟨v, r, rfl, h1, h2⟩ := h;obtain ⟨g1, g2⟩ := argsEnt_ok (V := V) (n := n + 1) h2 (fun i u hu => by have := hV (i + 1) u (by simpa using hu); rw [<- this]; congr 1; omega)
  refine ⟨by simp [g1], fun t e he => ?_⟩
  simp only [argsEnt, look] at he;cases hb : Nat.beq n t
  ·rw [hb] at he; exact g2 t e he
  ·rw [hb] at he
   simp only [cond_true, Option.some.injEq] at he;subst he;have ht := nbeq_iff.1 hb;subst ht;refine ⟨by cases k <;> rfl, by cases k <;> rfl, argEnt_ok h1 (by have := hV 0 v rfl; simpa using this)⟩

theorem Inv0.start {ks : List AK} {vs : List Value} {x : kdens ks} (hG : GlbOK N.g F w) (hF : ∀ b, F b -> b < w.heap.size) (h : ArgsOK P F w ks vs x) (hn : vs.length <= N.n) (hp : N.p = none) :
  Inv0 P N w F none' (ofL (argsEnt ks x 0)) { tmps := vs.toArray ++ Array.replicate (N.n - vs.length) undef, defers := [] } w F (fun _ => none') := by
 have hV : ∀ i v, vs[i]? = some v -> (vs.toArray ++ Array.replicate (N.n - vs.length) undef).getD (0 + i) undef = v := by
  intro i v hv;have hi : i < vs.length := by
   rcases Nat.lt_or_ge i vs.length with h | h
   ·exact h
   ·rw [List.getElem?_eq_none h] at hv; cases hv
  rw [Nat.zero_add, Array.getD_eq_getD_getElem?, Array.getElem?_append_left (by simpa using hi)];simp [hv]
 have he := argsEnt_ok (env := ofL (argsEnt ks x 0)) (S := fun _ => none') (V := fun t => (vs.toArray ++ Array.replicate (N.n - vs.length) undef).getD t undef) (n := 0) h hV
 refine ⟨rfl, rfl, rfl, Nat.le_refl _, fun _ _ _ => rfl, hF, fun _ h => h, fun b h1 h2 => absurd h1 h2, fun _ _ h => h.elim, fun _ _ _ _ h => h.elim, ?_, rfl, ⟨by simp; omega, (fun s h => by rw [hp] at h; cases h), fun b o h => ⟨(hG b o h).1, fun h => h.elim, hF b (hG b o h).1, (hG b o h).2⟩⟩⟩
 intro t
 show EntOK P F w (ofL (argsEnt ks x 0)) (fun t => (vs.toArray ++ Array.replicate (N.n - vs.length) undef).getD t undef) (fun _ => none') t (match look (argsEnt ks x 0) t with | some e => e | none => .dead)
 cases hl : look (argsEnt ks x 0) t with
 | none => trivial
 | some e => exact (he.2 t e hl).2.2

theorem readR_ok (hi : Inv0 P N w0 F0 H env a w F S) {v : Value} {vw : View} (hv : ViewOK P F w env (fun t => a.tmps.getD t undef) S v vw) {τ : Ty} {x : τ.den} (h : readR τ vw = some x) :
  OwnV (FA F S) w τ .shr none' v x := by
 unfold readR at h
 split at h
 ·rename_i y hy
  simp only [Option.some.injEq] at h;subst h;exact (shrAs_ok hi hv hy).mono (fun b hb => .inl hb) (fun _ h => h)
 ·split at h
  ·rename_i σ y hy
   have := castD_some h
   injection this with e1 e2; subst e1; cases e2;exact View.val_ok hi hv hy
  ·cases h

def resG (a : Act) : ResultVar -> Sem Value
 | ResultVar.tmp t => (pure (a.tmps.getD t undef) : Sem Value)
 | .cell b t => do loadVar t (<- asAddr (a.tmps.getD b undef))

theorem viewsR_ok (hi : Inv0 P N w0 F0 H env a w F S) : ∀ {rs : List ResultVar} {vws : List View}, viewsR env rs = some vws ->
  ∃ vs, VsOK P F w env (fun t => a.tmps.getD t undef) S vs vws /\ (rs.mapM (resG a)).run P w = .ok vs w /\ vs.length = rs.length
 | [], vws, h => by
  simp only [viewsR, Option.some.injEq] at h;subst h;exact ⟨[], trivial, by simp [Sem.run_pure], rfl⟩
 | .tmp t :: rs, vws, h => by
  simp only [viewsR] at h;split at h
  ·rename_i vws' h'
   simp only [Option.some.injEq] at h;subst h;obtain ⟨vs, h1, h2, h3⟩ := viewsR_ok hi h';refine ⟨a.tmps.getD t undef :: vs, ⟨viewO_ok hi (.tmp t), h1⟩, ?_, by simp [h3]⟩
   rw [List.mapM_cons];simp only [resG, Sem.run_bind, Sem.run_pure, Result.andThen];rw [h2]
  ·cases h
 | .cell _ _ :: _, _, h => by cases h

theorem ownRs_ok (hi : Inv0 P N w0 F0 H env a w F S) : ∀ {τ : Ty} {m : Md} {vs : List Value} {vws : List View} {x : τ.den} {l : List Nat},
  VsOK P F w env (fun t => a.tmps.getD t undef) S vs vws -> ownRs τ m vws = some (x, l) -> nodupN l = true -> TupOK F w τ m (SL S l) vs x
 | .unit, m, [], [], x, l, _, h, _ => rfl
 | .prod A B, m, v :: vs, vw :: vws, x, l, ⟨hv, hvs⟩, h, hn => by
  simp only [ownRs] at h;split at h
  ·rename_i y l1 z l2 h1 h2
   simp only [Option.some.injEq, Prod.mk.injEq] at h;obtain ⟨rfl, rfl⟩ := h;have hfst : ∃ S1, Sub S1 (SL S l1) /\ OwnV F w A m.fst S1 v y := by
    rcases ownR_ok hi hv h1 with ⟨rfl, h3⟩ | ⟨t, rfl, h3⟩
    ·exact ⟨none', fun _ h => h.elim, h3⟩
    ·exact ⟨S t, fun b hb => ⟨t, by simp, hb⟩, h3⟩
   have hn2 : nodupN l2 = true /\ ∀ t, t ∈ l1 -> t ∉ l2 := by
    rcases ownR_ok hi hv h1 with ⟨rfl, h3⟩ | ⟨t, rfl, h3⟩
    ·exact ⟨hn, fun _ h => by cases h⟩
    ·have := nodup_cons hn
     exact ⟨this.2, fun u hu => by simp at hu; subst hu; exact this.1⟩
   obtain ⟨S1, k1, k2⟩ := hfst;refine ⟨v, vs, S1, SL S l2, rfl, ?_, ?_, ?_, k2, ownRs_ok hi hvs h2 hn2.1⟩
   ·intro b hb; obtain ⟨t, ht, hb⟩ := k1 b hb; exact ⟨t, by simp [ht], hb⟩
   ·intro b hb; obtain ⟨t, ht, hb⟩ := hb; exact ⟨t, by simp [ht], hb⟩
   ·intro b hb1 hb2
    obtain ⟨t1, ht1, hb1⟩ := k1 b hb1;obtain ⟨t2, ht2, hb2⟩ := hb2;exact hi.sd t1 t2 (fun h => hn2.2 t1 ht1 (h ▸ ht2)) b hb1 hb2
  ·cases h
 | .prod _ _, _, [], [], _, _, _, h, _ => by simp [ownRs] at h
 | .prod _ _, _, [], _ :: _, _, _, h, _, _ => h.elim
 | .prod _ _, _, _ :: _, [], _, _, h, _, _ => h.elim
 | .unit, _, [], _ :: _, _, _, h, _, _ => h.elim
 | .unit, _, _ :: _, [], _, _, h, _, _ => h.elim
 | .unit, _, _ :: _, _ :: _, _, _, _, h, _ => by simp [ownRs] at h
 | .int _, _, _, _, _, _, _, h, _ => by simp [ownRs] at h
 | .bool, _, _, _, _, _, _, h, _ => by simp [ownRs] at h
 | .str, _, _, _, _, _, _, h, _ => by simp [ownRs] at h
 | .abs _, _, _, _, _, _, _, h, _ => by simp [ownRs] at h
 | .slice _, _, _, _, _, _, _, h, _ => by simp [ownRs] at h
 | .arr _ _, _, _, _, _, _, _, h, _ => by simp [ownRs] at h

theorem readRs_ok (hi : Inv0 P N w0 F0 H env a w F S) : ∀ {τ : Ty} {vs : List Value} {vws : List View} {x : τ.den},
  VsOK P F w env (fun t => a.tmps.getD t undef) S vs vws -> readRs τ vws = some x -> TupOK (FA F S) w τ .shr none' vs x
 | .unit, [], [], x, _, h => rfl
 | .prod A B, v :: vs, vw :: vws, x, ⟨hv, hvs⟩, h => by
  simp only [readRs] at h;split at h
  ·rename_i y z h1 h2
   simp only [Option.some.injEq] at h;subst h;exact ⟨v, vs, none', none', rfl, fun _ h => h, fun _ h => h, fun _ h => h.elim, readR_ok hi hv h1, readRs_ok hi hvs h2⟩
  ·cases h
 | .prod _ _, [], [], _, _, h => by simp [readRs] at h
 | .prod _ _, [], _ :: _, _, h, _ => h.elim
 | .prod _ _, _ :: _, [], _, h, _ => h.elim
 | .unit, [], _ :: _, _, h, _ => h.elim
 | .unit, _ :: _, [], _, h, _ => h.elim
 | .unit, _ :: _, _ :: _, _, _, h => by simp [readRs] at h
 | .int _, _, _, _, _, h => by simp [readRs] at h
 | .bool, _, _, _, _, h => by simp [readRs] at h
 | .str, _, _, _, _, h => by simp [readRs] at h
 | .abs _, _, _, _, _, h => by simp [readRs] at h
 | .slice _, _, _, _, _, h => by simp [readRs] at h
 | .arr _ _, _, _, _, _, h => by simp [readRs] at h

theorem Inv0.post {F : NSet} (hi : Inv0 P N w0 F0 none' env a w F S) {multi : Bool} {τ : Ty} {m : Md} {v : Value} {x : τ.den} {F' Sd : NSet}
  (hF : Sub F F') (hF' : ∀ b, F' b -> F b ∨ ∃ t, S t b) (hS : ∀ b, Sd b -> (∃ t, S t b) /\ ¬ F' b) (h : RetV F' w multi τ m Sd v x) :
  Post F0 w0 multi τ m x (.returned v) w := by
 have hnew : ∀ b, (∃ t, S t b) -> w0.heap.size <= b /\ b < w.heap.size := by
  rintro b ⟨t, hb⟩
  obtain ⟨h1, h2, _⟩ := hi.sb t b hb;exact ⟨h1.elim id (fun h => h.elim), h2⟩
 refine ⟨v, F', Sd, rfl, ?_, fun b hb => hF b (hi.f0 b hb), ?_, ?_, ?_, h⟩
 ·exact ⟨hi.os, hi.tape, hi.output, hi.size, fun k hk => hi.block k hk (fun h => h)⟩
 ·intro b h1 h2
  rcases hF' b h1 with h | h
  ·exact (hi.fn b h h2).elim id (fun h => h.elim)
  ·exact (hnew b h).1
 ·intro b h
  rcases h with h | h
  ·rcases hF' b h with h | h
   ·exact hi.fb b h
   ·exact (hnew b h).2
  ·exact (hnew b (hS b h).1).2
 ·intro b h
  exact ⟨(hnew b (hS b h).1).1, (hS b h).2⟩


theorem results_run {fn : Func} {vs : List Value} (h : (fn.results.toList.mapM (resG a)).run P w = .ok vs w) :
  (results fn a.tmps).run P w = .ok (if h : vs.toArray.size = 1 then vs.toArray[0] else .tuple vs.toArray) w := by
 have e : results fn a.tmps = (fn.results.mapM (resG a)) >>= fun vs => pure (if h : vs.size = 1 then vs[0] else .tuple vs) := by
  unfold results
  congr 1
 rw [e, Array.mapM_eq_mapM_toList]
 simp only [map_eq_pure_bind, Sem.run_bind, h, Result.andThen, Sem.run_pure]

theorem cellOf_ok (hC : CtxOK P C) (hi : Inv0 P N w0 F0 H env a w F S) {T : TypeId} {t : Nat} {τ : Ty} {x : τ.den} (h : cellOf env T C t τ = some x) :
  ∃ v, (resG a (.cell t T)).run P w = .ok v w /\ OwnV (FA F S) w τ .shr none' v x := by
 unfold cellOf at h
 split at h
 ·rename_i σ m z he
  cases hT : decide (look C.tys T = some τ)
  ·rw [hT] at h; cases h
  rw [hT] at h;simp only [cond_true] at h;have hT' := of_decide_eq_true hT;have := castD_some h;injection this with e1 e2;subst e1; cases e2;have h1 := hi.ent t;rw [he] at h1;obtain ⟨pl, S0, cs, h1⟩ := h1;obtain ⟨_, _, b, rfl, rfl, hv, hb⟩ := h1.box_inj;obtain ⟨q1, q2, row, T0, q3, q4, q5⟩ := h1.2.1;have hl := (hC.types T _ hT').loadVar q3 q4;rw [q5] at hl;refine ⟨slotv σ cs, by simp only [resG, hv, asAddr, Sem.run_bind, Sem.run_pure, Result.andThen, hl], ?_⟩
  have hO : OwnV F w σ m (fun k => S t k /\ k ≠ b) (slotv σ cs) z := ⟨cs, rfl, h1.2.2⟩
  exact hO.freeze (fun k hk => hk.imp id fun hk => ⟨t, hk.1⟩)
 ·cases h
theorem readCs_ok (hC : CtxOK P C) (hi : Inv0 P N w0 F0 H env a w F S) : ∀ {τ : Ty} {rs : List ResultVar} {x : τ.den}, readCs C env τ rs = some x ->
  ∃ vs, (rs.mapM (resG a)).run P w = .ok vs w /\ vs.length = rs.length /\ TupOK (FA F S) w τ .shr none' vs x
 | .unit, [], x, h => ⟨[], by simp [Sem.run_pure], rfl, rfl⟩
 | .prod A B, .tmp t :: rs, x, h => by
  simp only [readCs] at h;split at h
  ·rename_i y z h1 h2
   simp only [Option.some.injEq] at h;subst h;obtain ⟨vs, k1, k2, k3⟩ := readCs_ok hC hi h2;refine ⟨a.tmps.getD t undef :: vs, ?_, by simp [k2], _, vs, none', none', rfl, fun _ h => h, fun _ h => h, fun _ h => h.elim, readR_ok hi (viewO_ok hi (.tmp t)) h1, k3⟩
   rw [List.mapM_cons];simp only [resG, Sem.run_bind, Sem.run_pure, Result.andThen];rw [k1]
  ·cases h
 | .prod A B, .cell t T :: rs, x, h => by
  simp only [readCs] at h;split at h
  ·rename_i y z h1 h2
   simp only [Option.some.injEq] at h;subst h;obtain ⟨vs, k1, k2, k3⟩ := readCs_ok hC hi h2;obtain ⟨v, q1, q2⟩ := cellOf_ok hC hi h1;refine ⟨v :: vs, ?_, by simp [k2], _, vs, none', none', rfl, fun _ h => h, fun _ h => h, fun _ h => h.elim, q2, k3⟩
   rw [List.mapM_cons];simp only [Sem.run_bind, Result.andThen, q1, k1, Sem.run_pure]
  ·cases h
 | .unit, _ :: _, _, h => by simp [readCs] at h
 | .prod _ _, [], _, h => by simp [readCs] at h
 | .int _, _, _, h => by simp [readCs] at h
 | .bool, _, _, h => by simp [readCs] at h
 | .str, _, _, h => by simp [readCs] at h
 | .abs _, _, _, h => by simp [readCs] at h
 | .slice _, _, _, h => by simp [readCs] at h
 | .arr _ _, _, _, h => by simp [readCs] at h

theorem retP_ok (hC : CtxOK P C) {s : FSpec} {fn : Func} {y : s.res.den} (h : retP C fn.results.toList s y env) {a : Act} {w : World} (hi : Inv P N w0 F0 none' env a w) :
  ∃ v, (results fn a.tmps).run P w = .ok v w /\ Post F0 w0 s.multi s.res s.mode y (.returned v) w := by
 unfold retP at h
 generalize hret : retE C fn.results.toList s env = g at h
 cases g with
 | none => cases h
 | some x =>
  simp only [] at h;subst h;obtain ⟨F, S, hi⟩ := hi;have hFA : ∀ {m : Md} {v : Value}, shrM m = true -> OwnV (FA F S) w s.res .shr none' v x -> s.multi = false -> m = s.mode -> Post F0 w0 s.multi s.res s.mode x (.returned v) w := by
   intro m v hm hv hmu hms;subst hms;have hm' : s.mode = .shr := by cases hmm : s.mode <;> first | rfl | (rw [hmm] at hm; cases hm)
   refine hi.post (F' := FA F S) (Sd := none') (fun b hb => .inl hb) (fun b hb => hb) (fun b hb => hb.elim) ?_
   rw [hmu, hm'];exact hv
  unfold retE at hret;split at hret
  ·rename_i t hrs hmu
   have hrun := results_run (P := P) (w := w) (a := a) (fn := fn) (vs := [a.tmps.getD t undef]) (by rw [hrs]; simp [resG, Sem.run_bind, Sem.run_pure, Result.andThen])
   refine ⟨_, hrun, ?_⟩
   simp only [List.size_toArray, List.length_cons, List.length_nil, Nat.zero_add, dite_true];show Post F0 w0 s.multi s.res s.mode x (.returned (a.tmps.getD t undef)) w;have hv := viewO_ok hi (.tmp t);split at hret
   ·rename_i z l hz
    simp only [Option.some.injEq] at hret;subst hret;rcases ownR_ok hi hv hz with ⟨rfl, h⟩ | ⟨u, rfl, h⟩
    ·refine hi.post (F' := F) (Sd := none') (fun b hb => hb) (fun b hb => .inl hb) (fun b hb => hb.elim) ?_
     rw [hmu]; exact h
    ·refine hi.post (F' := F) (Sd := S u) (fun b hb => hb) (fun b hb => .inl hb) (fun b hb => ⟨⟨u, hb⟩, (hi.sb u b hb).2.2⟩) ?_
     rw [hmu]; exact h
   ·cases hm : shrM s.mode
    ·rw [hm] at hret; cases hret
    ·rw [hm] at hret
     simp only [cond_true] at hret;exact hFA hm (readR_ok hi hv hret) hmu rfl
  ·rename_i t T hrs hmu
   cases hm : (s.res.flat || shrM s.mode)
   ·rw [hm] at hret
    simp only [cond_false] at hret;unfold cellOwn at hret;split at hret
    ·rename_i σ m z he
     cases hT : (decide (look C.tys T = some s.res) && decide (m = s.mode))
     ·rw [hT] at hret; cases hret
     rw [hT] at hret;simp only [cond_true] at hret;simp only [Bool.and_eq_true, decide_eq_true_eq] at hT;obtain ⟨hT', hmd⟩ := hT;have := castD_some hret;injection this with e1 e2;subst e1; cases e2;have h1 := hi.ent t;rw [he] at h1;obtain ⟨pl, S0, cs, h1⟩ := h1;obtain ⟨_, _, b, rfl, rfl, hv, hb⟩ := h1.box_inj;obtain ⟨q1, q2, row, T0, q3, q4, q5⟩ := h1.2.1;have hl := (hC.types T _ hT').loadVar q3 q4;rw [q5] at hl;have hrun := results_run (P := P) (w := w) (a := a) (fn := fn) (vs := [slotv s.res cs]) (by
      rw [hrs];simp only [List.mapM_cons, List.mapM_nil, resG, hv, asAddr, Sem.run_bind, Sem.run_pure, Result.andThen, hl])
     refine ⟨_, hrun, ?_⟩
     simp only [List.size_toArray, List.length_cons, List.length_nil, Nat.zero_add, dite_true];show Post F0 w0 s.multi s.res s.mode _ (.returned (slotv s.res cs)) w;refine hi.post (F' := F) (Sd := fun k => S t k /\ k ≠ b) (fun b hb => hb) (fun b hb => .inl hb) (fun k hk => ⟨⟨t, hk.1⟩, (hi.sb t k hk.1).2.2⟩) ?_
     rw [hmu];show OwnV F w s.res s.mode _ _ _;rw [<- hmd];exact ⟨cs, rfl, h1.2.2⟩
    ·cases hret
   rw [hm] at hret;simp only [cond_true] at hret;unfold cellOf at hret;split at hret
   ·rename_i σ m z he
    cases hT : decide (look C.tys T = some s.res)
    ·rw [hT] at hret; cases hret
    rw [hT] at hret;simp only [cond_true] at hret;have hT' := of_decide_eq_true hT;have := castD_some hret;injection this with e1 e2;subst e1; cases e2;have h1 := hi.ent t;rw [he] at h1;obtain ⟨pl, S0, cs, h1⟩ := h1;obtain ⟨_, _, b, rfl, rfl, hv, hb⟩ := h1.box_inj;obtain ⟨q1, q2, row, T0, q3, q4, q5⟩ := h1.2.1;have hl := (hC.types T _ hT').loadVar q3 q4;rw [q5] at hl;have hrun := results_run (P := P) (w := w) (a := a) (fn := fn) (vs := [slotv s.res cs]) (by
     rw [hrs];simp only [List.mapM_cons, List.mapM_nil, resG, hv, asAddr, Sem.run_bind, Sem.run_pure, Result.andThen, hl])
    refine ⟨_, hrun, ?_⟩
    simp only [List.size_toArray, List.length_cons, List.length_nil, Nat.zero_add, dite_true];show Post F0 w0 s.multi s.res s.mode _ (.returned (slotv s.res cs)) w;have hO : OwnV F w s.res m (fun k => S t k /\ k ≠ b) (slotv s.res cs) _ := ⟨cs, rfl, h1.2.2⟩
    simp only [Bool.or_eq_true] at hm;rcases hm with hm | hm
    ·refine hi.post (F' := F) (Sd := none') (fun b hb => hb) (fun b hb => .inl hb) (fun b hb => hb.elim) ?_
     rw [hmu]; exact OwnV.flat hm hO
    ·exact hFA hm (hO.freeze (fun k hk => hk.imp id fun hk => ⟨t, hk.1⟩)) hmu rfl
   ·cases hret
  ·rename_i hmu
   cases hl : Nat.beq fn.results.toList.length 1
   ·rw [hl] at hret
    simp only [cond_false] at hret;split at hret
    ·rename_i vws hvs
     obtain ⟨vs, k1, k2, k3⟩ := viewsR_ok hi hvs;have hrun := results_run (P := P) (w := w) (a := a) (fn := fn) (vs := vs) k2;have hne : ¬ vs.toArray.size = 1 := by
      intro h;simp only [List.size_toArray] at h;rw [k3] at h;rw [nbeq_iff.2 h] at hl; cases hl
     rw [dif_neg hne] at hrun;refine ⟨_, hrun, ?_⟩;split at hret
     ·rename_i z l hz
      cases hn : nodupN l
      ·rw [hn] at hret; cases hret
      rw [hn] at hret;simp only [cond_true, Option.some.injEq] at hret;subst hret;refine hi.post (F' := F) (Sd := SL S l) (fun b hb => hb) (fun b hb => .inl hb) (fun b ⟨u, _, hb⟩ => ⟨⟨u, hb⟩, (hi.sb u b hb).2.2⟩) ?_
      rw [hmu];exact ⟨vs, rfl, ownRs_ok hi k1 hz hn⟩
     ·cases hm : shrM s.mode
      ·rw [hm] at hret; cases hret
      ·rw [hm] at hret
       simp only [cond_true] at hret;have hm' : s.mode = .shr := by cases hmm : s.mode <;> first | rfl | (rw [hmm] at hm; cases hm)
       refine hi.post (F' := FA F S) (Sd := none') (fun b hb => .inl hb) (fun b hb => hb) (fun b hb => hb.elim) ?_
       rw [hmu, hm'];exact ⟨vs, rfl, readRs_ok hi k1 hret⟩
    ·cases hm : shrM s.mode
     ·rw [hm] at hret; cases hret
     ·rw [hm] at hret
      simp only [cond_true] at hret;obtain ⟨vs, k1, k3, k4⟩ := readCs_ok hC hi hret;have hrun := results_run (P := P) (w := w) (a := a) (fn := fn) (vs := vs) k1;have hne : ¬ vs.toArray.size = 1 := by
       intro h;simp only [List.size_toArray] at h;rw [k3] at h;rw [nbeq_iff.2 h] at hl; cases hl
      rw [dif_neg hne] at hrun;refine ⟨_, hrun, ?_⟩;have hm' : s.mode = .shr := by cases hmm : s.mode <;> first | rfl | (rw [hmm] at hm; cases hm)
      refine hi.post (F' := FA F S) (Sd := none') (fun b hb => .inl hb) (fun b hb => hb) (fun b hb => hb.elim) ?_
      rw [hmu, hm'];exact ⟨vs, rfl, k4⟩
   ·rw [hl] at hret; cases hret
  ·cases hret

theorem ArgsOK.len : ∀ {ks : List AK} {vs : List Value} {x : kdens ks}, ArgsOK P F w ks vs x -> vs.length = ks.length
 | [], vs, _, h => by
  have h : vs = [] := h
  subst h; rfl
 | k :: ks, vs, x, h => by
  obtain ⟨v, r, rfl, _, h2⟩ := h;simp [ArgsOK.len h2]

theorem FOk.intro (hC : CtxOK P C) {stp : St -> Oper -> Option (Prop × St)} (hstp : StpOK P C stp) {f : FuncId} {s : FSpec} {fn : Func} (hdef : FnDef P f) (hf : P.funcs[f]? = some fn) (hN : C.np = ⟨fn.ntmps, none, 0, s.glb⟩)
  (hlen : Nat.ble s.args.length fn.ntmps = true) (L : kdens s.args -> List LoopI) (h : funI C stp s L fn) : FOk P f s := by
 refine ⟨hdef, ?_⟩
 intro w F vs xs hG hF ha hp
 unfold funI at h
 split at h
 ·rename_i c hb
  have hl := ArgsOK.len ha
  have hlen' : s.args.length <= fn.ntmps := Nat.le_of_ble_eq_true hlen
  have hst := Inv0.start (P := P) (N := C.np) (by rw [hN]; exact hG) hF ha (by rw [hN]; show vs.length <= fn.ntmps; omega) (by rw [hN])
  refine calls_of_wp hf hb ?_
  rw [show C.np.n = fn.ntmps by rw [hN]] at hst
  refine wpI_ok hC hstp c (h xs hp (factsK_ok ha)) ⟨F, _, by simpa using hst⟩ ?_ (fun _ _ _ _ h => h.elim) ?_
  ·intro st a w' hq hi
   obtain ⟨v, h1, h2⟩ := retP_ok hC hq hi;obtain ⟨_, _, hi⟩ := hi;exact ⟨hi.defers, v, h1, h2⟩
  ·intro st a w' hq hi
   obtain ⟨v, h1, h2⟩ := retP_ok hC hq hi;obtain ⟨_, _, hi⟩ := hi;exact ⟨hi.defers, v, h1, h2⟩
 ·cases h
end
end Go.Lf
namespace Go.Lf

structure Taken where
 τ : Ty
 m : Md
 x : τ.den
 t : Nat

def takeE (v : View) : Option Taken :=
 match v.e with
 | .own τ m x => match v.s with
  | some t => some ⟨τ, m, x, t⟩
  | none => none
 | .pend r _ e me x => some ⟨.slice e, .own me, x, r⟩
 | .sub r [] => match v.r with
  | .own τ m x => some ⟨τ, m, x, r⟩
  | _ => none
 | _ => none

def isSub : Ent -> Bool
 | .sub _ _ => true
 | _ => false

def ownA (C : Ctx) (d : Nat) (st : St) (v : View) : Option (Prop × St) :=
 bif isSub v.e && isNone (look C.mds d) then none else match takeE v with
 | some k => some (True, put (drop st k.t) d (mkE C d k.τ k.m k.x))
 | none => none

def pureStp (C : Ctx) (st : St) (o : Oper) : Option (Prop × St) :=
 match o.dst, opE C o (viewO st) with
 | some d, some (c, e, l) => some (c, put (dropAll st l) d e)
 | _, _ => none

def appC (C : Ctx) (st : St) (o : Oper) (q : Call) : Option (Prop × St) :=
 match q.callee, q.args.toList, q.argTypes.toList, o.dst with
 | .builtin .append, [x, y], [T, T2], some d => bif wrB C d then appE C d st T T2 (viewO st x) (viewO st y) else none
 | _, _, _, _ => none

def mvT (C : Ctx) (st : St) (o : Oper) (x : Operand) : Option (Prop × St) :=
 match x, o.dst with
 | .tmp t, some d => match st t with
  | .tup τ m x => bif wrB C d then some (True, put (drop st t) d (.tup τ m x)) else none
  | _ => none
 | _, _ => none

def stp (C : Ctx) (st : St) (o : Oper) : Option (Prop × St) :=
 match o.op with
 | .move x => match mvT C st o x with
  | some r => some r
  | none => pureStp C st o
 | .store T x v => bif isNone o.dst then storeE C st T (viewO st x) (viewO st v) else none
 | .assign x => match o.dst with
  | some d => match (bif wrB C d then ownA C d st (viewO st x) else none) with
   | some r => some r
   | none => pureStp C st o
  | none => none
 | .panic _ => some (False, st)
 | .call q => match appC C st o q with
  | some r => some r
  | none => pureStp C st o
 | _ => pureStp C st o

section
variable {P : Program} {C : Ctx} {N : NP} {w0 : World} {F0 H : NSet} {env : St} {a : Act} {w : World} {F : NSet} {S : Nat -> NSet} {d : Nat}

theorem pend_ok (hi : Inv0 P N w0 F0 H env a w F S) {v : Value} {vw : View} (hv : ViewOK P F w env (fun t => a.tmps.getD t undef) S v vw) {r : Nat} {p : Path} {e : Ty} {me : Md} {x : List e.den} (he : vw.e = .pend r p e me x) :
  ∃ τ m z pl S0 cs y pl' S' Sp, Root F w (S r) (a.tmps.getD r undef) (env r) τ m z pl S0 cs /\ Plug F w τ m S0 pl z p (.slice e) (.own me) pl' S' /\
   getM p τ m = some (.own me) /\ inR p τ z /\ getP p τ z = some ⟨.slice e, y⟩ /\ OwnV F w (.slice e) (.own me) Sp v x /\ Sub Sp (S r) /\ (∀ k, Sp k -> ¬ (S0 k /\ ¬ S' k) /\ ¬ pl.isB k) := by
 have h1 := hv.ent (by rw [he]; rfl) (r + 1) (by rw [he]; simp [Ent.root])
 rw [he] at h1
 simp only [EntOK, if_true] at h1
 obtain ⟨τ0, m0, x0, pl, S0, cs, y, pl', S', Sp, cp, g1, g2, g3, g4, g5, g6, g7, g8, g9⟩ := h1
 simp only [show ¬ (r = r + 1) from by omega, if_false] at g1
 exact ⟨τ0, m0, x0, pl, S0, cs, y, pl', S', Sp, g1, g2, g3, g4, g5, ⟨cp, g6, g7⟩, g8, g9⟩

theorem takeE_ok (hi : Inv0 P N w0 F0 H env a w F S) {v : Value} {vw : View} (hv : ViewOK P F w env (fun t => a.tmps.getD t undef) S v vw) {k : Taken} (h : takeE vw = some k) :
  ∃ Sd, Sub Sd (S k.t) /\ OwnV F w k.τ k.m Sd v k.x := by
 unfold takeE at h
 split at h
 ·rename_i τ m x he
  split at h
  ·rename_i t hs
   simp only [Option.some.injEq] at h;subst h;obtain ⟨t', g1, g2, rfl⟩ := hv.own (by rw [he]; rfl);rw [hs] at g1; injection g1 with g1; subst g1;have h3 := hi.ent t;rw [g2, he] at h3;obtain ⟨pl, S0, cs, h3⟩ := h3;obtain ⟨_, _, e3, e4, e5⟩ := h3.own_inj;subst e4;exact ⟨_, fun _ h => h, cs, e5, h3.2.2⟩
  ·cases h
 ·rename_i r p e me x he
  simp only [Option.some.injEq] at h;subst h;obtain ⟨τ, m, z, pl, S0, cs, y, pl', S', Sp, g1, g2, g3, g4, g5, g6, g7, g8⟩ := pend_ok hi hv he;exact ⟨Sp, g7, g6⟩
 ·rename_i r he
  split at h
  ·rename_i τ m x hr
   simp only [Option.some.injEq] at h;subst h;have h2 := hv.ent (by rw [he]; rfl) (r + 1) (by rw [he]; simp [Ent.root]);rw [he] at h2;simp only [EntOK, if_true] at h2;obtain ⟨τ0, m0, x0, pl, S0, cs, σ', μ, pl', cs', g1, g2, g3, g4, g5, g6, g7⟩ := h2;simp only [show ¬ (r = r + 1) from by omega, if_false] at g1
   have hroot := hv.root
   rw [he] at hroot;simp only [rootE, Ent.root] at hroot;rw [<- hroot, hr] at g1;obtain ⟨e1, e2, e3, e4, e5⟩ := g1.own_inj;injection e1 with e6 e7;subst e6; cases e7; subst e2; subst e3; subst e4;simp only [loc, Option.some.injEq, Prod.mk.injEq] at g2;obtain ⟨rfl, rfl⟩ := g2;simp only [Place.read, Option.some.injEq] at g3;subst g3;exact ⟨_, fun _ h => h, cs, g4, g1.2.2⟩
  ·cases h
 ·cases h

theorem Inv0.takeOver (hi : Inv0 P N w0 F0 H env a w F S) {t : Nat} {τ : Ty} {m : Md} {x : τ.den} {v : Value} {Sd : NSet} (hd : Wr N d) (hs : Sub Sd (S t)) (hv : OwnV F w τ m Sd v x) :
  ∃ F2 S2, Inv0 P N w0 F0 H (Go.Lf.put (Go.Lf.drop env t) d (mkE C d τ m x)) (a.put (some d) v) w F2 S2 := by
 refine (hi.drop t).putNew hd (RowKit.Below.refl _ _) (fun _ h => h) hi.fb (fun b h1 h2 => absurd h1 h2) ?_ hv
 intro b hb
 obtain ⟨h1, h2, h3⟩ := hi.sb t b (hs b hb)
 refine ⟨h1, h2, h3, fun u hu => ?_⟩
 by_cases h : u = t
 ·simp [h] at hu; exact hu
 ·simp only [h, if_false] at hu
  exact hi.sd u t h b hu (hs b hb)

theorem ownA_ok (hi : Inv0 P C.np w0 F0 H env a w F S) (hd : Wr C.np d) {v : Value} {vw : View} (hv : ViewOK P F w env (fun t => a.tmps.getD t undef) S v vw) {c : Prop} {st' : St} (h : ownA C d env vw = some (c, st')) :
  Inv P C.np w0 F0 H st' (a.put (some d) v) w := by
 unfold ownA at h
 cases hb : (isSub vw.e && isNone (look C.mds d))
 ·rw [hb] at h
  simp only [cond_false] at h;split at h
  ·rename_i k hk
   simp only [Option.some.injEq, Prod.mk.injEq] at h;obtain ⟨_, rfl⟩ := h;obtain ⟨Sd, g1, g2⟩ := takeE_ok hi hv hk;exact hi.takeOver hd g1 g2
  ·cases h
 ·rw [hb] at h; cases h

theorem valS_ok (hi : Inv0 P N w0 F0 H env a w F S) {v : Value} {vw : View} (hv : ViewOK P F w env (fun t => a.tmps.getD t undef) S v vw) {σ : Ty} {μ μ' : Md} {l : Al} {y : σ.den} {u : List Nat}
  (h : valS σ μ l vw = some (y, μ', u, false)) : (u = [] /\ OwnV F w σ μ' none' v y) ∨ ∃ t, u = [t] /\ OwnV F w σ μ' (S t) v y := by
 have hsh : ∀ {y : σ.den}, vw.shrAs σ = some y -> OwnV F w σ (bif σ.flat then μ else .shr) none' v y := by
  intro y hy;have := shrAs_ok hi hv hy;cases hf : σ.flat
  ·exact this
  ·exact OwnV.flat hf this
 unfold valS at h
 split at h
 ·rename_i he
  split at h
  ·rename_i z hz
   simp only [Option.some.injEq, Prod.mk.injEq] at h;obtain ⟨rfl, rfl, rfl, _⟩ := h;have := ownAs_ok (e := σ) (m := μ) (x := z) (l := []) hi hv (by unfold View.ownAs; rw [he]; simp [hz]);rcases this with ⟨_, h⟩ | ⟨t, h, _⟩
   ·exact .inl ⟨rfl, h⟩
   ·cases h
  ·split at h
   ·rename_i z hz
    simp only [Option.some.injEq, Prod.mk.injEq] at h;obtain ⟨rfl, rfl, rfl, _⟩ := h;exact .inl ⟨rfl, shrAs_ok hi hv (by unfold View.shrAs; rw [he]; exact hz)⟩
   ·cases h
 ·split at h
  ·rename_i z u' hz
   simp only [Option.some.injEq, Prod.mk.injEq] at h;obtain ⟨rfl, rfl, rfl, _⟩ := h;exact ownAs_ok hi hv hz
  ·cases h
 ·rename_i r he
  split at h
  ·split at h
   ·rename_i z hz
    simp only [Option.some.injEq, Prod.mk.injEq] at h;obtain ⟨rfl, rfl, rfl, _⟩ := h;have hfl : σ.flat = true := by
     unfold View.shrAs at hz;rw [he] at hz;simp only [] at hz;cases hf : σ.flat
     ·rw [hf] at hz; cases hz
     ·rfl
    exact .inl ⟨rfl, OwnV.flat hfl (shrAs_ok hi hv hz)⟩
   ·split at h
    ·rename_i z u' hz
     simp only [Option.some.injEq, Prod.mk.injEq] at h;obtain ⟨rfl, rfl, rfl, _⟩ := h;exact ownR_ok hi hv hz
    ·cases h
  ·split at h
   ·rename_i z hz
    simp only [Option.some.injEq, Prod.mk.injEq] at h;obtain ⟨rfl, rfl, rfl, _⟩ := h;have hfl : σ.flat = true := by
     unfold View.shrAs at hz;rw [he] at hz;simp only [] at hz;cases hf : σ.flat
     ·rw [hf] at hz; cases hz
     ·rfl
    exact .inl ⟨rfl, OwnV.flat hfl (shrAs_ok hi hv hz)⟩
   ·split at h
    ·rename_i z u' hz
     simp only [Option.some.injEq, Prod.mk.injEq] at h;obtain ⟨rfl, rfl, rfl, _⟩ := h;exact ownR_ok hi hv hz
    ·cases h
  ·split at h
   ·rename_i z hz
    simp only [Option.some.injEq, Prod.mk.injEq] at h;obtain ⟨rfl, rfl, rfl, _⟩ := h;exact .inl ⟨rfl, hsh hz⟩
   ·cases h
 ·rename_i r p e me x he
  cases hb : (Nat.beq r l.r && decide (μ = .own me))
  ·rw [hb] at h; cases h
  ·rw [hb] at h
   simp only [cond_true] at h;split at h
   ·simp only [Option.some.injEq, Prod.mk.injEq] at h
    obtain ⟨_, _, _, h⟩ := h;cases h
   ·cases h
 ·split at h
  ·rename_i z hz
   simp only [Option.some.injEq, Prod.mk.injEq] at h;obtain ⟨rfl, rfl, rfl, _⟩ := h;exact .inl ⟨rfl, hsh hz⟩
  ·cases h

theorem valS_pend {vw : View} {σ : Ty} {μ μ' : Md} {l : Al} {y : σ.den} {u : List Nat} (h : valS σ μ l vw = some (y, μ', u, true)) :
  ∃ p e me x, vw.e = .pend l.r p e me x /\ μ = .own me /\ μ' = μ /\ u = [] /\ (⟨.slice e, x⟩ : Σ τ : Ty, τ.den) = ⟨σ, y⟩ := by
 unfold valS at h
 split at h
 ·split at h
  ·simp only [Option.some.injEq, Prod.mk.injEq] at h; obtain ⟨_, _, _, h⟩ := h; cases h
  ·split at h
   ·simp only [Option.some.injEq, Prod.mk.injEq] at h; obtain ⟨_, _, _, h⟩ := h; cases h
   ·cases h
 ·split at h
  ·simp only [Option.some.injEq, Prod.mk.injEq] at h; obtain ⟨_, _, _, h⟩ := h; cases h
  ·cases h
 ·split at h
  ·split at h
   ·simp only [Option.some.injEq, Prod.mk.injEq] at h; obtain ⟨_, _, _, h⟩ := h; cases h
   ·split at h
    ·simp only [Option.some.injEq, Prod.mk.injEq] at h; obtain ⟨_, _, _, h⟩ := h; cases h
    ·cases h
  ·split at h
   ·simp only [Option.some.injEq, Prod.mk.injEq] at h; obtain ⟨_, _, _, h⟩ := h; cases h
   ·split at h
    ·simp only [Option.some.injEq, Prod.mk.injEq] at h; obtain ⟨_, _, _, h⟩ := h; cases h
    ·cases h
  ·split at h
   ·simp only [Option.some.injEq, Prod.mk.injEq] at h; obtain ⟨_, _, _, h⟩ := h; cases h
   ·cases h
 ·rename_i r p e me x he
  cases hb : (Nat.beq r l.r && decide (μ = .own me))
  ·rw [hb] at h; cases h
  ·rw [hb] at h
   simp only [cond_true] at h;simp only [Bool.and_eq_true, nbeq_iff, decide_eq_true_eq] at hb;obtain ⟨h1, h3⟩ := hb;split at h
   ·rename_i z hz
    simp only [Option.some.injEq, Prod.mk.injEq] at h;obtain ⟨rfl, rfl, rfl, _⟩ := h;exact ⟨p, e, me, x, by rw [he, h1], h3, rfl, rfl, castD_some hz⟩
   ·cases h
 ·split at h
  ·simp only [Option.some.injEq, Prod.mk.injEq] at h; obtain ⟨_, _, _, h⟩ := h; cases h
  ·cases h

theorem storeE_ok (hC : CtxOK P C) (hi : Inv0 P N w0 F0 H env a w F S) {T : TypeId} {x z : Operand} {o : Oper} (ho : o.op = .store T x z) (hod : o.dst = none) {vx vz : View}
  (hx : ViewOK P F w env (fun t => a.tmps.getD t undef) S (a.eval x) vx) (hz : ViewOK P F w env (fun t => a.tmps.getD t undef) S (a.eval z) vz)
  {c : Prop} {st' : St} (h : storeE C env T vx vz = some (c, st')) (hc : c) {K : Act -> World -> Prop} {Q : Exit -> Act -> World -> Prop} (hK : ∀ a' w', Inv P N w0 F0 H st' a' w' -> K a' w') : o.wp P a w K Q := by
 unfold storeE at h
 split at h
 ·rename_i l hl
  obtain ⟨σ, y0, μ, pl, S0, cs, b, off, hA, hv⟩ := addr?_ok hi hx hl;rw [hA.get, hA.mode] at h;simp only [] at h;cases hT : decide (look C.tys T = some σ)
  ·rw [hT] at h; cases h
  have hT' := of_decide_eq_true hT
  rw [hT] at h;simp only [cond_true] at h;split at h
  ·rename_i y μ' used isP hvs
   split at h
   ·rename_i x' m' hset hmode
    cases hn : nodupN (l.r :: used)
    ·rw [hn] at h; cases h
    rw [hn] at h;simp only [cond_true, Option.some.injEq, Prod.mk.injEq] at h;obtain ⟨rfl, rfl⟩ := h;have hm : μ' = μ /\ m' = l.m ∨ setM l.p l.τ l.m μ' = some m' := by
     unfold modeS at hmode;cases hd : decide (μ' = μ)
     ·rw [hd] at hmode; exact .inr hmode
     ·rw [hd] at hmode
      simp only [cond_true, Option.some.injEq] at hmode;exact .inl ⟨of_decide_eq_true hd, hmode.symm⟩
    obtain ⟨cs2, S', f⟩ := hA.focus (fun b hb => (hi.sb _ b hb).2.2)
    obtain ⟨q1, q2, row, T0, q3, q4, q5⟩ := f.ok;have fin : ∀ w', (storeVar T ⟨b, off, none⟩ (a.eval z)).run P w = .ok () w' -> (execOp a.eval o).run P w = .ok .skip w' := by
     intro w' hw';simp [execOp, ho, Instr.storeAt, hv, Instr.sureAddr, hw']
    cases hfl : flatS σ μ μ' used with
    | true =>
     rw [hfl] at hK;simp only [cond_true] at hK;unfold flatS at hfl;simp only [Bool.and_eq_true, decide_eq_true_eq, List.isEmpty_iff] at hfl;obtain ⟨⟨hs, rfl⟩, rfl⟩ := hfl;have hm' : m' = l.m := by
      unfold modeS at hmode;rw [decide_eq_true rfl] at hmode;simp only [cond_true, Option.some.injEq] at hmode; exact hmode.symm
     subst hm';cases isP with
     | true =>
      obtain ⟨pp, e, me, xs, he, h1, h2, h3, h4⟩ := valS_pend hvs;injection h4 with h5 _;subst h5; cases hs
     | false =>
      have hval := valS_ok hi hz hvs
      have hown : ∃ S1, OwnV F w σ μ' S1 (a.eval z) y := by
       rcases hval with ⟨_, h⟩ | ⟨t, h0, h⟩
       ·exact ⟨none', h⟩
       ·cases h0
      obtain ⟨S1, k2⟩ := hown;obtain ⟨w', g1, g2⟩ := store_scal hC hi hT' hA.root f hs k2 hset;unfold Oper.wp;rw [fin w' g1, Oper.upon_skip, hod];exact hK a w' g2
    | false =>
    rw [hfl] at hK;simp only [cond_false] at hK;have goal : ∀ w', (storeVar T ⟨b, off, none⟩ (a.eval z)).run P w = .ok () w' -> Inv P N w0 F0 H (upd (keepAS (dropAll env used) l.r l.p) l.r (reown (env l.r) l.τ m' x')) a w' -> o.wp P a w K Q := by
     intro w' hw' hinv;unfold Oper.wp;rw [fin w' hw', Oper.upon_skip, hod];exact hK a w' hinv
    have hbS : S l.r b := (f.blk b rfl).elim (hA.root.sub b) hA.root.isB
    cases isP with
    | false =>
     have hval := valS_ok hi hz hvs
     have hown : ∃ S1, Sub S1 (SL S used) /\ OwnV F w σ μ' S1 (a.eval z) y := by
      rcases hval with ⟨rfl, h⟩ | ⟨t, rfl, h⟩
      ·exact ⟨none', fun _ h => h.elim, h⟩
      ·exact ⟨S t, fun b hb => ⟨t, by simp, hb⟩, h⟩
     obtain ⟨S1, k1, k2⟩ := hown;obtain ⟨hnr, _⟩ := nodup_cons hn;have hdis : ∀ k, S1 k -> ¬ S l.r k := by
      intro k hk hr;obtain ⟨t, ht, hk⟩ := k1 k hk;exact hi.sd t l.r (fun e => hnr (e ▸ ht)) k hk hr
     obtain ⟨w', g1, g2⟩ := store_core hC hi hT' hA.root f.toPlug ⟨row, T0, q3, q4⟩ k2 hn (fun k hk => ⟨fun h => hdis k hk (hA.root.sub k h.1), fun h => hdis k hk (hA.root.isB h), .inr (k1 k hk), fun e => hdis k hk (e ▸ hbS)⟩) hset hm hA.get hA.mode hA.inr
     exact goal w' g1 g2
    | true =>
     obtain ⟨pp, e, me, xs, he, h1, h2, h3, h4⟩ := valS_pend hvs;have hpp : pp = l.p := by
      have := hc
      unfold pendC at this;rw [he] at this; exact this
     subst hpp;subst h2; subst h3;obtain ⟨τ, m, z0, pl2, S02, cs3, y2, pl3, S3, Sp, g1, g2, g3, g4, g5, g6, g7, g8⟩ := pend_ok hi hz he;obtain ⟨e1, e2, e3, e4⟩ := g1.uniq hA.root;injection e1 with e5 e6;subst e5; cases e6; subst e2; subst e3; subst e4;injection h4 with h5 h6;subst h5; cases h6; subst h1;have hpl : pl3 = .mem b off := by
      have := g2.loc.symm.trans hA.loc
      simp only [Option.some.injEq, Prod.mk.injEq, true_and] at this;exact this
     subst hpl;obtain ⟨w', k1, k2⟩ := store_core hC hi hT' g1 g2 ⟨row, T0, q3, q4⟩ g6 hn (fun k hk => ⟨(g8 k hk).1, (g8 k hk).2, .inl (g7 k hk), fun e => by
      subst e;have h1 := g2.out k rfl;rcases g2.blk k rfl with h | h
      ·exact (g8 k hk).1 ⟨h, h1⟩
      ·exact (g8 k hk).2 h⟩) hset hm hA.get hA.mode hA.inr
     exact goal w' k1 k2
   ·cases h
  ·cases h
 ·cases h

theorem pureStp_ok (hC : CtxOK P C) (hi : Inv0 P C.np w0 F0 H env a w F S) {o : Oper} {c : Prop} {st' : St} (h : pureStp C env o = some (c, st')) (hc : c) {K : Act -> World -> Prop} {Q : Exit -> Act -> World -> Prop}
  (hK : ∀ a' w', Inv P C.np w0 F0 H st' a' w' -> K a' w') : o.wp P a w K Q := by
 unfold pureStp at h
 split at h
 ·rename_i d c' e l hd ho
  simp only [Option.some.injEq, Prod.mk.injEq] at h;obtain ⟨rfl, rfl⟩ := h;have hv : VOK P F w env a S o.op (viewO env) := by
   unfold VOK;split
   ·exact ⟨viewO_ok hi _, fun _ _ _ => viewO_ok hi _, fun _ _ _ => viewO_ok hi _⟩
   ·exact fun z _ => viewO_ok hi z
  obtain ⟨d', h1, _, h2⟩ := opE_ok hC hi hv ho hc;rw [hd] at h1; injection h1 with h1; subst h1;exact h2 K Q (fun v w' F2 S2 h => hK _ _ ⟨F2, S2, h⟩)
 ·cases h

theorem appC_ok (hC : CtxOK P C) (hi : Inv0 P C.np w0 F0 H env a w F S) {o : Oper} {q : Call} (ho : o.op = .call q) {c : Prop} {st' : St} (h : appC C env o q = some (c, st')) (hc : c) {K : Act -> World -> Prop} {Q : Exit -> Act -> World -> Prop}
  (hK : ∀ a' w', Inv P C.np w0 F0 H st' a' w' -> K a' w') : o.wp P a w K Q := by
 obtain ⟨callee, args, ts⟩ := q
 unfold appC at h
 split at h
 ·rename_i x y T T2 d hcal hargs hts hd
  simp only [] at hcal hargs hts;cases hb : wrB C d
  ·rw [hb] at h; cases h
  rw [hb] at h;simp only [cond_true] at h;have e1 : args = #[x, y] := by apply Array.ext'; simpa using hargs
  have e2 : ts = #[T, T2] := by apply Array.ext'; simpa using hts
  subst e1; subst e2; subst hcal;have hx := viewO_ok hi x;have hy := viewO_ok hi y;unfold appE at h;split at h
  ·rename_i e e2 r p al hT hT2 he hs
   obtain ⟨σ, z, μ, pl, S0, cs, pl', cs', hA, hrd, hv⟩ := sub?_ok hi hx hs;split at h
   ·rename_i e' xs' me hg hm
    split at h
    ·rename_i xs ys l hcast hsrc
     cases hn : (nodupN (al.r :: l) && !Nat.beq d al.r)
     ·rw [hn] at h; cases h
     rw [hn] at h;simp only [cond_true, Option.some.injEq, Prod.mk.injEq] at h;obtain ⟨rfl, rfl⟩ := h;simp only [Bool.and_eq_true, Bool.not_eq_true'] at hn;have hdr : d ≠ al.r := fun h => by rw [nbeq_iff.2 h] at hn; exact absurd hn.2 (by simp)
     obtain ⟨rfl, rfl⟩ := castD_slice hcast;have e3 := hA.get.symm.trans hg;simp only [Option.some.injEq, Sigma.mk.injEq] at e3;obtain ⟨rfl, e3⟩ := e3; cases e3;have e4 := hA.mode.symm.trans hm;simp only [Option.some.injEq] at e4; subst e4;obtain ⟨ao2, n2, cap2, cs2, Si2, me', q2, hm2⟩ := srcE_ok hi hy hsrc;obtain ⟨v, w', F2, S2, k1, k2⟩ := appE_core (ty := o.type) hC hi (wrB_iff hb) hT hT2 hA hrd (q2.fix hm2) hn.1 hdr (by simpa using hc);unfold Oper.wp;have hrun : (execOp a.eval o).run P w = .ok (.value v) w' := by
      simp only [execOp, ho, resolve, invoke, builtin, Sem.run_bind, Sem.run_pure, Result.andThen, List.map_toArray, List.map_cons, List.map_nil];rw [hv, k1]
     rw [hrun, Oper.upon_value, hd];exact hK _ _ ⟨F2, S2, k2⟩
    ·cases h
   ·cases h
  ·cases h
 ·cases h

theorem mvT_ok (hi : Inv0 P C.np w0 F0 H env a w F S) {o : Oper} {x : Operand} (ho : o.op = .move x) {c : Prop} {env' : St} (h : mvT C env o x = some (c, env')) {K : Act -> World -> Prop} {Q : Exit -> Act -> World -> Prop}
  (hK : ∀ a' w', Inv P C.np w0 F0 H env' a' w' -> K a' w') : o.wp P a w K Q := by
 unfold mvT at h
 split at h
 ·rename_i t d hd
  split at h
  ·rename_i τ m y he
   cases hb : wrB C d
   ·rw [hb] at h; cases h
   rw [hb] at h;simp only [cond_true, Option.some.injEq, Prod.mk.injEq] at h;obtain ⟨_, rfl⟩ := h;have h1 := hi.ent t;rw [he] at h1;obtain ⟨vs, h2, h3⟩ := h1;have hd' := wrB_iff hb;have hVd : (a.put (some d) (a.eval (.tmp t))).tmps.getD d undef = a.eval (.tmp t) := by rw [Act.getD_put (by rw [hi.slots.size]; exact hd'.1), if_pos rfl]
   unfold Oper.wp;have hrun : (execOp a.eval o).run P w = .ok (.value (a.eval (.tmp t))) w := by simp [execOp, ho]
   rw [hrun, Oper.upon_value, hd];refine hK _ _ ⟨F, _, (hi.drop t).put (Sd := S t) hd' (RowKit.Below.refl _ _) (fun _ h => h) hi.fb (fun b h1 h2 => absurd h1 h2) ?_ ?_⟩
   ·intro b hb
    obtain ⟨g1, g2, g3⟩ := hi.sb t b hb;refine ⟨g1, g2, g3, fun u _ hu => ?_⟩
    by_cases h : u = t
    ·simp [h] at hu; exact hu
    ·simp only [h, if_false] at hu
     exact hi.sd u t h b hu hb
   ·simp only [EntOK, if_true, hVd]
    exact ⟨vs, h2, h3⟩
  ·cases h
 ·cases h

theorem stp_ok (hC : CtxOK P C) : StpOK P C (stp C) := by
 intro w0 F0 H env env' a w o c hi h hc K Q hK
 obtain ⟨F, S, hi⟩ := hi
 unfold stp at h
 split at h
 ·rename_i x hop
  split at h
  ·rename_i r hr
   simp only [Option.some.injEq] at h;subst h;exact mvT_ok hi hop hr hK
  ·exact pureStp_ok hC hi h hc hK
 ·rename_i T x v hop
  cases hd : isNone o.dst
  ·rw [hd] at h; cases h
  ·rw [hd] at h
   exact storeE_ok hC hi hop (isNone_iff.1 hd) (viewO_ok hi x) (viewO_ok hi v) h hc hK
 ·rename_i x hop
  split at h
  ·rename_i d hd
   split at h
   ·rename_i r hr
    cases hb : wrB C d
    ·rw [hb] at hr; cases hr
    ·rw [hb] at hr
     simp only [cond_true] at hr;simp only [Option.some.injEq] at h;subst h;have := ownA_ok hi (wrB_iff hb) (viewO_ok hi x) hr;unfold Oper.wp;have hrun : (execOp a.eval o).run P w = .ok (.value (a.eval x)) w := by simp [execOp, hop]
     rw [hrun, Oper.upon_value, hd];exact hK _ _ this
   ·exact pureStp_ok hC hi h hc hK
  ·cases h
 ·simp only [Option.some.injEq, Prod.mk.injEq] at h
  obtain ⟨rfl, _⟩ := h;exact hc.elim
 ·rename_i q hop
  split at h
  ·rename_i r hr
   simp only [Option.some.injEq] at h;subst h;exact appC_ok hC hi hop hr hc hK
  ·exact pureStp_ok hC hi h hc hK
 ·exact pureStp_ok hC hi h hc hK
end
end Go.Lf
namespace Go.Lf
open Go.ChangeShapes Go.WideShapes Go.ChangeAt Go.RowKit

section
variable {P : Program} {H : Type} {enc : TypeId × Value -> H}

theorem argOK_ints {W : World} {base : Nat} {t e : TypeId} {k : IntKind} {v : Value} {d : DataW H} {p : List MemPlace} (ht : P.underlying t = some (.slice e)) (he : P.underlying e = some (.int k)) (hc : P.cellsOf e = 1)
  (hval : Value.okWide P W .any base t v) (h : DataW.Trod enc P W 0 (fun _ => true) true t v d p) (hlt : ∀ x ∈ p, x.block < W.heap.size) (hsz : ∀ xs ys, d = .slice xs ys -> xs.length <= lim) :
  ∃ xs : List Int, OwnV (fun b => b < W.heap.size) W (.slice (.int k)) .shr none' v xs := by
 obtain ⟨a1, len, cap, rfl⟩ := okWide_slice ht hval
 obtain ⟨fuel, hf⟩ := h
 rcases open_ints ht he hc hf with ⟨hcs, hx⟩ | ⟨a, len', cap', zs, hcs, _, hl, hm, hz, hx, hcell, hwz⟩
 ·simp [Value.cells] at hcs
  obtain ⟨rfl, rfl, rfl⟩ := hcs;exact ⟨[], [.slice none 0 0], rfl, none, 0, rfl, Nat.le_refl _, Nat.zero_le _, .inl rfl⟩
 ·simp [Value.cells] at hcs
  obtain ⟨rfl, rfl, rfl⟩ := hcs;simp only [Prod.mk.injEq] at hx;obtain ⟨rfl, rfl⟩ := hx;simp only [if_true] at hz;have hlim : len <= lim := by
   have := hsz _ _ rfl
   simp only [lits, List.length_map, List.length_take] at this;omega
  by_cases hl0 : len = 0
  ·subst hl0
   exact ⟨[], [.slice (some a) 0 cap], rfl, some a, cap, rfl, by simp, by simp, .inl rfl⟩
  ·obtain ⟨b, off, spot⟩ := a
   have hspot : spot = none := by simpa [Addr.add] using World.cell?_spot (hcell 0 (by omega))
   subst hspot;have h0 := hcell 0 (by omega);rw [add_mk] at h0;simp only [World.cell?] at h0;have hb : b < W.heap.size := hlt (.cell b off) (MemPlace.mem_row.2 ⟨0, by omega, by simp⟩)
   have hlen : (zs.take len).length = len := by simp; omega
   split at h0
   ·rename_i row T fr hr
    have hc : ∀ i, i < zs.length -> row[off + i]? = some (.int k (zs.getD i 0)) := by
     intro i hi;have := hcell i hi;rw [add_mk] at this
     simpa [World.cell?, hr] using this
    refine ⟨zs.take len, [.slice (some ⟨b, off, none⟩) len cap], rfl, some ⟨b, off, none⟩, cap, by rw [hlen], by rw [hlen]; exact hl, by rw [hlen]; exact hlim, .inr ⟨b, off, row, T, fr, rfl, hb, hr, ?_, ?_⟩⟩
    ·have := hc (len - 1) (by omega)
     have h1 : off + (len - 1) < row.size := by
      rcases Nat.lt_or_ge (off + (len - 1)) row.size with h | h
      ·exact h
      ·rw [Array.getElem?_eq_none h] at this; cases this
     rw [hlen];simp only [Ty.size, Nat.mul_one];omega
    ·intro i x hx
     have hi : i < len := by
      rcases Nat.lt_or_ge i len with h | h
      ·exact h
      ·rw [List.getElem?_eq_none (by omega)] at hx; cases hx
     have hci := hc i (by omega)
     have hxz : zs.getD i 0 = x := by
      rw [List.getElem?_take, if_pos hi] at hx;simp [hx]
     have hmem : x ∈ zs := by
      rw [List.getElem?_take, if_pos hi] at hx;exact List.mem_of_getElem? hx
     have hw := hwz x hmem
     simp only [Lit.wf, Bool.and_eq_true, decide_eq_true_eq] at hw;refine ⟨?_, hw.1, hw.2⟩;rw [hxz] at hci;simp only [Ty.size, Nat.mul_one];have : row.toList[off + i]? = some (.int k x) := by simpa using hci
     unfold seg;rw [List.drop_eq_getElem_cons (by
      rcases Nat.lt_or_ge (off + i) row.toList.length with h | h
      ·exact h
      ·rw [List.getElem?_eq_none h] at this; cases this)]
     rw [List.take_one];simp only [List.head?_cons, Option.toList_some]
     congr 1
     have h2 := List.getElem?_eq_some_iff.1 this
     exact h2.2
   ·cases h0
end
def leaves : Ty -> List Ty
 | .int k => [.int k]
 | .bool => [.bool]
 | .str => [.str]
 | .unit => []
 | .prod a b => leaves a ++ leaves b
 | .slice e => [.slice e]
 | .abs k => [.abs k]
 | .arr n e => (List.replicate n (leaves e)).flatten
def LeafOK : Ty -> Value -> Prop
 | .int k, v => ∃ n, v = .int k n /\ k.min <= n /\ n <= k.max
 | .bool, v => ∃ b, v = .bool b
 | _, _ => False
def Lv : List Ty -> List Value -> Prop
 | [], [] => True
 | l :: ls, v :: vs => LeafOK l v /\ Lv ls vs
 | _, _ => False
theorem Lv.split : ∀ {a b : List Ty} {cs : List Value}, Lv (a ++ b) cs -> ∃ c1 c2, cs = c1 ++ c2 /\ Lv a c1 /\ Lv b c2
 | [], b, cs, h => ⟨[], cs, rfl, trivial, h⟩
 | l :: a, b, [], h => by simp [Lv] at h
 | l :: a, b, v :: cs, h => by
  obtain ⟨c1, c2, rfl, h1, h2⟩ := Lv.split (a := a) h.2;exact ⟨v :: c1, c2, rfl, ⟨h.1, h1⟩, h2⟩
section
variable {F : NSet} {w : World}
theorem own_leaves : ∀ (τ : Ty) (cs : List Value), Lv (leaves τ) cs -> ∃ x : τ.den, Own F w τ .shr none' cs x
 | .int k, cs, h => by
  match cs, h with
  | [v], h =>
   obtain ⟨n, rfl, h1, h2⟩ := h.1;exact ⟨n, rfl, h1, h2⟩
 | .bool, cs, h => by
  match cs, h with
  | [v], h =>
   obtain ⟨b, rfl⟩ := h.1;exact ⟨b, rfl⟩
 | .str, cs, h => by
  match cs, h with
  | [v], h => exact h.1.elim
 | .unit, cs, h => by
  match cs, h with
  | [], _ => exact ⟨(), rfl⟩
 | .abs k, cs, h => by
  match cs, h with
  | [v], h => exact h.1.elim
 | .slice e, cs, h => by
  match cs, h with
  | [v], h => exact h.1.elim
 | .prod a b, cs, h => by
  obtain ⟨c1, c2, rfl, h1, h2⟩ := Lv.split h;obtain ⟨x, hx⟩ := own_leaves a c1 h1;obtain ⟨y, hy⟩ := own_leaves b c2 h2;exact ⟨(x, y), c1, c2, none', none', rfl, fun _ h => h, fun _ h => h, fun _ h _ => h, hx, hy⟩
 | .arr n e, cs, h => by
  have key : ∀ (n : Nat) (cs : List Value), Lv (List.replicate n (leaves e)).flatten cs -> ∃ xs : List e.den, xs.length = n /\ cs.length = n * e.size /\ ∀ (i : Nat) (x : e.den), xs[i]? = some x -> Own F w e .shr none' (seg cs (i * e.size) e.size) x := by
   intro n
   induction n with
   | zero =>
    intro cs h
    match cs, h with
    | [], _ => exact ⟨[], rfl, by simp, fun i x h => by simp at h⟩
   | succ n ih =>
    intro cs h;rw [List.replicate_succ, List.flatten_cons] at h;obtain ⟨c1, c2, rfl, h1, h2⟩ := Lv.split h;obtain ⟨x, hx⟩ := own_leaves e c1 h1;obtain ⟨xs, g1, g2, g3⟩ := ih c2 h2;have hl := hx.len;refine ⟨x :: xs, by simp [g1], by rw [List.length_append, hl, g2, Nat.succ_mul]; omega, fun i y hy => ?_⟩
    match i, hy with
    | 0, hy =>
     simp only [List.getElem?_cons_zero, Option.some.injEq] at hy;subst hy;unfold seg;rw [Nat.zero_mul, List.drop_zero, <- hl, List.take_left];exact hx
    | i + 1, hy =>
     simp only [List.getElem?_cons_succ] at hy;have := g3 i y hy;have e1 : seg (c1 ++ c2) ((i + 1) * e.size) e.size = seg c2 (i * e.size) e.size := by
      unfold seg;rw [Nat.succ_mul, <- hl, Nat.add_comm, List.drop_length_add_append]
     rw [e1]; exact this
  obtain ⟨xs, h1, h2, h3⟩ := key n cs h;exact ⟨xs, h1, h2, fun _ => none', fun _ _ h => h, fun _ _ _ _ h _ => h, h3⟩
end
def LeafTy (P : Program) : Ty -> TypeId -> Prop
 | .int k, u => P.underlying u = some (.int k)
 | .bool, u => P.underlying u = some .bool
 | _, _ => False
theorem arg_agg {P : Program} {W : World} {base : Nat} {t : TypeId} {v : Value} {τ : Ty} {ts : List TypeId} (hu : (∃ fs, P.underlying t = some (.struct fs)) ∨ ∃ n e, P.underlying t = some (.array n e)) (hτ : τ.isAgg = true)
  (hts : P.cellTypes P.depth t = some ts) (hc : P.cellsOf t = ts.length) (hl : (leaves τ).length = ts.length) (hL : ∀ (i : Nat) l u, (leaves τ)[i]? = some l -> ts[i]? = some u -> LeafTy P l u)
  (h : Value.okWide P W .any base t v) (F : NSet) : ∃ x : τ.den, OwnV F W τ .shr none' v x := by
 have h' : ∃ cs, v = .agg cs /\ cs.size = P.cellsOf t /\ Row.okWide P W .any base t cs := by
  rcases hu with ⟨fs, hu⟩ | ⟨n, e, hu⟩
  ·simpa only [Value.okWide, hu] using h
  ·simpa only [Value.okWide, hu] using h
 obtain ⟨cs, rfl, hs, ts', hts', _, hcell⟩ := h'
 rw [hts] at hts'
 cases hts'
 have hlv : ∀ (ls : List Ty) (us : List TypeId) (vs : List Value), ls.length = us.length -> vs.length = us.length -> (∀ (i : Nat) l u, ls[i]? = some l -> us[i]? = some u -> LeafTy P l u) -> (∀ (i : Nat) v u, vs[i]? = some v -> us[i]? = some u -> Cell.okWide P W .any base u v) -> Lv ls vs := by
  intro ls
  induction ls with
  | nil =>
   intro us vs h1 h2 _ _;simp only [List.length_nil] at h1;have : vs = [] := List.length_eq_zero_iff.1 (by omega);subst this;exact trivial
  | cons l ls ih =>
   intro us vs h1 h2 h3 h4
   match us, vs, h1, h2 with
   | u :: us, v :: vs, h1, h2 =>
    simp only [List.length_cons] at h1 h2;refine ⟨?_, ih us vs (by omega) (by omega) (fun i l u a b => h3 (i + 1) l u (by simpa using a) (by simpa using b)) (fun i v u a b => h4 (i + 1) v u (by simpa using a) (by simpa using b))⟩
    have a := h3 0 l u rfl rfl
    have b := h4 0 v u rfl rfl
    match l, a with
    | .int k, a =>
     have a : P.underlying u = some (.int k) := a
     obtain ⟨n, rfl⟩ := okWide_int (w := W) (r := .any) (base := base) (v := v) a (by simpa only [Value.okWide, a] using b);simp only [Cell.okWide, a] at b;simp [Cell.ok, a] at b;exact ⟨n, rfl, b.1, b.2⟩
    | .bool, a =>
     have a : P.underlying u = some .bool := a
     obtain ⟨n, rfl⟩ := okWide_bool (w := W) (r := .any) (base := base) (v := v) a (by simpa only [Value.okWide, a] using b);exact ⟨n, rfl⟩
 have hlen : cs.toList.length = ts.length := by rw [Array.length_toList, hs, hc]
 obtain ⟨x, hx⟩ := own_leaves (F := F) (w := W) τ cs.toList (hlv (leaves τ) ts cs.toList hl hlen hL (fun i v u hv hu' => by
  have hi : i < ts.length := by
   rcases Nat.lt_or_ge i ts.length with h | h
   ·exact h
   ·rw [List.getElem?_eq_none (by omega)] at hu'; cases hu'
  obtain ⟨u', h1, h2⟩ := hcell i v (by simpa using hv);rw [Nat.mod_eq_of_lt hi, hu'] at h1;cases h1;exact h2))
 exact ⟨x, cs.toList, by unfold slotv; rw [if_pos hτ], hx⟩

theorem arg_num {P : Program} {W : World} {base : Nat} {t : TypeId} {k : IntKind} {v : Value} (ht : P.underlying t = some (.int k)) (h : Value.okWide P W .any base t v) (F : NSet) :
  ∃ n : Int, OwnV F W (.int k) .shr none' v n := by
 obtain ⟨n, rfl⟩ := okWide_int ht h
 simp only [Value.okWide, ht, Cell.okWide] at h
 simp [Cell.ok, ht] at h
 exact ⟨n, OwnV.mk_int _ _ _ _ h.1 h.2⟩
theorem arg_bool {P : Program} {W : World} {base : Nat} {t : TypeId} {v : Value} (ht : P.underlying t = some .bool) (h : Value.okWide P W .any base t v) (F : NSet) :
  ∃ b : Bool, OwnV F W .bool .shr none' v b := by
 obtain ⟨b, rfl⟩ := okWide_bool ht h
 exact ⟨b, OwnV.mk_bool _ _ _ _ _⟩
theorem leaf_of_trod {P : Program} {H : Type} {enc : TypeId × Value -> H} {W : World} {base : Nat} {sp : Nat -> Bool} {hd : Bool} {fuel : Nat} {l : Ty} {u : TypeId} {cs : List Value} {x : DataW H × List MemPlace} (hL : LeafTy P l u)
  (h : DataW.trod enc P W base sp hd fuel u cs = some x) : ∃ v, cs = [v] /\ LeafOK l v := by
 match l, hL with
 | .int k, hL =>
  obtain ⟨n, rfl, _, hw⟩ := DataW.trod_int hL h;simp only [Lit.wf, Bool.and_eq_true, decide_eq_true_eq] at hw;exact ⟨_, rfl, n, rfl, hw.1, hw.2⟩
 | .bool, hL =>
  obtain ⟨b, rfl, _⟩ := DataW.trod_bool hL h;exact ⟨_, rfl, b, rfl⟩
theorem lv_of : ∀ (ls : List Ty) (cs : List Value), cs.length = ls.length -> (∀ (i : Nat) l, ls[i]? = some l -> ∃ v, (cs.drop i).take 1 = [v] /\ LeafOK l v) -> Lv ls cs
 | [], [], _, _ => trivial
 | [], _ :: _, h, _ => by simp at h
 | _ :: _, [], h, _ => by simp at h
 | l :: ls, c :: cs, h, hs => by
  refine ⟨?_, lv_of ls cs (by simpa using h) (fun i l hl => by simpa using hs (i + 1) l (by simpa using hl))⟩
  obtain ⟨v, e, hv⟩ := hs 0 l rfl;simp at e;rw [e]; exact hv
theorem argOK_rows {P : Program} {H : Type} {enc : TypeId × Value -> H} {W : World} {base : Nat} {t e : TypeId} {fs : Array Field} {τ : Ty} {v : Value} {d : DataW H} {p : List MemPlace} (ht : P.underlying t = some (.slice e)) (he : P.underlying e = some (.struct fs))
  (hc : P.cellsOf e = (leaves τ).length) (hs : τ.size = (leaves τ).length) (hpos : 0 < (leaves τ).length)
  (hL : ∀ (i : Nat) l, (leaves τ)[i]? = some l -> ∃ f, fs[i]? = some f /\ f.offset = i /\ P.cellsOf f.type = 1 /\ LeafTy P l f.type)
  (hval : Value.okWide P W .any base t v) (h : DataW.Trod enc P W 0 (fun _ => true) true t v d p) (hlt : ∀ x ∈ p, x.block < W.heap.size) (hsz : ∀ xs ys, d = .slice xs ys -> xs.length <= lim) :
  ∃ xs : List τ.den, OwnV (fun b => b < W.heap.size) W (.slice τ) .shr none' v xs := by
 obtain ⟨a1, len, cap, rfl⟩ := okWide_slice ht hval
 obtain ⟨fuel, hf⟩ := h
 rcases Deep.open_slice ht hf with ⟨hcs, hx⟩ | ⟨a, len', cap', m, n, D, Pl, hcs, _, hl, hm, hmm, hx, hel⟩
 ·simp [Value.cells] at hcs
  obtain ⟨rfl, rfl, rfl⟩ := hcs;exact ⟨[], [.slice none 0 0], rfl, none, 0, rfl, Nat.le_refl _, Nat.zero_le _, .inl rfl⟩
 ·simp [Value.cells] at hcs
  obtain ⟨rfl, rfl, rfl⟩ := hcs;simp only [Prod.mk.injEq] at hx;obtain ⟨rfl, rfl⟩ := hx;simp only [if_true] at hmm;subst hmm;have hlim : len <= lim := by
   have := hsz _ _ rfl
   simpa using this
  by_cases hl0 : len = 0
  ·subst hl0
   exact ⟨[], [.slice (some a) 0 m], rfl, some a, m, rfl, by simp, by simp, .inl rfl⟩
  ·have each : ∀ i, i < len -> ∃ x : τ.den, ∃ cs', W.cells? 0 (a.add (i * P.cellsOf e)) (P.cellsOf e) = some cs' /\ Own (fun b => b < W.heap.size) W τ .shr none' cs' x := by
    intro i hi;obtain ⟨cs', h1, h2⟩ := hel i (by omega);obtain ⟨_, hlen, _⟩ := World.cells?_some h1;obtain ⟨xs, k, _, _, _, hxl, hfl⟩ := DataW.trod_struct he h2;have hlv : Lv (leaves τ) cs' := lv_of _ _ (hlen.trans hc) (fun j l hj => by
     obtain ⟨f, hf, ho, hc1, hLf⟩ := hL j l hj;have := hfl j f (by simpa using hf);rw [ho, hc1] at this;have hjs : j < fs.size := by
      rcases Nat.lt_or_ge j fs.size with h | h
      ·exact h
      ·rw [Array.getElem?_eq_none h] at hf; cases hf
     rw [List.getElem?_eq_getElem (by omega)] at this;exact leaf_of_trod hLf this)
    obtain ⟨x, hx⟩ := own_leaves (F := fun b => b < W.heap.size) (w := W) τ cs' hlv
    exact ⟨x, cs', h1, hx⟩
   haveI : Inhabited τ.den := ⟨τ.dflt⟩
   obtain ⟨g, hg⟩ := Deep.choose_lt each;obtain ⟨b, off, spot⟩ := a;have cells : ∀ i, i < len -> ∀ j, j < P.cellsOf e -> ∃ cs', W.cells? 0 ((⟨b, off, spot⟩ : Addr).add (i * P.cellsOf e)) (P.cellsOf e) = some cs' /\ W.cell? ((⟨b, off, spot⟩ : Addr).add (i * P.cellsOf e + j)) = cs'[j]? /\ Own (fun b => b < W.heap.size) W τ .shr none' cs' (g i) := by
    intro i hi j hj;obtain ⟨cs', h1, h2⟩ := hg i hi;obtain ⟨_, hlen, hcell⟩ := World.cells?_some h1;have := hcell j hj;rw [Deep.add_add] at this;exact ⟨cs', h1, this, h2⟩
   obtain ⟨cs0, h00, h0, _⟩ := cells 0 (by omega) 0 (by omega);obtain ⟨_, hlen0, _⟩ := World.cells?_some h00;have h0' : W.cell? ((⟨b, off, spot⟩ : Addr).add 0) = some (cs0[0]'(by omega)) := by
    rw [List.getElem?_eq_getElem (by omega)] at h0
    simpa using h0
   have hspot : spot = none := by simpa [Addr.add] using World.cell?_spot h0'
   subst hspot;have hb : b < W.heap.size := hlt (.cell b off) (List.mem_append_left _ (MemPlace.mem_row.2 ⟨0, Nat.mul_pos (by omega) (by omega), by simp⟩))
   rw [add_mk] at h0';simp only [World.cell?] at h0';split at h0'
   ·rename_i row T fr hr
    have hcl : ∀ i, i < len -> ∃ cs', cs'.length = P.cellsOf e /\ (∀ j, j < P.cellsOf e -> row[off + (i * P.cellsOf e + j)]? = cs'[j]?) /\ Own (fun b => b < W.heap.size) W τ .shr none' cs' (g i) := by
     intro i hi;obtain ⟨cs', h1, h2⟩ := hg i hi;obtain ⟨_, hlen, hcell⟩ := World.cells?_some h1;refine ⟨cs', hlen, fun j hj => ?_, h2⟩
     have := hcell j hj
     rw [Deep.add_add, add_mk] at this
     simpa [World.cell?, hr] using this
    refine ⟨(List.range len).map g, [.slice (some ⟨b, off, none⟩) len m], rfl, some ⟨b, off, none⟩, m, by simp, by simpa using hl, by simpa using hlim, .inr ⟨b, off, row, T, fr, rfl, hb, hr, ?_, ?_⟩⟩
    ·obtain ⟨cs', hlen, hcell, _⟩ := hcl (len - 1) (by omega)
     have := hcell (P.cellsOf e - 1) (by omega)
     rw [List.getElem?_eq_getElem (by omega)] at this;have h1 : off + ((len - 1) * P.cellsOf e + (P.cellsOf e - 1)) < row.size := by
      rcases Nat.lt_or_ge (off + ((len - 1) * P.cellsOf e + (P.cellsOf e - 1))) row.size with h | h
      ·exact h
      ·rw [Array.getElem?_eq_none h] at this; cases this
     have h2 : (len - 1) * P.cellsOf e + P.cellsOf e = len * P.cellsOf e := by
      rw [<- Nat.succ_mul]; congr 1; omega
     simp only [List.length_map, List.length_range];rw [hs, <- hc];omega
    ·intro i x hx
     have hi : i < len := by
      rcases Nat.lt_or_ge i len with h | h
      ·exact h
      ·rw [List.getElem?_eq_none (by simpa using h)] at hx; cases hx
     have hxg : g i = x := by simpa [hi] using hx
     obtain ⟨cs', hlen, hcell, hown⟩ := hcl i hi;rw [hxg] at hown;have : seg row.toList (off + i * τ.size) τ.size = cs' := by
      rw [hs, <- hc]
      apply List.ext_getElem?
      intro j;unfold seg;rw [List.getElem?_take];split
      ·rename_i hj
       rw [List.getElem?_drop, Array.getElem?_toList, Nat.add_assoc];exact hcell j hj
      ·rw [List.getElem?_eq_none (by omega)]
     rw [this]; exact hown
   ·cases h0'
end Go.Lf
