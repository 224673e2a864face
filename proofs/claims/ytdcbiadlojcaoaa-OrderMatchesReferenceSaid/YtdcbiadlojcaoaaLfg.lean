/- A function, by value: from its body's proposition to its contract. -/
import Derived.Test.YtdcbiadlojcaoaaLff
import Derived.Laws.Sem
set_option linter.unusedVariables false
set_option linter.unusedSimpArgs false
namespace Go.Lf

def floB (o : Oper) : Bool := (match o.guard with
 | none => true
 | some _ => false) && (match o.op, o.dst with
 | .move (.tmp _), some _ => true
 | .extract (.tmp _) _, some _ => true
 | _, _ => false)
def addE (f : Nat) (o : Oper) : Oper := { o with after := o.after.push ⟨f, .data⟩ }
def predB (o : Oper) (m : Nat) : Bool := o.after.toList.all fun e => bif Region.binds .any e then m.testBit e.on else true
def addB (anc : List Nat) (o : Oper) (f j : Nat) : Bool := Nat.blt f j && !(anc.getD j 0).testBit f && predB o (anc.getD j 0)
def fO (anc : List Nat) (of : Oper) (f : Nat) : List Oper -> Nat -> List Oper
 | [], _ => []
 | o :: l, j => (bif addB anc of f j then addE f o else o) :: fO anc of f l (j + 1)
def selB (o : Oper) : Bool := match o.op with
 | .select _ _ => false
 | _ => true
def freeB (ops : Array Oper) (anc : List Nat) (of : Oper) (f : Nat) : List Oper -> Nat -> Bool
 | [], _ => true
 | o :: l, j => selB o && (Nat.beq j f || (anc.getD j 0).testBit f || (anc.getD f 0).testBit j || of.apart ops o) && freeB ops anc of f l (j + 1)
def hoist1 (ops : List Oper) (f : Nat) : List Oper := match ops[f]? with
 | some of => bif floB of && freeB ops.toArray (ancB ops) of f ops 0 then fO (ancB ops) of f ops 0 else ops
 | none => ops
def hoistN : Nat -> List Oper -> List Oper
 | 0, ops => ops
 | n + 1, ops => hoist1 (hoistN n ops) n
def hoist (ops : List Oper) : List Oper := hoistN ops.length ops

section
variable {P : Program} {Q : Exit -> Act -> World -> Prop}

theorem hoistL_get {anc : List Nat} {of : Oper} {f : Nat} : ∀ {l : List Oper} {k : Nat} (j : Nat), (fO anc of f l k)[j]? = (l[j]?).map fun o => bif addB anc of f (k + j) then addE f o else o
 | [], k, j => by simp [fO]
 | o :: l, k, 0 => by simp [fO]
 | o :: l, k, j + 1 => by
  simp only [fO, List.getElem?_cons_succ];rw [hoistL_get (l := l) (k := k + 1) j, show k + 1 + j = k + (j + 1) by omega]

theorem freeB_ok {ops : Array Oper} {anc : List Nat} {of : Oper} {f : Nat} : ∀ {l : List Oper} {k : Nat}, freeB ops anc of f l k = true -> ∀ j o, l[j]? = some o ->
  selB o = true /\ (k + j = f ∨ (anc.getD (k + j) 0).testBit f = true ∨ (anc.getD f 0).testBit (k + j) = true ∨ of.apart ops o = true)
 | [], _, _, j, o, h => by simp at h
 | o :: l, k, h, 0, o', ho => by
  simp only [List.getElem?_cons_zero, Option.some.injEq] at ho;subst ho;simp only [freeB, Bool.and_eq_true, Bool.or_eq_true] at h;refine ⟨h.1.1, ?_⟩;rcases h.1.2 with ((h1 | h1) | h1) | h1
  ·exact .inl (Nat.eq_of_beq_eq_true h1)
  ·exact .inr (.inl h1)
  ·exact .inr (.inr (.inl h1))
  ·exact .inr (.inr (.inr h1))
 | o :: l, k, h, j + 1, o', ho => by
  simp only [List.getElem?_cons_succ] at ho;simp only [freeB, Bool.and_eq_true] at h;have := freeB_ok h.2 j o' ho;rw [show k + 1 + j = k + (j + 1) by omega] at this
  exact this

theorem selB_ok {o : Oper} (h : selB o = true) : ∀ cs b, o.op ≠ .select cs b := by
 intro cs b he
 rw [selB, he] at h; cases h

def onlyN (K : Act -> World -> Prop) : Exit -> Act -> World -> Prop := fun e a w => match e with
 | .normal => K a w
 | _ => False

theorem flo_step {ops : Array Oper} {f : Nat} {of : Oper} (hf : ops[f]? = some of) (hb : floB of = true) {K : Act -> World -> Prop} {K0 : Act -> World -> Prop} {a : Act} {w : World} (h : wpOp P ops (onlyN K0) f K a w) :
  ∃ v, Yields P ops of v a /\ K (a.put of.dst v) w := by
 unfold wpOp at h
 simp only [hf] at h
 unfold floB at hb
 simp only [Bool.and_eq_true] at hb
 obtain ⟨hg, ho⟩ := hb
 have hgn : of.guard = none := by
  cases hgg : of.guard with
  | none => rfl
  | some x => rw [hgg] at hg; cases hg
 have hw : Region.wanted of (yielded ops a.tmps) = true := by simp [Region.wanted, hgn]
 rw [if_pos hw] at h
 have hlet : ¬ LetsOut (onlyN K0) := by rintro ⟨_, _, h⟩; exact h
 rcases h with h | ⟨_, h⟩
 ·unfold Oper.wp at h
  split at ho
  ·rename_i x d hop hd
   have hv : ∀ w, (execOp a.eval of).run P w = .ok (.value (a.eval (.tmp x))) w := by
    intro w; simp [execOp, hop]
   rw [hv, Oper.upon_value] at h;exact ⟨_, .inl ⟨hw, hv⟩, h⟩
  ·rename_i x k d hop hd
   have hcase : (∃ v, ∀ w, (execOp a.eval of).run P w = .ok (.value v) w) ∨ ∀ w, ∃ s w', (execOp a.eval of).run P w = .halt s w' /\ ∀ v, s ≠ .panic v := by
    simp only [execOp, hop];cases hx : a.eval (.tmp x) <;> simp [Instr.extract, stuck];rename_i vs;cases hvs : vs[k]? <;> simp [stuck]
   rcases hcase with ⟨v, hv⟩ | hs
   ·rw [hv, Oper.upon_value] at h
    exact ⟨_, .inl ⟨hw, hv⟩, h⟩
   ·obtain ⟨s, w', h1, h2⟩ := hs w
    rw [h1] at h;cases s <;> first | exact h.elim | exact absurd rfl (h2 _)
  ·cases ho
 ·exact absurd h hlet

section core
variable {ops ops' : Array Oper} {X : Nat -> Bool} {f : Nat} {of : Oper} {K0 : Act -> World -> Prop}

theorem yielded_add (hmap : ∀ i, ops'[i]? = (ops[i]?).map fun o => bif X i then addE f o else o) (t : Array Value) : yielded ops' t = yielded ops t := by
 funext j
 unfold yielded
 rw [hmap j]
 cases ops[j]? with
 | none => rfl
 | some o => simp only [Option.map_some, Option.bind_some]; cases X j <;> rfl

theorem wpOp_add (hmap : ∀ i, ops'[i]? = (ops[i]?).map fun o => bif X i then addE f o else o) {i : Nat} {K : Act -> World -> Prop} {a : Act} {w : World} (h : wpOp P ops' Q i K a w) : wpOp P ops Q i K a w := by
 unfold wpOp at h ⊢
 rw [yielded_add hmap, hmap i] at h
 cases ho : ops[i]? with
 | none => rw [ho] at h; exact h
 | some o =>
  rw [ho] at h;simp only [Option.map_some] at h ⊢;cases hx : X i
  ·rw [hx] at h; exact h
  ·rw [hx] at h; exact h

theorem hoist_core (hmap : ∀ i, ops'[i]? = (ops[i]?).map fun o => bif X i then addE f o else o) (hf : ops[f]? = some of) (hb : floB of = true)
  (hfree : ∀ j o, ops[j]? = some o -> selB o = true /\ (j = f ∨ eT ops j f ∨ eT ops f j ∨ of.apart ops o = true)) (hX : ∀ j, X j = true -> j ≠ f /\ ∀ k, eA ops f k -> eT ops j k) :
  ∀ n, (∀ (listed : Array Bool) (a : Act) (w : World), listed.size = ops.size -> Closed ops (fun j => listed.getD j false) -> (listed.getD f false = true ∨ ¬ ∀ k, eA ops f k -> listed.getD k false = true) ->
    wpAny P .any ops' (onlyN K0) n listed a w -> wpAny P .any ops (onlyN K0) n listed a w) /\
   ∀ (listed : Array Bool) (a : Act) (w : World) (v : Value), listed.size = ops.size -> Closed ops (fun j => listed.getD j false) -> listed.getD f false = false -> (∀ k, eA ops f k -> listed.getD k false = true) -> Yields P ops of v a ->
    wpAny P .any ops' (onlyN K0) n (listed.setIfInBounds f true) (a.put of.dst v) w -> wpAny P .any ops (onlyN K0) (n + 1) listed a w := by
 have hXf : X f = false := by
  cases hx : X f
  ·rfl
  ·exact absurd rfl (hX f hx).1
 have hf' : ops'[f]? = some of := by rw [hmap, hf, hXf]; rfl
 have hflt : f < ops.size := by
  rcases Nat.lt_or_ge f ops.size with h | h
  ·exact h
  ·rw [Array.getElem?_eq_none h] at hf; cases hf
 have hYs : ∀ {v : Value} {a : Act}, Yields P ops' of v a -> Yields P ops of v a := by
  intro v a h;unfold Yields at h ⊢;rw [yielded_add hmap] at h; exact h
 have hpred : ∀ {listed : Array Bool} {i : Nat}, i ∈ Region.ready .any ops listed -> ∀ k, eA ops i k -> listed.getD k false = true := by
  rintro listed i hi k ⟨o, e, g1, g2, g3, rfl⟩
  obtain ⟨_, o', ho, h2⟩ := mem_ready.1 hi;rw [g1] at ho; injection ho with ho; subst ho;exact h2 e g2 g3
 have hmk : ∀ {listed : Array Bool} {i : Nat}, i ∈ Region.ready .any ops listed -> (X i = true -> listed.getD f false = true) -> i ∈ Region.ready .any ops' listed := by
  intro listed i hi hx;obtain ⟨h1, o, ho, h2⟩ := mem_ready.1 hi;refine mem_ready.2 ⟨h1, _, by rw [hmap, ho]; rfl, ?_⟩
  intro e he hbd;cases hxi : X i
  ·rw [hxi] at he; exact h2 e he hbd
  ·rw [hxi] at he
   simp only [cond_true, addE, Array.mem_push] at he;rcases he with he | rfl
   ·exact h2 e he hbd
   ·exact hx hxi
 have hsize : ∀ {listed : Array Bool} (i : Nat), listed.size = ops.size -> (listed.setIfInBounds i true).size = ops.size := by
  intro listed i h; simpa using h
 have hclose : ∀ {listed : Array Bool} {i : Nat}, listed.size = ops.size -> Closed ops (fun j => listed.getD j false) -> i ∈ Region.ready .any ops listed -> Closed ops (fun j => (listed.setIfInBounds i true).getD j false) := by
  intro listed i hs hc hi j k hj hw;by_cases hji : i = j
  ·subst hji; exact getD_set_true (hpred hi k hw)
  ·simp only at hj
   rw [getD_set_ne false hji] at hj;exact getD_set_true (hc j k hj hw)
 intro n
 induction n using Nat.strongRecOn with
 | _ n ih =>
  have hA : ∀ (listed : Array Bool) (a : Act) (w : World), listed.size = ops.size -> Closed ops (fun j => listed.getD j false) -> (listed.getD f false = true ∨ ¬ ∀ k, eA ops f k -> listed.getD k false = true) ->
    wpAny P .any ops' (onlyN K0) n listed a w -> wpAny P .any ops (onlyN K0) n listed a w := by
   intro listed a w hs hc hnp h;have hR : ∀ i, i ∈ Region.ready .any ops listed -> i ∈ Region.ready .any ops' listed := by
    intro i hi;refine hmk hi fun hx => ?_
    rcases hnp with h | h
    ·exact h
    ·exact absurd (fun k hk => bO hc (hpred hi) ((hX i hx).2 k hk)) h
   have hnil : Region.ready .any ops' listed = [] -> Region.ready .any ops listed = [] := by
    intro h0;refine List.eq_nil_iff_forall_not_mem.2 fun i hi => ?_
    have := hR i hi
    rw [h0] at this; cases this
   cases n with
   | zero => exact ⟨hnil h.1, h.2⟩
   | succ n =>
    have hnil2 : Region.ready .any ops listed = [] -> Region.ready .any ops' listed = [] := by
     intro h0;refine List.eq_nil_iff_forall_not_mem.2 fun i hi => ?_
     have hi' : i ∈ Region.ready .any ops listed := by
      obtain ⟨h1, o, ho, h2⟩ := mem_ready.1 hi;rw [hmap] at ho;cases hoi : ops[i]? with
      | none => rw [hoi] at ho; cases ho
      | some o' =>
       rw [hoi] at ho;simp only [Option.map_some, Option.some.injEq] at ho;refine mem_ready.2 ⟨h1, o', hoi, fun e he hbd => h2 e ?_ hbd⟩
       rw [<- ho];cases X i
       ·exact he
       ·simp only [cond_true, addE, Array.mem_push]; exact .inl he
     rw [h0] at hi'; cases hi'
    refine ⟨fun h0 => h.1 (hnil2 h0), fun i hi => ?_⟩
    refine wpOp_mono ?_ (wpOp_add hmap (h.2 i (hR i hi)))
    intro a' w' h';have hs1 := hsize (listed := listed) i hs;have hc1 := hclose hs hc hi;by_cases hp : (listed.setIfInBounds i true).getD f false = true ∨ ¬ ∀ k, eA ops f k -> (listed.setIfInBounds i true).getD k false = true
    ·exact (ih n (by omega)).1 _ _ _ hs1 hc1 hp h'
    ·have hp1 : (listed.setIfInBounds i true).getD f false = false := by
      cases hh : (listed.setIfInBounds i true).getD f false
      ·rfl
      ·exact absurd (.inl hh) hp
     have hp2 : ∀ k, eA ops f k -> (listed.setIfInBounds i true).getD k false = true := Classical.not_not.1 fun hh => hp (.inr hh)
     have hrf : f ∈ Region.ready .any ops' (listed.setIfInBounds i true) := by
      refine mem_ready.2 ⟨?_, of, hf', fun e he hbd => hp2 _ ⟨of, e, hf, he, hbd, rfl⟩⟩
      have hl : f < (listed.setIfInBounds i true).size := by rw [hs1]; exact hflt
      simp only [Array.getD_eq_getD_getElem?, Array.getElem?_eq_getElem hl, Option.getD_some] at hp1 ⊢;exact hp1
     cases n with
     | zero => rw [h'.1] at hrf; cases hrf
     | succ m =>
      obtain ⟨v, hy, h2⟩ := flo_step hf' hb (h'.2 f hrf);exact (ih m (by omega)).2 _ _ _ v hs1 hc1 hp1 hp2 (hYs hy) h2
  refine ⟨hA, ?_⟩
  intro listed a w v hs hc hfl hfp hy h;have hrf : f ∈ Region.ready .any ops listed := by
   refine mem_ready.2 ⟨?_, of, hf, fun e he hbd => hfp _ ⟨of, e, hf, he, hbd, rfl⟩⟩
   have hl : f < listed.size := by rw [hs]; exact hflt
   simp only [Array.getD_eq_getD_getElem?, Array.getElem?_eq_getElem hl, Option.getD_some] at hfl ⊢;exact hfl
  refine ⟨fun h0 => (by rw [h0] at hrf; cases hrf), fun i hi => ?_⟩
  have hsf : (listed.setIfInBounds f true).getD f false = true := by
   have hl : f < listed.size := by rw [hs]; exact hflt
   simp [hl]
  by_cases hif : i = f
  ·subst hif
   exact Yields.wpOp hf hy (hA _ _ _ (hsize _ hs) (hclose hs hc hrf) (.inl hsf) h)
  ·have hri : i ∈ Region.ready .any ops' (listed.setIfInBounds f true) := hmk (ready_mono hi hif) fun _ => hsf
   cases n with
   | zero => rw [h.1] at hri; cases hri
   | succ m =>
    obtain ⟨hl, oi, ho, _⟩ := mem_ready.1 hi;obtain ⟨g1, g2⟩ := hfree i oi ho;have hap : of.apart ops oi = true := by
     rcases g2 with g2 | g2 | g2 | g2
     ·exact absurd g2 hif
     ·have := bO hc (hpred hi) g2
      rw [hfl] at this; cases this
     ·have h1 := bO hc hfp g2
      have hlt : i < listed.size := by
       rw [hs];rcases Nat.lt_or_ge i ops.size with h | h
       ·exact h
       ·rw [Array.getElem?_eq_none h] at ho; cases ho
      simp only [Array.getD_eq_getD_getElem?, Array.getElem?_eq_getElem hlt, Option.getD_some] at hl h1;rw [hl] at h1; cases h1
     ·exact g2
    have hsf0 := selB_ok (hfree f of hf).1
    refine wpOp_mono ?_ (wpOp_put ho hap hsf0 (selB_ok g1) (fun c a w h => h) hy (wpOp_add hmap (h.2 i hri)))
    rintro a' w' ⟨hy', h'⟩
    have hcomm : (listed.setIfInBounds f true).setIfInBounds i true = (listed.setIfInBounds i true).setIfInBounds f true := Array.setIfInBounds_comm _ _ (fun e => hif e.symm)
    rw [hcomm] at h';refine (ih m (by omega)).2 _ _ _ v (hsize _ hs) (hclose hs hc hi) ?_ (fun k hk => getD_set_true (hfp k hk)) hy' h'
    rw [getD_set_ne false hif]; exact hfl
end core

theorem hoist1_ok {ops : List Oper} {f : Nat} {K0 : Act -> World -> Prop} {a : Act} {w : World} (h : RegW P (hoist1 ops f).toArray true (onlyN K0) a w) : RegW P ops.toArray true (onlyN K0) a w := by
 unfold hoist1 at h
 split at h
 ·rename_i of hf
  cases hb : (floB of && freeB ops.toArray (ancB ops) of f ops 0)
  ·rw [hb] at h; exact h
  rw [hb] at h;simp only [cond_true] at h;simp only [Bool.and_eq_true] at hb;have hlen : (fO (ancB ops) of f ops 0).toArray.size = ops.toArray.size := by
   have : ∀ (l : List Oper) k, (fO (ancB ops) of f l k).length = l.length := by
    intro l; induction l with
    | nil => intro k; rfl
    | cons o l ih => intro k; simp [fO, ih]
   simpa using this ops 0
  have hmap : ∀ i, (fO (ancB ops) of f ops 0).toArray[i]? = (ops.toArray[i]?).map fun o => bif addB (ancB ops) of f i then addE f o else o := by
   intro i;have := hoistL_get (anc := ancB ops) (of := of) (f := f) (l := ops) (k := 0) i
   simpa using this
  have hf' : ops.toArray[f]? = some of := by simpa using hf
  have hfree : ∀ j o, ops.toArray[j]? = some o -> selB o = true /\ (j = f ∨ eT ops.toArray j f ∨ eT ops.toArray f j ∨ of.apart ops.toArray o = true) := by
   intro j o ho;obtain ⟨g1, g2⟩ := freeB_ok hb.2 j o (by simpa using ho);rw [Nat.zero_add] at g2;exact ⟨g1, g2.imp id (Or.imp ancB_ok (Or.imp ancB_ok id))⟩
  have hX : ∀ j, addB (ancB ops) of f j = true -> j ≠ f /\ ∀ k, eA ops.toArray f k -> eT ops.toArray j k := by
   intro j hj;simp only [addB, Bool.and_eq_true] at hj;refine ⟨fun e => by rw [e, blt_self] at hj; simp at hj, ?_⟩
   rintro k ⟨o, e, q1, q2, q3, rfl⟩
   rw [hf'] at q1; injection q1 with q1; subst q1;have := List.all_eq_true.1 hj.2 e (by simpa using q2);rw [q3] at this;exact ancB_ok this
  have hcore := fun n => hoist_core (P := P) (K0 := K0) hmap hf' hb.1 hfree hX n
  ·show wpAny P .any ops.toArray (onlyN K0) ops.toArray.size (Array.replicate ops.toArray.size false) a _
   have h : wpAny P .any (fO (ancB ops) of f ops 0).toArray (onlyN K0) (fO (ancB ops) of f ops 0).toArray.size (Array.replicate (fO (ancB ops) of f ops 0).toArray.size false) a { w with drawn := w.drawn + 1 } := h
   rw [hlen] at h;have hrep : ∀ j, (Array.replicate ops.toArray.size false).getD j false = false := by
    intro j; simp [Array.getD_eq_getD_getElem?, Array.getElem?_replicate]; split <;> rfl
   have hcl : Closed ops.toArray (fun j => (Array.replicate ops.toArray.size false).getD j false) := by
    intro i k hi; simp only [hrep] at hi; cases hi
   by_cases hp : ∀ k, eA ops.toArray f k -> (Array.replicate ops.toArray.size false).getD k false = true
   ·
    have hXf : addB (ancB ops) of f f = false := by simp [addB, blt_self]
    have hrf : f ∈ Region.ready .any (fO (ancB ops) of f ops 0).toArray (Array.replicate ops.toArray.size false) := by
     have hflt : f < ops.toArray.size := by
      rcases Nat.lt_or_ge f ops.toArray.size with h | h
      ·exact h
      ·rw [Array.getElem?_eq_none h] at hf'; cases hf'
     refine mem_ready.2 ⟨?_, of, by rw [hmap, hf', hXf]; rfl, fun e he hbd => hp _ ⟨of, e, hf', he, hbd, rfl⟩⟩
     simp [Array.getD_eq_getD_getElem?, Array.getElem?_replicate]
     rw [if_pos (by simpa using hflt)]; rfl
    generalize hn : ops.toArray.size = n at *
    cases n with
    | zero =>
     rw [h.1] at hrf; cases hrf
    | succ m =>
     have hXf' : (fO (ancB ops) of f ops 0).toArray[f]? = some of := by rw [hmap, hf', hXf]; rfl
     obtain ⟨v, hy, h2⟩ := flo_step hXf' hb.1 (h.2 f hrf);have hy' : Yields P ops.toArray of v a := by
      unfold Yields at hy ⊢;rw [yielded_add hmap] at hy; exact hy
     exact (hcore m).2 _ _ _ v (by simp) hcl (hrep f) hp hy' h2
   ·exact (hcore _).1 _ _ _ (by simp) hcl (.inr hp) h
 ·exact h

theorem hoistN_ok {ops : List Oper} {K0 : Act -> World -> Prop} {a : Act} {w : World} : ∀ n, RegW P (hoistN n ops).toArray true (onlyN K0) a w -> RegW P ops.toArray true (onlyN K0) a w
 | 0, h => h
 | n + 1, h => hoistN_ok n (hoist1_ok h)
theorem hoist_ok {ops : List Oper} {K0 : Act -> World -> Prop} {a : Act} {w : World} (h : RegW P (hoist ops).toArray true (onlyN K0) a w) : RegW P ops.toArray true (onlyN K0) a w := hoistN_ok _ h
end
end Go.Lf
namespace Go.Lf

def d7 : List Oper -> Nat -> List (Nat × Oper)
 | [], _ => []
 | o :: l, i => (i, o) :: d7 l (i + 1)
def dstB (o : Oper) : Bool := match o.dst with
 | some _ => true
 | none => false
def permL (ops : List Oper) : List (Nat × Oper) := (d7 ops 0).filter (fun x => dstB x.2) ++ (d7 ops 0).filter (fun x => !dstB x.2)
def bitsY (a : Nat) : List Nat -> Nat -> Nat
 | [], _ => 0
 | p :: l, j => (bif a.testBit p then 2 ^ j else 0) ||| bitsY a l (j + 1)
def ancY (anc : List Nat) (zs : List (Nat × Oper)) : List Nat := zs.map fun x => bitsY (anc.getD x.1 0) (zs.map (·.1)) 0
def noG : List Oper -> Bool
 | [] => true
 | o :: l => isNone o.guard && noG l
def raceY1 (anc : List Nat) (r : Row) (i : Nat) : List Row -> Nat -> Bool
 | [], _ => true
 | q :: l, j => (Nat.beq j i || !touchB q r.rs || ((anc.getD i 0).testBit j && Nat.blt j i) || ((anc.getD j 0).testBit i && Nat.blt i j)) && raceY1 anc r i l (j + 1)
def raceY (anc : List Nat) (rows : List Row) : List Row -> Nat -> Bool
 | [], _ => true
 | r :: l, i => raceY1 anc r i rows 0 && raceY anc rows l (i + 1)

def regionY (C : Ctx) (st : St) (ops : List Oper) : Option (Prop × St) :=
 match genRows false C st ((permL ops).map (·.2)) [] with
 | (c, rows, tail) => match lateL C rows st (ancY (ancB ops) (permL ops)) true tail rows.length with
  | some ls => bif bK (tgts ls) && zFreeL (tgts ls) tail && noG ops && lowB ops 0 && raceY (ancY (ancB ops) (permL ops)) rows rows 0 then some (c, stF (rows.map (cM (fun _ => true) ls)) st) else none
  | none => none

theorem bitsY_ok {a k : Nat} : ∀ {l : List Nat} {j : Nat}, (bitsY a l j).testBit k = true -> ∃ i p, l[i]? = some p /\ k = j + i /\ a.testBit p = true
 | [], j, h => by simp [bitsY] at h
 | p :: l, j, h => by
  simp only [bitsY, Nat.testBit_or, Bool.or_eq_true] at h;rcases h with h | h
  ·cases ha : a.testBit p
   ·rw [ha] at h; simp at h
   ·rw [ha] at h
    simp only [cond_true, Nat.testBit_two_pow, decide_eq_true_eq] at h;exact ⟨0, p, rfl, by omega, ha⟩
  ·obtain ⟨i, q, h1, h2, h3⟩ := bitsY_ok h
   exact ⟨i + 1, q, by simpa using h1, by omega, h3⟩
theorem permI_get : ∀ {l : List Oper} {n : Nat} {x : Nat × Oper}, x ∈ d7 l n -> n <= x.1 /\ l[x.1 - n]? = some x.2
 | [], n, x, h => by cases h
 | o :: l, n, x, h => by
  rcases List.mem_cons.1 h with rfl | h
  ·simp
  ·obtain ⟨h1, h2⟩ := permI_get h
   refine ⟨by omega, ?_⟩
   rw [show x.1 - n = (x.1 - (n + 1)) + 1 from by omega, List.getElem?_cons_succ]
   exact h2
theorem permI_has : ∀ {l : List Oper} {n k : Nat} {o : Oper}, l[k]? = some o -> (n + k, o) ∈ d7 l n
 | [], n, k, o, h => by simp at h
 | p :: l, n, 0, o, h => by
  simp only [List.getElem?_cons_zero, Option.some.injEq] at h;subst h;exact List.mem_cons_self
 | p :: l, n, k + 1, o, h => by
  have := permI_has (n := n + 1) (l := l) (k := k) (by simpa using h)
  rw [show n + 1 + k = n + (k + 1) from by omega] at this
  exact List.mem_cons_of_mem _ this
theorem permI_lt : ∀ {l : List Oper} {n : Nat}, ((d7 l n).map (·.1)).Nodup /\ ∀ x ∈ d7 l n, n <= x.1
 | [], n => ⟨List.nodup_nil, fun _ h => by cases h⟩
 | p :: l, n => by
  obtain ⟨h1, h2⟩ := permI_lt (l := l) (n := n + 1);refine ⟨?_, ?_⟩
  ·show (n :: (d7 l (n + 1)).map (·.1)).Nodup
   refine List.nodup_cons.2 ⟨fun h => ?_, h1⟩
   obtain ⟨x, hx, he⟩ := List.mem_map.1 h;have := h2 x hx;omega
  ·intro x hx
   rcases List.mem_cons.1 hx with rfl | hx
   ·exact Nat.le_refl _
   ·have := h2 x hx; omega
theorem permL_perm (ops : List Oper) : (permL ops).Perm (d7 ops 0) := List.filter_append_perm _ _
theorem permL_get {ops : List Oper} {i : Nat} {x : Nat × Oper} (h : (permL ops)[i]? = some x) : ops[x.1]? = some x.2 := by
 have := (permL_perm ops).mem_iff.1 (List.mem_of_getElem? h)
 have := (permI_get this).2
 simpa using this
theorem permL_has {ops : List Oper} {k : Nat} {o : Oper} (h : ops[k]? = some o) : ∃ i : Nat, (permL ops)[i]? = some (k, o) := by
 have := permI_has (n := 0) h
 rw [Nat.zero_add] at this
 exact List.mem_iff_getElem?.1 ((permL_perm ops).mem_iff.2 this)
theorem permL_inj {ops : List Oper} {i j : Nat} {x y : Nat × Oper} (hi : (permL ops)[i]? = some x) (hj : (permL ops)[j]? = some y) (h : x.1 = y.1) : i = j := by
 have hn : ((permL ops).map (·.1)).Nodup := ((permL_perm ops).map _).nodup_iff.2 permI_lt.1
 have e1 : ((permL ops).map (·.1))[i]? = some x.1 := by simp [hi]
 have e2 : ((permL ops).map (·.1))[j]? = some x.1 := by simp [hj, h]
 have hil : i < ((permL ops).map (·.1)).length := by
  rcases Nat.lt_or_ge i ((permL ops).map (·.1)).length with h | h
  ·exact h
  ·rw [List.getElem?_eq_none h] at e1; cases e1
 exact (List.getElem?_inj hil hn).1 (e1.trans e2.symm)
theorem noG_ok : ∀ {l : List Oper}, noG l = true -> ∀ o ∈ l, o.guard = none
 | [], _, _, h => by cases h
 | p :: l, h, o, ho => by
  simp only [noG, Bool.and_eq_true, eG] at h;rcases List.mem_cons.1 ho with rfl | ho
  ·exact h.1
  ·exact noG_ok h.2 o ho
theorem raceY1_ok {anc : List Nat} {r : Row} {i : Nat} : ∀ {l : List Row} {k : Nat}, raceY1 anc r i l k = true -> ∀ j q, l[j]? = some q -> touchB q r.rs = true ->
  k + j = i ∨ ((anc.getD i 0).testBit (k + j) = true /\ k + j < i) ∨ ((anc.getD (k + j) 0).testBit i = true /\ i < k + j)
 | [], _, _, j, q, h, _ => by simp at h
 | p :: l, k, h, j, q, hq, ht => by
  simp only [raceY1, Bool.and_eq_true, Bool.or_eq_true, Bool.not_eq_true'] at h;cases j with
  | zero =>
   simp at hq; subst hq
   simp only [Nat.add_zero];rcases h.1 with ((h1 | h1) | h1) | h1
   ·exact .inl (aX.1 h1)
   ·rw [ht] at h1; cases h1
   ·exact .inr (.inl ⟨h1.1, cU.1 h1.2⟩)
   ·exact .inr (.inr ⟨h1.1, cU.1 h1.2⟩)
  | succ j =>
   have := raceY1_ok h.2 j q (by simpa using hq) ht
   simpa [Nat.add_assoc, Nat.add_comm 1 j] using this
theorem raceY_ok {anc : List Nat} {rows : List Row} : ∀ {l : List Row} {k : Nat}, raceY anc rows l k = true -> ∀ i r, l[i]? = some r -> raceY1 anc r (k + i) rows 0 = true
 | [], _, _, i, r, h => by simp at h
 | p :: l, k, h, i, r, hr => by
  simp only [raceY, Bool.and_eq_true] at h;cases i with
  | zero => simp at hr; subst hr; simpa using h.1
  | succ i =>
   have := raceY_ok h.2 i r (by simpa using hr)
   simpa [Nat.add_assoc, Nat.add_comm 1 i] using this

section
variable {P : Program} {C : Ctx} {w0 : World} {F0 H : aA} {env0 : St} {ops : Array Oper} {Q : Exit -> Act -> World -> Prop}

def fA (zs : List (Nat × Oper)) (T : Nat -> Bool) : Nat -> Bool := fun i => match zs[i]? with
 | some x => T x.1
 | none => false
theorem wpOp_same {ops ops' : Array Oper} {i k : Nat} {o : Oper} (h1 : ops[k]? = some o) (h2 : ops'[i]? = some o) (hg : o.guard = none) {K : Act -> World -> Prop} {a : Act} {w : World} (h : wpOp P ops' Q i K a w) : wpOp P ops Q k K a w := by
 unfold wpOp at h ⊢
 rw [h1]
 rw [h2] at h
 simp only [] at h ⊢
 have hw : ∀ y, Region.wanted o y = true := fun y => by unfold Region.wanted; rw [hg]
 rw [hw] at h ⊢
 exact h

theorem regionY_ok (hC : aF P C) {st' : St} {c : Prop} (h : regionY C env0 ops.toList = some (c, st')) (hc : c)
  {a : Act} {w : World} (hi : Inv P C.np w0 F0 H env0 a w) (hQ : ∀ a' w', Inv P C.np w0 F0 H st' a' w' -> Q .normal a' w') : RegW P ops true Q a w := by
 unfold regionY at h
 generalize hzs : permL ops.toList = zs at h
 generalize hops2 : (zs.map (·.2)).toArray = ops2
 have hl2 : zs.map (·.2) = ops2.toList := by rw [<- hops2]
 rw [hl2] at h
 generalize hgen : genRows false C env0 ops2.toList [] = g at h
 obtain ⟨c1, rows, tail⟩ := g
 simp only [] at h
 generalize hA : ancY (ancB ops.toList) zs = anc at h
 split at h
 ·rename_i ls hls
  cases hB : (bK (tgts ls) && zFreeL (tgts ls) tail && noG ops.toList && lowB ops.toList 0 && raceY anc rows rows 0)
  ·rw [hB] at h; cases h
  rw [hB] at h;simp only [cond_true, Option.some.injEq, Prod.mk.injEq] at h;obtain ⟨rfl, rfl⟩ := h;simp only [Bool.and_eq_true] at hB;obtain ⟨⟨⟨⟨hnd, hzf⟩, hnog⟩, hlowB⟩, hrace⟩ := hB;have hget : ∀ {i : Nat} {x : Nat × Oper}, zs[i]? = some x -> ops[x.1]? = some x.2 := by
   intro i x hx;rw [<- hzs] at hx
   simpa using permL_get hx
  have hhas : ∀ {k : Nat}, k < ops.size -> ∃ (i : Nat) (o : Oper), zs[i]? = some (k, o) := by
   intro k hk;obtain ⟨i, hi⟩ := permL_has (ops := ops.toList) (k := k) (o := ops[k]) (by simp [hk]);exact ⟨i, ops[k], by rw [<- hzs]; exact hi⟩
  have hinj : ∀ {i j : Nat} {x y : Nat × Oper}, zs[i]? = some x -> zs[j]? = some y -> x.1 = y.1 -> i = j := by
   intro i j x y h1 h2;rw [<- hzs] at h1 h2;exact permL_inj h1 h2
  have hops2g : ∀ {i : Nat} {x : Nat × Oper}, zs[i]? = some x -> ops2[i]? = some x.2 := by
   intro i x hx;rw [<- hops2]; simp [hx]
  have hsz2 : ops2.size = zs.length := by rw [<- hops2]; simp
  obtain ⟨ht, htail⟩ := fP (ops := ops2) ops2.toList [] hgen hc (by simp) (fun i r hr => by simp at hr)
  have htd : tail = ops2.toList.drop rows.length := by
   apply List.ext_getElem?
   intro j;rw [htail j]; simp
  have hlen : rows.length <= ops2.size := by
   rcases Nat.lt_or_ge ops2.size rows.length with h | h
   ·obtain ⟨o, ho, _⟩ := ht.facts (List.getElem?_eq_getElem h)
    simp at ho
   ·exact h
  obtain ⟨hl1, hl2⟩ := lateL_ok hls;have hnopd : ∀ (i : Nat) (r : Row) r0 p0, rows[i]? = some r -> r.pd ≠ some (r0, p0) := by
   intro i r r0 p0 hr hpd;obtain ⟨o, _, hf⟩ := ht.facts hr;rcases hf.op with ⟨_, _, _, h⟩ | ⟨_, _, _, h, _⟩
   ·rw [h] at hpd; cases hpd
   ·cases h
  have hlow : ∀ i k, eA ops i k -> k < i := fun i k hw => lowB_ok ops.toList 0 (by simp) hlowB i k (Nat.zero_le i) hw
  have hanc2 : ∀ {i j : Nat} {x : Nat × Oper}, zs[i]? = some x -> (anc.getD i 0).testBit j = true -> ∃ y, zs[j]? = some y /\ eT ops x.1 y.1 := by
   intro i j x hx h;rw [<- hA] at h;have e : (ancY (ancB ops.toList) zs).getD i 0 = bitsY ((ancB ops.toList).getD x.1 0) (zs.map (·.1)) 0 := by
    simp [ancY, List.getD_eq_getElem?_getD, hx]
   rw [e] at h;obtain ⟨i', p, h1, h2, h3⟩ := bitsY_ok h;have : j = i' := by omega
   subst this;simp only [List.getElem?_map, Option.map_eq_some_iff] at h1;obtain ⟨y, h4, rfl⟩ := h1;have := ancB_ok h3;exact ⟨y, h4, by simpa using this⟩
  have hsetY : ∀ {T : Nat -> Bool} {i : Nat} {x : Nat × Oper}, zs[i]? = some x -> fA zs T i = T x.1 := by
   intro T i x hx; unfold fA; rw [hx]
  have haddY : ∀ {T : Nat -> Bool} {i : Nat} {x : Nat × Oper}, zs[i]? = some x -> fA zs (bW T x.1) = bW (fA zs T) i := by
   intro T i x hx
   funext j
   unfold fA bW;cases hj : zs[j]? with
   | none =>
    have : j ≠ i := fun h => by rw [h, hx] at hj; cases hj
    simp only [bS this, Bool.false_or, hj]
   | some y =>
    simp only [];by_cases hji : j = i
    ·subst hji
     rw [hx] at hj; injection hj with hj; subst hj;simp only [aX.2 (rfl : x.1 = x.1), aX.2 (rfl : j = j), Bool.true_or]
    ·have hne : y.1 ≠ x.1 := fun h => hji (hinj hj hx h)
     simp only [bS hne, bS hji, Bool.false_or, hj]
  have hmem : ∀ u ∈ ls, ∃ j, ls[j]? = some u := fun u hu => List.mem_iff_getElem?.1 hu
  have hkinj : ∀ u ∈ ls, ∀ v ∈ ls, u.1 = v.1 -> u = v := by
   intro u hu v hv h;obtain ⟨i, hi⟩ := hmem u hu;obtain ⟨j, hj⟩ := hmem v hv;have e1 := (hl2 i u hi).1;have e2 := (hl2 j v hj).1;have : i = j := by omega
   subst this;rw [hi] at hj; injection hj
  have hks : ∀ u ∈ ls, rows.length <= u.1 /\ u.1 < zs.length := by
   intro u hu;obtain ⟨i, hi⟩ := hmem u hu;have h1 := (hl2 i u hi).1;have h2 : i < ls.length := by
    rcases Nat.lt_or_ge i ls.length with h | h
    ·exact h
    ·rw [List.getElem?_eq_none h] at hi; cases hi
   rw [hl1, htd] at h2;simp at h2;omega
  have hbox : ∀ u ∈ ls, ∀ d, u.2.2.root ≠ some d := by
   intro u hu d;obtain ⟨i, hi⟩ := hmem u hu;obtain ⟨_, o, _, hf⟩ := hl2 i u hi;obtain ⟨T, z, j, r, τ, m, x, y, _, _, _, _, _, _, he, _⟩ := hf.ex;rw [he]; intro h; cases h
  have htgt : ∀ u ∈ ls, ∃ (j : Nat) (r : Row), rows[j]? = some r /\ r.d = u.2.1 /\ r.ch = [] /\ noRd rows u.2.1 = true /\ (anc.getD u.1 0).testBit j = true := by
   intro u hu;obtain ⟨i, hi⟩ := hmem u hu;obtain ⟨e1, o, _, hf⟩ := hl2 i u hi;obtain ⟨T, z, j, r, τ, m, x, y, _, _, _, h4, _, _, _, h7, _, _, _, h11, h12, _⟩ := hf.ex;obtain ⟨_, g2, g3⟩ := idxR_ok h4;simp only [Nat.sub_zero] at g2;exact ⟨j, r, g2, (dP g3).2, h7, h11, by rw [e1]; exact h12 rfl⟩
  have hroot : ∀ u ∈ ls, ∀ t, (env0 t).root ≠ some u.2.1 := by
   intro u hu t hr;obtain ⟨j, r, e1, e2, _⟩ := htgt u hu;obtain ⟨F, S, hi⟩ := hi;have := (hi.ent t).root_owner (r := u.2.1) hr;obtain ⟨o, _, hf⟩ := ht.facts e1;have hfr := hf.fresh;rw [e2, this] at hfr; cases hfr
  refine fD (fun T a w => InvT P C w0 F0 H env0 (rows.map (cM (fA zs T) ls)) (fA zs T) a w) (fun _ => hlow) ?_ ?_ ?_
  ·intro T k hkn hTk hdrw _
   obtain ⟨hcl, hw⟩ := hdrw rfl;obtain ⟨i, o, hzi⟩ := hhas hkn;have hko : ops[k]? = some o := hget hzi;have hio : ops2[i]? = some o := hops2g hzi;have hog : o.guard = none := noG_ok hnog o (by
    have : ops.toList[k]? = some o := by simpa using hko
    exact List.mem_of_getElem? this)
   have hTi : fA zs T i = false := by rw [hsetY hzi]; exact hTk
   have hin : i < ops2.size := by
    rcases Nat.lt_or_ge i ops2.size with h | h
    ·exact h
    ·rw [Array.getElem?_eq_none h] at hio; cases hio
   intro a w hJ;refine wpOp_same (ops' := ops2) hko hio hog ?_;have hwaits : ∀ j, (anc.getD i 0).testBit j = true -> fA zs T j = true := by
    intro j hj;obtain ⟨y, h1, h2⟩ := hanc2 hzi hj;rw [hsetY h1];exact bO hcl hw h2
   have hback : ∀ j x, zs[j]? = some x -> fA zs T j = true -> ∀ l, (anc.getD j 0).testBit l = true -> fA zs T l = true := by
    intro j x hx hj l hl;obtain ⟨y, h1, h2⟩ := hanc2 hx hl;rw [hsetY h1];rw [hsetY hx] at hj;exact hcl.reach h2 hj
   have hsome : ∀ j, j < zs.length -> ∃ x, zs[j]? = some x := fun j hj => ⟨zs[j], List.getElem?_eq_getElem hj⟩
   show wpOp P ops2 Q i (InvT P C w0 F0 H env0 (rows.map (cM (fA zs (bW T k)) ls)) (fA zs (bW T k))) a w
   have hadd := haddY (T := T) hzi
   simp only [] at hadd;rw [hadd];have hJ : InvT P C w0 F0 H env0 (rows.map (cM (fA zs T) ls)) (fA zs T) a w := hJ;by_cases him : i < rows.length
   ·have hr : rows[i]? = some rows[i] := List.getElem?_eq_getElem him
    have hag : ∀ s ∈ rows[i].rs, ∀ j q, rows[j]? = some q -> q.d = s ∨ s ∈ q.used -> fA zs T j = Nat.blt j i := by
     intro s hs j q hq hd;have hjr : j < rows.length := by
      rcases Nat.lt_or_ge j rows.length with h | h
      ·exact h
      ·rw [List.getElem?_eq_none h] at hq; cases hq
     have h1 := raceY_ok hrace i _ hr
     rw [Nat.zero_add] at h1;have h2 := raceY1_ok h1 j q hq (touchB_of hs hd);rw [Nat.zero_add] at h2;rcases h2 with h2 | ⟨h2, h3⟩ | ⟨h2, h3⟩
     ·subst h2; rw [hTi, blt_self]
     ·rw [hwaits j h2, cU.2 h3]
     ·have e1 : Nat.blt j i = false := by
       cases hb : Nat.blt j i
       ·rfl
       ·have := cU.1 hb; omega
      rw [e1];cases hTj : fA zs T j
      ·rfl
      ·obtain ⟨x, hx⟩ := hsome j (by omega)
       have := hback j x hx hTj i h2
       rw [hTi] at this; cases this
    have hpat : Pat rows (rows.map (cM (fA zs T) ls)) i rows[i] := by
     refine ⟨by simp, fun j q q' hq hq' => ?_⟩
     simp only [List.getElem?_map, hq, Option.map_some, Option.some.injEq] at hq';subst hq';refine ⟨dR.1, dR.2.1, dR.2.2.1, fun hqr => fQ (patE_none fun u hu hd => ?_)⟩
     obtain ⟨_, _, _, _, _, hno, _⟩ := htgt u hu;exact absurd (hd ▸ hqr) (noRd_ok hno _ (List.mem_of_getElem? hr)).1
    have hr' : (rows.map (cM (fA zs T) ls))[i]? = some rows[i] := by
     simp only [List.getElem?_map, hr, Option.map_some, Option.some.injEq];refine fQ (patE_none fun u hu hd => ?_)
     obtain ⟨j, r, e1, e2, _, _, hanc⟩ := htgt u hu;have hij : j = i := ht.ud j i r rows[i] e1 hr (e2.trans hd);subst hij;obtain ⟨x, hx⟩ := hsome u.1 (hks u hu).2;cases hTu : fA zs T u.1
     ·rfl
     ·have := hback u.1 x hx hTu j hanc
      rw [hTi] at this; cases this
    have hsame : rows.map (cM (bW (fA zs T) i) ls) = rows.map (cM (fA zs T) ls) := by
     refine List.map_congr_left fun q _ => ?_
     unfold cM;rw [patE_congr (T := bW (fA zs T) i) (T' := fA zs T) fun u hu _ => ?_]
     have := (hks u hu).1
     simp [bW, bS (show u.1 ≠ i by omega)]
    refine wpOp_mono ?_ (row_okP hC ht hr hTi hio (fun g b h => by rw [hog] at h; cases h) hpat hr' (fun r0 p0 hpd => absurd hpd (hnopd i _ r0 p0 hr)) hag a w hJ)
    intro a' w' h';rw [hsame]; exact h'
   ·have hil : i - rows.length < ls.length := by
     rw [hl1, htd]; simp; omega
    have hls' : ls[i - rows.length]? = some ls[i - rows.length] := List.getElem?_eq_getElem hil
    obtain ⟨e1, o', e2, hf⟩ := hl2 _ _ hls';rw [show rows.length + (i - rows.length) = i from by omega] at e1 hf
    have ho : ops2[i]? = some o' := by
     rw [htail] at e2;rw [show rows.length + (i - rows.length) = i from by omega] at e2
     exact e2
    have hxm0 : ∀ x : Nat × Nat × Ent, ls[i - rows.length]? = some x -> x.1 = i -> (i, x.2.1, x.2.2) ∈ ls := by
     rintro ⟨k', d', e'⟩ hx hk'
     have hk' : k' = i := hk'
     rw [<- hk']; exact List.mem_of_getElem? hx
    have hxm := hxm0 _ hls' e1
    refine late_ok hC ht hnd hxm (by omega) hkinj ho hf ?_ hTi ?_ (hroot (i, ls[i - rows.length].2.1, ls[i - rows.length].2.2) hxm) (fun u hu => hbox u hu _) a w hJ
    ·intro T0 a0 z hz
     have aux : ∀ (l : List Oper) (n : Nat), zFreeL (tgts ls) l = true -> l[n]? = some o' -> zFree (tgts ls) z = true := by
      intro l
      induction l with
      | nil => intro n _ h; simp at h
      | cons p l ih =>
       intro n h1 h2;simp only [zFreeL, Bool.and_eq_true] at h1;cases n with
       | zero =>
        simp only [List.getElem?_cons_zero, Option.some.injEq] at h2;subst h2;rw [hz] at h1; exact h1.1
       | succ n => exact ih n h1.2 (by simpa using h2)
     exact aux tail _ hzf e2
    ·intro j hj hanc
     exact hwaits j (hanc rfl)
  ·intro T a w hT hJ
   refine hQ a w ?_
   have hT2 : ∀ j, j < zs.length -> fA zs T j = true := by
    intro j hj;have hx : zs[j]? = some zs[j] := List.getElem?_eq_getElem hj;rw [hsetY hx];refine hT _ ?_;have := hget hx;rcases Nat.lt_or_ge zs[j].1 ops.size with h | h
    ·exact h
    ·rw [Array.getElem?_eq_none h] at this; cases this
   have hsame : rows.map (cM (fA zs T) ls) = rows.map (cM (fun _ => true) ls) := by
    refine List.map_congr_left fun q _ => ?_
    unfold cM;rw [patE_congr (T := fA zs T) (T' := fun _ => true) fun u hu _ => ?_]
    exact hT2 _ (hks u hu).2
   have hJ : InvT P C w0 F0 H env0 (rows.map (cM (fA zs T) ls)) (fA zs T) a w := hJ
   rw [hsame] at hJ;refine hJ.doneG ?_ (fun j hj => hT2 j (by simp at hj; omega))
   ·intro i r hr hch
    simp only [List.getElem?_map, Option.map_eq_some_iff] at hr;obtain ⟨p, e1, rfl⟩ := hr;rw [dR.2.2.2] at hch;rw [dR.2.2.1];cases hp : patE (fun _ => true) ls p.d with
    | none => rw [fQ hp] at hch; exact ht.gow e1 hch
    | some e =>
     obtain ⟨u, hu, hd, _, _⟩ := patE_some hp;obtain ⟨j, r, g1, g2, g3, _⟩ := htgt u hu;have := ht.ud i j p r e1 g1 (hd.symm.trans g2.symm);subst this;rw [e1] at g1; injection g1 with g1; subst g1;exact ht.gow e1 (by rw [g3]; rfl)
  ·intro w' hh hos htp hout
   obtain ⟨F, S, hi⟩ := hi;have hz : fA zs (fun _ => false) = fun _ => false := by
    funext j; unfold fA; split <;> rfl
   show InvT P C w0 F0 H env0 (rows.map (cM (fA zs fun _ => false) ls)) (fA zs fun _ => false) a w'
   rw [hz];refine ⟨F, S, ?_, fun j q _ h => by cases h⟩
   have hs : ∀ (l : List Row) (k : Nat), sel l (fun _ => false) k = [] := by
    intro l
    induction l with
    | nil => intro k; rfl
    | cons r l ih => intro k; simp only [sel, cond_false]; exact ih (k + 1)
   rw [hs];have he : stR true [] env0 = env0 := by
    funext t
    unfold stR cC;simp only [cQ, cond_false, bP];cases (env0 t).root <;> rfl
   rw [he];exact hi.world hos htp hout (by rw [hh]; exact Nat.le_refl _) (fun b _ => by rw [hh]) (fun k _ _ => by rw [hh])
 ·cases h
end
end Go.Lf
namespace Go.Lf

def flB (o : Oper) : Bool := isNone o.guard && dstB o && (match o.op with
 | .move _ => true
 | .load _ _ => true
 | .nilCheck _ => true
 | .binOp _ _ _ _ _ => true
 | .unOp _ _ _ => true
 | .convert _ _ _ => true
 | .fieldAddr _ _ _ => true
 | .indexAddr _ _ _ => true
 | .extract _ _ => true
 | _ => false)
def flR (C : Ctx) (o : Oper) (d : Nat) (f : Operand -> aK) : Res :=
 match o.op with
 | .move x => moveE (f x)
 | .load T x => bif dQ C.mvs d then none else loadE C T (f x)
 | .nilCheck x => nilE (f x)
 | .binOp op T x y _ => binE C d op T (f x) (f y)
 | .unOp op _ x => unE C d op (f x)
 | .convert s t x => convE C s t (f x)
 | .fieldAddr T x k => fieldAE C T (f x) k
 | .indexAddr T x y => indexE C T (f x) (f y)
 | .extract x k => extE (f x) k
 | _ => none
def flE (C : Ctx) (st : St) (o : Oper) : Option (Prop × Nat × Ent) :=
 match o.dst with
 | none => none
 | some d => bif wrB C d then (match flR C o d (bR st) with
  | some (c, e) => bif rootIs e d then none else some (c, d, e)
  | none => none) else none

def foldZ (C : Ctx) : List (Nat × Oper) -> St -> Option (Prop × St)
 | [], st => some (True, st)
 | (_, o) :: l, st => match flE C st o with
  | some (c, d, e) => match foldZ C l (put st d e) with
   | some (c', st') => some (c /\ c', st')
   | none => none
  | none => none
def eqEnt : Ent -> Ent -> Prop
 | .shr τ x, .shr σ y => match bU (τ := σ) (σ := τ) y with
  | some z => x = z
  | none => False
 | .saddr τ x, .saddr σ y => match bU (τ := σ) (σ := τ) y with
  | some z => x = z
  | none => False
 | .addr r p, .addr r' p' => r = r' /\ p = p'
 | .raddr r τ x, .raddr r' σ y => match bU (τ := σ) (σ := τ) y with
  | some z => r = r' /\ x = z
  | none => False
 | .rd r τ x, .rd r' σ y => match bU (τ := σ) (σ := τ) y with
  | some z => r = r' /\ x = z
  | none => False
 | .sub r p, .sub r' p' => r = r' /\ p = p'
 | _, _ => False
theorem eqEnt_ok {e f : Ent} (h : eqEnt e f) : e = f := by
 unfold eqEnt at h
 split at h
 ·split at h
  ·rename_i z hz
   have := aT hz
   injection this with e1 e2;subst e1; cases e2; rw [h]
  ·cases h
 ·split at h
  ·rename_i z hz
   have := aT hz
   injection this with e1 e2;subst e1; cases e2; rw [h]
  ·cases h
 ·rw [h.1, h.2]
 ·split at h
  ·rename_i z hz
   have := aT hz
   injection this with e1 e2;subst e1; cases e2; rw [h.1, h.2]
  ·cases h
 ·split at h
  ·rename_i z hz
   have := aT hz
   injection this with e1 e2;subst e1; cases e2; rw [h.1, h.2]
  ·cases h
 ·rw [h.1, h.2]
 ·cases h
def chkZ (C : Ctx) (st : St) : List (Nat × Oper) -> Option Prop
 | [] => some True
 | (_, o) :: l => match flE C st o with
  | some (c, d, e) => match chkZ C st l with
   | some c' => some ((c /\ eqEnt e (st d)) /\ c')
   | none => none
  | none => none
def rdyZ (anc : List Nat) (f : Nat) : List (Nat × Oper) -> Bool
 | [] => true
 | (j, _) :: l => !(anc.getD f 0).testBit j && rdyZ anc f l
def pndZ (anc : List Nat) (f : Nat) : List Nat -> Bool
 | [] => true
 | j :: l => !(anc.getD j 0).testBit f && pndZ anc f l
def pickZ (p : Nat -> Bool) : List (Nat × Oper) -> List (Nat × Oper)
 | [] => []
 | (f, o) :: l => bif p f then (f, o) :: pickZ p l else pickZ p l

def outsZ : List (Nat × Oper) -> List (Nat × Oper) -> List ((Nat × Oper) × List (Nat × Oper))
 | _, [] => []
 | pre, y :: l => (y, pre ++ l) :: outsZ (pre ++ [y]) l
def allZ (f : (Nat × Oper) × List (Nat × Oper) -> Prop) : List ((Nat × Oper) × List (Nat × Oper)) -> Prop
 | [] => True
 | x :: l => f x /\ allZ f l
def goZ (C : Ctx) (stp : St -> Oper -> Option (Prop × St)) (anc : List Nat) (Qn : St -> Prop) : Nat -> List (Nat × Oper) -> List Nat -> List (Nat × Oper) -> List (Nat × Oper) -> St -> Prop
 | _, [], dn, fr, fd, st => match fr, chkZ C st (pickZ (fun f => pndZ anc f dn) fd) with
  | [], some c => c /\ Qn st
  | _, _ => False
 | 0, _ :: _, _, _, _, _ => False
 | n + 1, x :: l, dn, fr, fd, st => match chkZ C st (pickZ (fun f => pndZ anc f dn) fd) with
  | some c => c /\ allZ (fun y => bif rdyZ anc y.1.1 y.2 then (match stp st y.1.2 with
    | some (c1, st1) => match foldZ C (pickZ (fun f => rdyZ anc f y.2) fr) st1 with
     | some (c2, st2) => c1 /\ c2 /\ goZ C stp anc Qn n y.2 (y.1.1 :: dn) (pickZ (fun f => !rdyZ anc f y.2) fr) (fd ++ pickZ (fun f => rdyZ anc f y.2) fr) st2
     | none => False
    | none => False) else True) (outsZ [] (x :: l))
  | none => False

def tmpIs (d : Nat) : Operand -> Bool
 | .tmp t => Nat.beq t d
 | _ => false
def rdsB (o : Oper) (d : Nat) : Bool := o.op.operands.toList.any (tmpIs d)
def dstIs (o : Oper) (d : Nat) : Bool := match o.dst with
 | some t => Nat.beq t d
 | none => false
def apZ (anc : List Nat) (fls : List (Nat × Oper)) : List (Nat × Oper) -> Bool
 | [] => true
 | (i, o) :: l => (fls.all fun x => match x.2.dst with
  | some d => (!rdsB o d || (anc.getD i 0).testBit x.1) && (flB o || !dstIs o d)
  | none => true) && apZ anc fls l
def selZ : List Oper -> Bool
 | [] => true
 | o :: l => selB o && isNone o.guard && selZ l
def chZ : List (Nat × Oper) -> List (Nat × Oper)
 | [] => []
 | (i, o) :: l => bif flB o then chZ l else (i, o) :: chZ l
def flZ : List (Nat × Oper) -> List (Nat × Oper)
 | [] => []
 | (i, o) :: l => bif flB o then (i, o) :: flZ l else flZ l

def regionZ (C : Ctx) (stp : St -> Oper -> Option (Prop × St)) (st : St) (ops : List Oper) (Qn : St -> Prop) : Prop :=
 bif lowB ops 0 && selZ ops && apZ (ancB ops) (flZ (d7 ops 0)) (d7 ops 0) then
  (match foldZ C (pickZ (fun f => rdyZ (ancB ops) f (chZ (d7 ops 0))) (flZ (d7 ops 0))) st with
  | some (c, st1) => c /\ goZ C stp (ancB ops) Qn (List.length (chZ (d7 ops 0))) (chZ (d7 ops 0)) [] (pickZ (fun f => !rdyZ (ancB ops) f (chZ (d7 ops 0))) (flZ (d7 ops 0))) (pickZ (fun f => rdyZ (ancB ops) f (chZ (d7 ops 0))) (flZ (d7 ops 0))) st1
  | none => False) else False

section
variable {P : Program} {C : Ctx} {N : NP} {w0 : World} {F0 H : aA} {env : St} {a a' : Act} {w : World} {F : aA} {S : Nat -> aA} {d : Nat}

theorem flR_ok (hC : aF P C) (hi : aM P C.np w0 F0 H env a w F S) {o : Oper} {c : Prop} {e : Ent} (h : flR C o d (bR env) = some (c, e)) (hc : c) : cR P F w env (fun t => a.tmps.getD t undef) S d (execOp a.eval o) e := by
 unfold flR at h
 split at h
 ·rename_i x hop
  obtain ⟨g1, g2⟩ := moveE_ok (d := d) hi (bA hi x) h;exact ⟨_, by simp [execOp, hop], g1, g2⟩
 ·rename_i T x hop
  cases hmv : dQ C.mvs d
  ·rw [hmv] at h; exact loadE_ok hC hi hop (bA hi x) h hc
  ·rw [hmv] at h; cases h
 ·rename_i x hop; exact nilE_ok hi hop (bA hi x) h hc
 ·rename_i hop; exact binE_ok hC hi hop (bA hi _) (bA hi _) h hc
 ·rename_i hop; exact unE_ok hi hop (bA hi _) h hc
 ·rename_i hop; exact convE_ok hC hi hop (bA hi _) h hc
 ·rename_i hop; exact fieldAE_ok hC hi hop (bA hi _) h hc
 ·rename_i hop; exact indexE_ok hC hi hop (bA hi _) (bA hi _) h hc
 ·rename_i hop; exact extE_ok hi hop (bA hi _) h hc
 ·cases h

theorem flE_ok (hC : aF P C) (hi : aM P C.np w0 F0 H env a w F S) {o : Oper} {c : Prop} {e : Ent} (h : flE C env o = some (c, d, e)) (hc : c) :
  o.dst = some d /\ e.isOwner = false /\ ∃ v S2, (execOp a.eval o).run P w = .ok (.value v) w /\ aM P C.np w0 F0 H (put env d e) (a.put (some d) v) w F S2 := by
 unfold flE at h
 split at h
 ·cases h
 ·rename_i d' hod
  cases hw : wrB C d'
  ·rw [hw] at h; cases h
  rw [hw] at h;simp only [cond_true] at h;split at h
  ·rename_i c' e' hr
   cases hk : rootIs e' d'
   ·rw [hk] at h
    simp only [cond_false, Option.some.injEq, Prod.mk.injEq] at h;obtain ⟨rfl, rfl, rfl⟩ := h;obtain ⟨v, h1, h2, h3⟩ := flR_ok (d := d') hC hi hr hc;exact ⟨hod, h2, v, _, h1, hi.putSimple (d6 hw) h2 (rootIs_ne hk) (h3 (rootIs_ne hk))⟩
   ·rw [hk] at h; cases h
  ·cases h

theorem putE_self {st : St} {e : Ent} (h : st d = e) (he : e.isOwner = false) : put st d e = st := by
 unfold put
 rw [h, he]
 simp only [cond_false]
 funext t
 by_cases ht : t = d
 ·subst ht; rw [bZ, h]
 ·rw [bN _ _ ht]

structure Agr (D : Nat -> Prop) (a a' : Act) : Prop where
 defers : a'.defers = a.defers
 size : a'.tmps.size = a.tmps.size
 get : ∀ t, ¬ D t -> a'.tmps[t]? = a.tmps[t]?
theorem Agr.refl (D : Nat -> Prop) (a : Act) : Agr D a a := ⟨rfl, rfl, fun _ _ => rfl⟩
theorem Agr.eq {D : Nat -> Prop} (h : Agr D a a') (hD : ∀ t, ¬ D t) : a' = a := by
 obtain ⟨h1, h2, h3⟩ := h
 cases a; cases a'
 simp only at h1 h2 h3
 subst h1
 congr 1
 exact Array.ext_getElem? fun t => h3 t (hD t)
theorem put_get (a : Act) (d : Nat) (v : Value) (t : Nat) : (a.put (some d) v).tmps[t]? = if d = t then (if d < a.tmps.size then some v else none) else a.tmps[t]? := by
 show (a.tmps.setIfInBounds d v)[t]? = _
 rw [Array.getElem?_setIfInBounds]
theorem Agr.put {D : Nat -> Prop} (h : Agr D a a') (o : Option Tmp) (v : Value) : Agr D (a.put o v) (a'.put o v) := by
 cases o with
 | none => exact h
 | some d =>
  refine ⟨h.defers, by show (a'.tmps.setIfInBounds d v).size = (a.tmps.setIfInBounds d v).size; simp [h.size], fun t ht => ?_⟩
  rw [put_get, put_get, h.size];split
  ·rfl
  ·exact h.get t ht
theorem Agr.defer {D : Nat -> Prop} (h : Agr D a a') (x : Deferred) : Agr D { a with defers := x :: a.defers } { a' with defers := x :: a'.defers } :=
 ⟨by simp [h.defers], h.size, h.get⟩
theorem Agr.mono {D D' : Nat -> Prop} (h : Agr D a a') (hD : ∀ t, D t -> D' t) : Agr D' a a' := ⟨h.defers, h.size, fun t ht => h.get t fun hd => ht (hD t hd)⟩
theorem Agr.eval {D : Nat -> Prop} (h : Agr D a a') {z : Operand} (hz : ∀ t, z = .tmp t -> ¬ D t) : a'.eval z = a.eval z := by
 cases z with
 | tmp t => have := h.get t (hz t rfl); simp only [Act.eval, Array.getD_eq_getD_getElem?, this]
 | _ => rfl
theorem Agr.exec {D : Nat -> Prop} (h : Agr D a a') {o : Oper} (hs : selB o = true) (ho : ∀ t, Operand.tmp t ∈ o.op.operands -> ¬ D t) : execOp a'.eval o = execOp a.eval o :=
 execOp_congr o (selB_ok hs) fun z hz => h.eval fun t ht => ho t (ht ▸ hz)

theorem wp_agr {D : Nat -> Prop} (h : Agr D a a') {o : Oper} (hs : selB o = true) (ho : ∀ t, Operand.tmp t ∈ o.op.operands -> ¬ D t) {K K' : Act -> World -> Prop} {Q : Exit -> Act -> World -> Prop}
  (hw : o.wp P a' w K' (fun _ _ _ => False)) (hK : ∀ a1 a1' w1, Agr D a1 a1' -> K' a1' w1 -> K a1 w1) : o.wp P a w K Q := by
 unfold Oper.wp at hw ⊢
 rw [h.exec hs ho] at hw
 have hlet : ¬ LetsOut (fun (_ : Exit) (_ : Act) (_ : World) => False) := by rintro ⟨_, _, h⟩; exact h
 generalize (execOp a.eval o).run P w = r at hw ⊢
 cases r with
 | ok n w' =>
  cases n <;> simp only [Oper.upon] at hw ⊢
  case value u => exact hK _ _ _ (h.put _ _) hw
  case skip => exact hK _ _ _ (h.put _ _) hw
  case defer x => exact hK _ _ _ ((h.defer x).put _ _) hw
  case enter f args =>
   refine Calls.mono hw fun e w'' he => ?_
   cases e with
   | returned u => exact hK _ _ _ (h.put _ _) he
   | panicked c => exact he.elim
   | outgrown => exact absurd he hlet
  case row row args => exact Rows.mono hw fun u w'' he => hK _ _ _ (h.put _ _) he
 | halt x w' =>
  cases x <;> simp only [Oper.upon] at hw ⊢
  all_goals first | exact hw.elim | exact hw

theorem dT {p : Nat -> Bool} {x : Nat × Oper} : ∀ {l : List (Nat × Oper)}, x ∈ pickZ p l ↔ x ∈ l /\ p x.1 = true
 | [] => by simp [pickZ]
 | (f, o) :: l => by
  simp only [pickZ];cases hp : p f
  ·simp only [cond_false, dT (l := l), List.mem_cons]
   constructor
   ·exact fun h => ⟨.inr h.1, h.2⟩
   ·rintro ⟨rfl | h, h2⟩
    ·rw [hp] at h2; cases h2
    ·exact ⟨h, h2⟩
  ·simp only [cond_true, List.mem_cons, dT (l := l)]
   constructor
   ·rintro (rfl | h)
    ·exact ⟨.inl rfl, hp⟩
    ·exact ⟨.inr h.1, h.2⟩
   ·rintro ⟨rfl | h, h2⟩
    ·exact .inl rfl
    ·exact .inr ⟨h, h2⟩
theorem rdyZ_iff {anc : List Nat} {f : Nat} : ∀ {l : List (Nat × Oper)}, rdyZ anc f l = true ↔ ∀ x ∈ l, (anc.getD f 0).testBit x.1 = false
 | [] => by simp [rdyZ]
 | (j, o) :: l => by simp [rdyZ, rdyZ_iff (l := l)]
theorem pndZ_iff {anc : List Nat} {f : Nat} : ∀ {l : List Nat}, pndZ anc f l = true ↔ ∀ j ∈ l, (anc.getD j 0).testBit f = false
 | [] => by simp [pndZ]
 | j :: l => by simp [pndZ, pndZ_iff (l := l)]
theorem chZ_mem {x : Nat × Oper} : ∀ {l : List (Nat × Oper)}, x ∈ chZ l ↔ x ∈ l /\ flB x.2 = false
 | [] => by simp [chZ]
 | (i, o) :: l => by
  simp only [chZ];cases hp : flB o
  ·simp only [cond_false, List.mem_cons, chZ_mem (l := l)]
   constructor
   ·rintro (rfl | h)
    ·exact ⟨.inl rfl, hp⟩
    ·exact ⟨.inr h.1, h.2⟩
   ·rintro ⟨rfl | h, h2⟩
    ·exact .inl rfl
    ·exact .inr ⟨h, h2⟩
  ·simp only [cond_true, chZ_mem (l := l), List.mem_cons]
   constructor
   ·exact fun h => ⟨.inr h.1, h.2⟩
   ·rintro ⟨rfl | h, h2⟩
    ·rw [hp] at h2; cases h2
    ·exact ⟨h, h2⟩
theorem flZ_mem {x : Nat × Oper} : ∀ {l : List (Nat × Oper)}, x ∈ flZ l ↔ x ∈ l /\ flB x.2 = true
 | [] => by simp [flZ]
 | (i, o) :: l => by
  simp only [flZ];cases hp : flB o
  ·simp only [cond_false, flZ_mem (l := l), List.mem_cons]
   constructor
   ·exact fun h => ⟨.inr h.1, h.2⟩
   ·rintro ⟨rfl | h, h2⟩
    ·rw [hp] at h2; cases h2
    ·exact ⟨h, h2⟩
  ·simp only [cond_true, List.mem_cons, flZ_mem (l := l)]
   constructor
   ·rintro (rfl | h)
    ·exact ⟨.inl rfl, hp⟩
    ·exact ⟨.inr h.1, h.2⟩
   ·rintro ⟨rfl | h, h2⟩
    ·exact .inl rfl
    ·exact .inr ⟨h, h2⟩
theorem permI_mem {x : Nat × Oper} : ∀ {l : List Oper} {k : Nat}, x ∈ d7 l k ↔ ∃ i, l[i]? = some x.2 /\ x.1 = k + i
 | [], k => by simp [d7]
 | o :: l, k => by
  simp only [d7, List.mem_cons, permI_mem (l := l) (k := k + 1)];constructor
  ·rintro (rfl | ⟨i, h1, h2⟩)
   ·exact ⟨0, rfl, rfl⟩
   ·exact ⟨i + 1, by simpa using h1, by omega⟩
  ·rintro ⟨i, h1, h2⟩
   cases i with
   | zero =>
    left
    simp only [List.getElem?_cons_zero, Option.some.injEq] at h1;cases x; simp_all
   | succ i => exact .inr ⟨i, by simpa using h1, by omega⟩
theorem selZ_ok : ∀ {l : List Oper}, selZ l = true -> ∀ o ∈ l, selB o = true /\ o.guard = none
 | [], _, o, h => by cases h
 | x :: l, h, o, ho => by
  simp only [selZ, Bool.and_eq_true] at h;rcases List.mem_cons.1 ho with rfl | ho
  ·exact ⟨h.1.1, eG.1 h.1.2⟩
  ·exact selZ_ok h.2 o ho
theorem goZ_nil {stp : St -> Oper -> Option (Prop × St)} {anc : List Nat} {Qn : St -> Prop} {n : Nat} {dn : List Nat} {fr fd : List (Nat × Oper)} {st : St} (h : goZ C stp anc Qn n [] dn fr fd st) :
  ∃ c, chkZ C st (pickZ (fun f => pndZ anc f dn) fd) = some c /\ c /\ Qn st := by
 cases n <;> simp only [goZ] at h
 all_goals
  split at h
  ·rename_i hk
   exact ⟨_, hk, h⟩
  ·exact h.elim
theorem allZ_ok {f : (Nat × Oper) × List (Nat × Oper) -> Prop} : ∀ {l : List ((Nat × Oper) × List (Nat × Oper))}, allZ f l -> ∀ x ∈ l, f x
 | [], _, _, h => by cases h
 | y :: l, h, x, hx => by
  rcases List.mem_cons.1 hx with rfl | hx
  ·exact h.1
  ·exact allZ_ok h.2 x hx
theorem outsZ_has : ∀ {l pre : List (Nat × Oper)} {y : Nat × Oper}, y ∈ l -> ∃ l', (y, l') ∈ outsZ pre l /\ (pre ++ l).Perm (y :: l')
 | [], _, _, h => by cases h
 | x :: l, pre, y, h => by
  rcases List.mem_cons.1 h with h | h
  ·rw [h]
   exact ⟨pre ++ l, List.Mem.head _, List.perm_middle⟩
  ·obtain ⟨l', h1, h2⟩ := outsZ_has (pre := pre ++ [x]) h
   rw [List.append_assoc] at h2;exact ⟨l', List.Mem.tail _ h1, h2⟩
theorem permI_nd : ∀ {l : List Oper} {k : Nat}, (d7 l k).Pairwise fun x y => x.1 ≠ y.1
 | [], _ => .nil
 | o :: l, k => by
  refine .cons (fun y hy => ?_) permI_nd
  obtain ⟨i, _, h2⟩ := permI_mem.1 hy;show k ≠ y.1;omega
theorem chZ_sub : ∀ {l : List (Nat × Oper)}, (chZ l).Sublist l
 | [] => .slnil
 | (i, o) :: l => by
  simp only [chZ];cases flB o
  ·exact .cons_cons _ chZ_sub
  ·exact .cons _ chZ_sub
theorem apZ_ok {anc : List Nat} {fls : List (Nat × Oper)} : ∀ {l : List (Nat × Oper)}, apZ anc fls l = true -> ∀ x ∈ l, ∀ y ∈ fls, ∀ d, y.2.dst = some d ->
  (Operand.tmp d ∈ x.2.op.operands -> (anc.getD x.1 0).testBit y.1 = true) /\ (flB x.2 = false -> x.2.dst ≠ some d)
 | [], _, x, hx, _, _, _, _ => by cases hx
 | (i, o) :: l, h, x, hx, y, hy, d, hd => by
  simp only [apZ, Bool.and_eq_true, List.all_eq_true] at h;rcases List.mem_cons.1 hx with rfl | hx
  ·have := h.1 y hy
   rw [hd] at this;simp only [Bool.and_eq_true, Bool.or_eq_true, Bool.not_eq_true'] at this;refine ⟨fun hm => ?_, fun hf he => ?_⟩
   ·rcases this.1 with h1 | h1
    ·have : rdsB o d = true := List.any_eq_true.2 ⟨.tmp d, by simpa using hm, show Nat.beq d d = true from Nat.beq_refl d⟩
     rw [h1] at this; cases this
    ·exact h1
   ·rcases this.2 with h1 | h1
    ·have hf : flB o = false := hf
     rw [hf] at h1; cases h1
    ·have he : o.dst = some d := he
     unfold dstIs at h1;rw [he] at h1;simp only [Nat.beq_refl] at h1;cases h1
  ·exact apZ_ok h.2 x hx y hy d hd

theorem foldZ_ok (hC : aF P C) {D : Nat -> Prop} : ∀ {l : List (Nat × Oper)} {env st2 : St} {a' : Act} {S : Nat -> aA} {c : Prop}, foldZ C l env = some (c, st2) -> c -> aM P C.np w0 F0 H env a' w F S -> Agr D a a' ->
  ∃ a2 S2, aM P C.np w0 F0 H st2 a2 w F S2 /\ Agr (fun t => D t ∨ ∃ x ∈ l, x.2.dst = some t) a a2
 | [], env, st2, a', S, c, h, hc, hi, hag => by
  simp only [foldZ, Option.some.injEq, Prod.mk.injEq] at h;obtain ⟨_, rfl⟩ := h;exact ⟨a', S, hi, hag.mono fun t h => .inl h⟩
 | (f, o) :: l, env, st2, a', S, c, h, hc, hi, hag => by
  simp only [foldZ] at h;split at h
  ·rename_i c1 d e h1
   split at h
   ·rename_i c2 st3 h2
    simp only [Option.some.injEq, Prod.mk.injEq] at h;obtain ⟨rfl, rfl⟩ := h;obtain ⟨hod, _, v, S2, _, hi2⟩ := flE_ok hC hi h1 hc.1;have hag2 : Agr (fun t => D t ∨ t = d) a (a'.put (some d) v) := by
     refine ⟨hag.defers, by show (a'.tmps.setIfInBounds d v).size = _; simp [hag.size], fun t ht => ?_⟩
     rw [put_get, if_neg (fun e => ht (.inr e.symm))]
     exact hag.get t fun h => ht (.inl h)
    obtain ⟨a2, S3, hi3, hag3⟩ := foldZ_ok hC (D := fun t => D t ∨ t = d) h2 hc.2 hi2 hag2
    refine ⟨a2, S3, hi3, hag3.mono ?_⟩
    rintro t ((h | rfl) | ⟨x, hx, hd⟩)
    ·exact .inl h
    ·exact .inr ⟨(f, o), by simp, hod⟩
    ·exact .inr ⟨x, by simp [hx], hd⟩
   ·cases h
  ·cases h

theorem chkZ_ok : ∀ {l : List (Nat × Oper)} {env : St} {c : Prop}, chkZ C env l = some c -> c -> ∀ x ∈ l, ∃ c' d e, flE C env x.2 = some (c', d, e) /\ c' /\ e = env d
 | [], _, _, _, _, x, hx => by cases hx
 | (f, o) :: l, env, c, h, hc, x, hx => by
  simp only [chkZ] at h;split at h
  ·rename_i c1 d e h1
   split at h
   ·rename_i c2 h2
    simp only [Option.some.injEq] at h;subst h;rcases List.mem_cons.1 hx with rfl | hx
    ·exact ⟨_, _, _, h1, hc.1.1, eqEnt_ok hc.1.2⟩
    ·exact chkZ_ok h2 hc.2 x hx
   ·cases h
  ·cases h
end

section
variable {P : Program} {C : Ctx} {w0 : World} {F0 H : aA} {env0 : St} {ops : Array Oper} {Q : Exit -> Act -> World -> Prop}

structure InvZ (P : Program) (C : Ctx) (stp : St -> Oper -> Option (Prop × St)) (w0 : World) (F0 H : aA) (ops : Array Oper) (anc : List Nat) (Qn : St -> Prop) (T : Nat -> Bool) (a : Act) (w : World)
  (rest : List (Nat × Oper)) (dn : List Nat) (fr fd : List (Nat × Oper)) (st : St) (n : Nat) (a' : Act) : Prop where
 go : goZ C stp anc Qn n rest dn fr fd st
 prs : ∀ x ∈ rest, T x.1 = false /\ ops[x.1]? = some x.2 /\ flB x.2 = false
 nd : rest.Pairwise fun x y => x.1 ≠ y.1
 pdn : ∀ j ∈ dn, T j = true
 pfr : ∀ x ∈ fr, T x.1 = false /\ ops[x.1]? = some x.2 /\ flB x.2 = true /\ ∃ y ∈ rest, (anc.getD x.1 0).testBit y.1 = true
 pfd : ∀ x ∈ fd, ops[x.1]? = some x.2 /\ flB x.2 = true
 all : ∀ i o, ops[i]? = some o -> (i, o) ∈ rest ∨ i ∈ dn ∨ (i, o) ∈ fr ∨ (i, o) ∈ fd
 agr : Agr (fun t => ∃ x ∈ fd, T x.1 = false /\ x.2.dst = some t) a a'
 inv : Inv P C.np w0 F0 H st a' w

theorem regionZ_ok (hC : aF P C) {stp : St -> Oper -> Option (Prop × St)} (hstp : eD P C stp) {Qn : St -> Prop} (h : regionZ C stp env0 ops.toList Qn)
  {a : Act} {w : World} (hi : Inv P C.np w0 F0 H env0 a w) (hQ : ∀ st' a' w', Qn st' -> Inv P C.np w0 F0 H st' a' w' -> Q .normal a' w') : RegW P ops true Q a w := by
 unfold regionZ at h
 generalize hchs : chZ (d7 ops.toList 0) = chs at h
 generalize hfls : flZ (d7 ops.toList 0) = fls at h
 generalize hanc : ancB ops.toList = anc at h
 cases hB : (lowB ops.toList 0 && selZ ops.toList && apZ anc fls (d7 ops.toList 0))
 ·rw [hB] at h; cases h
 rw [hB] at h
 simp only [cond_true] at h
 simp only [Bool.and_eq_true] at hB
 obtain ⟨⟨hlowB, hsel⟩, hap⟩ := hB
 split at h
 ·rename_i c1 st1 hf0
  ·obtain ⟨hc1, hgo⟩ := h
   have hlow : ∀ i k, eA ops i k -> k < i := fun i k hw => lowB_ok ops.toList 0 (by simp) hlowB i k (Nat.zero_le i) hw
   have hR : ∀ {j k : Nat}, (anc.getD j 0).testBit k = true -> eT ops j k := by
    intro j k h;rw [<- hanc] at h;have := ancB_ok h
    simpa using this
   have hpm : ∀ {x : Nat × Oper}, x ∈ d7 ops.toList 0 ↔ ops[x.1]? = some x.2 := by
    intro x;rw [permI_mem];constructor
    ·rintro ⟨i, h1, h2⟩
     rw [h2, Nat.zero_add]; simpa using h1
    ·intro h
     exact ⟨x.1, by simpa using h, by omega⟩
   have hchm : ∀ {x : Nat × Oper}, x ∈ chs ↔ ops[x.1]? = some x.2 /\ flB x.2 = false := by
    intro x; rw [<- hchs, chZ_mem, hpm]
   have hflm : ∀ {x : Nat × Oper}, x ∈ fls ↔ ops[x.1]? = some x.2 /\ flB x.2 = true := by
    intro x; rw [<- hfls, flZ_mem, hpm]
   have hso : ∀ {i : Nat} {o : Oper}, ops[i]? = some o -> selB o = true /\ o.guard = none := by
    intro i o ho;exact selZ_ok hsel o (List.mem_of_getElem? (by simpa using ho))
   have hapx : ∀ {i : Nat} {o : Oper}, ops[i]? = some o -> ∀ y ∈ fls, ∀ d, y.2.dst = some d -> (Operand.tmp d ∈ o.op.operands -> (anc.getD i 0).testBit y.1 = true) /\ (flB o = false -> o.dst ≠ some d) := by
    intro i o ho y hy d hd;exact apZ_ok hap (i, o) (hpm.2 ho) y hy d hd
   refine fD (draw := true) (fun T a w => ∃ rest dn fr fd st n a', InvZ P C stp w0 F0 H ops anc Qn T a w rest dn fr fd st n a') (fun _ => hlow) ?_ ?_ ?_
   ·intro T i hin hTi hdr _ a w hJ
    obtain ⟨hcl, hw⟩ := hdr rfl;obtain ⟨rest, dn, fr, fd, st, n, a', hz⟩ := hJ;have ho : ops[i]? = some ops[i] := Array.getElem?_eq_getElem hin;generalize ops[i] = o at ho;obtain ⟨hsl, hg⟩ := hso ho;have hwant : ∀ a : Act, Region.wanted o (yielded ops a.tmps) = true := fun a => by unfold Region.wanted; rw [hg]
    have hrd : ∀ t, Operand.tmp t ∈ o.op.operands -> ¬ ∃ x ∈ fd, T x.1 = false /\ x.2.dst = some t := by
     rintro t ht ⟨x, hx, hxT, hxd⟩
     have h1 := (hapx ho x (hflm.2 (hz.pfd x hx)) t hxd).1 ht
     rw [bO hcl hw (hR h1)] at hxT; cases hxT
    have hnot : ∀ y ∈ rest, (anc.getD i 0).testBit y.1 = true -> False := by
     intro y hy hb;have := bO hcl hw (hR hb);rw [(hz.prs y hy).1] at this; cases this
    unfold wpOp;rw [ho];simp only [];rw [hwant];simp only [if_true];left;rcases hz.all i o ho with hir | hid | hif | hif
    ·
     obtain ⟨rest', hout, hperm⟩ := outsZ_has (pre := []) hir;have hgo1 := hz.go;cases rest with
     | nil => cases hir
     | cons x rest0 =>
     cases n with
     | zero => exact hgo1.elim
     | succ n =>
      simp only [goZ] at hgo1;split at hgo1
      ·rename_i c3 hchk
       have hstep := allZ_ok hgo1.2 _ hout
       have hmem : ∀ y, y ∈ rest' -> y ∈ x :: rest0 := fun y hy => (hperm.symm.subset (List.mem_cons_of_mem _ hy))
       have hrdy : rdyZ anc i rest' = true := by
        rw [rdyZ_iff];intro y hy;cases hb : (anc.getD i 0).testBit y.1
        ·rfl
        ·exact (hnot y (hmem y hy) hb).elim
       simp only [hrdy, cond_true] at hstep;have hnd := (hperm.pairwise_iff (R := fun x y : Nat × Oper => x.1 ≠ y.1) (fun h => fun e => h e.symm)).1 (by simpa using hz.nd)
       obtain ⟨hnd1, hnd2⟩ := List.pairwise_cons.1 hnd;split at hstep
       ·rename_i c4 st3 hst
        split at hstep
        ·rename_i c5 st4 hfo
         obtain ⟨q1, q2, q3⟩ := hstep;have hfl : flB o = false := (hz.prs (i, o) hir).2.2;refine wp_agr hz.agr hsl hrd (hstp hz.inv hst q1 (fun a w => Inv P C.np w0 F0 H st3 a w) _ (fun _ _ h => h)) ?_
         intro a1 a1' w1 hag1 ⟨F1, S1, hi1⟩;obtain ⟨a2, S2, hi2, hag2⟩ := foldZ_ok hC hfo q2 hi1 hag1;have hTT : ∀ k, k ≠ i -> bW T i k = T k := fun k hk => by simp only [bW, bS hk, Bool.false_or]
         have hne : ∀ x ∈ rest', x.1 ≠ i := by
          intro x hx e;exact hnd1 x hx e.symm
         have hnf : ∀ x : Nat × Oper, ops[x.1]? = some x.2 -> flB x.2 = true -> x.1 ≠ i := by
          intro x hx hf e;rw [e, ho] at hx; injection hx with hx;rw [<- hx, hfl] at hf; cases hf
         refine ⟨rest', i :: dn, _, _, st4, n, a2, q3, ?_, hnd2, ?_, ?_, ?_, ?_, ?_, ⟨F1, S2, hi2⟩⟩
         ·intro x hx
          have := hz.prs x (hmem x hx)
          rw [hTT _ (hne x hx)]; exact this
         ·intro j hj
          rcases List.mem_cons.1 hj with rfl | hj
          ·simp [bW]
          ·by_cases hji : j = i
           ·subst hji; simp [bW]
           ·rw [hTT _ hji]; exact hz.pdn j hj
         ·intro x hx
          obtain ⟨hx, hr⟩ := dT.1 hx;obtain ⟨g1, g2, g3, _⟩ := hz.pfr x hx;refine ⟨by rw [hTT _ (hnf x g2 g3)]; exact g1, g2, g3, ?_⟩;simp only [Bool.not_eq_true'] at hr;have : ¬ ∀ y ∈ rest', (anc.getD x.1 0).testBit y.1 = false := by
           intro h;rw [rdyZ_iff.2 h] at hr; cases hr
          have := Classical.not_forall.1 this
          obtain ⟨y, hy⟩ := this;have := Classical.not_imp.1 hy;exact ⟨y, this.1, by simpa using this.2⟩
         ·intro x hx
          rcases List.mem_append.1 hx with hx | hx
          ·exact hz.pfd x hx
          ·obtain ⟨hx, _⟩ := dT.1 hx
           exact ⟨(hz.pfr x hx).2.1, (hz.pfr x hx).2.2.1⟩
         ·intro k ok hk
          rcases hz.all k ok hk with h | h | h | h
          ·rcases List.mem_cons.1 (hperm.subset (by simpa using h)) with h | h
           ·injection h with h _; subst h; exact .inr (.inl (by simp))
           ·exact .inl h
          ·exact .inr (.inl (by simp [h]))
          ·cases hr : rdyZ anc k rest'
           ·exact .inr (.inr (.inl (dT.2 ⟨h, by simp [hr]⟩)))
           ·exact .inr (.inr (.inr (List.mem_append.2 (.inr (dT.2 ⟨h, hr⟩)))))
          ·exact .inr (.inr (.inr (List.mem_append.2 (.inl h))))
         ·refine hag2.mono ?_
          rintro t (⟨x, hx, g1, g2⟩ | ⟨x, hx, g2⟩)
          ·have := hz.pfd x hx
           exact ⟨x, List.mem_append.2 (.inl hx), by rw [hTT _ (hnf x this.1 this.2)]; exact g1, g2⟩
          ·obtain ⟨hx', _⟩ := dT.1 hx
           obtain ⟨g3, g4, g5, _⟩ := hz.pfr x hx';exact ⟨x, List.mem_append.2 (.inr hx), by rw [hTT _ (hnf x g4 g5)]; exact g3, g2⟩
        ·exact hstep.elim
       ·exact hstep.elim
      ·exact hgo1.elim
    ·rw [hz.pdn i hid] at hTi; cases hTi
    ·obtain ⟨_, _, _, y, hy, hb⟩ := hz.pfr _ hif
     exact (hnot y hy hb).elim
    ·
     have hpn : pndZ anc i dn = true := by
      rw [pndZ_iff];intro j hj;cases hb : (anc.getD j 0).testBit i
      ·rfl
      ·have := hcl.reach (hR hb) (hz.pdn j hj)
       rw [hTi] at this; cases this
     have hck : ∃ c', chkZ C st (pickZ (fun f => pndZ anc f dn) fd) = some c' /\ c' := by
      have hgo1 := hz.go
      cases rest with
      | nil =>
       obtain ⟨c', g1, g2, _⟩ := goZ_nil hgo1;exact ⟨c', g1, g2⟩
      | cons x rest' =>
       cases n with
       | zero => exact hgo1.elim
       | succ n =>
        simp only [goZ] at hgo1;split at hgo1
        ·rename_i c3 hchk
         exact ⟨_, hchk, hgo1.1⟩
        ·exact hgo1.elim
     obtain ⟨c', hck, hcc⟩ := hck;obtain ⟨c3, d, e, he, h3, hed⟩ := chkZ_ok hck hcc (i, o) (dT.2 ⟨hif, hpn⟩);obtain ⟨F1, S1, hi1⟩ := hz.inv;obtain ⟨hod, hown, v, S2, hrun, hi2⟩ := flE_ok hC hi1 he h3;rw [putE_self hed.symm hown] at hi2;rw [hz.agr.exec hsl hrd] at hrun;unfold Oper.wp;rw [hrun, Oper.upon_value, hod];have hTT : ∀ k, k ≠ i -> bW T i k = T k := fun k hk => by simp only [bW, bS hk, Bool.false_or]
     have hflo := (hz.pfd _ hif).2
     refine ⟨rest, dn, fr, fd, st, n, a'.put (some d) v, hz.go, ?_, hz.nd, ?_, ?_, hz.pfd, hz.all, ?_, ⟨F1, S2, hi2⟩⟩
     ·intro x hx
      have := hz.prs x hx
      refine ⟨?_, this.2⟩
      rw [hTT _ ?_]
      ·exact this.1
      ·intro e
       have h1 := this.2.1
       rw [e, ho] at h1; injection h1 with h1;have h2 := this.2.2;rw [<- h1, hflo] at h2; cases h2
     ·intro j hj
      by_cases hji : j = i
      ·subst hji; simp [bW]
      ·rw [hTT _ hji]; exact hz.pdn j hj
     ·intro x hx
      have := hz.pfr x hx
      refine ⟨?_, this.2⟩
      rw [hTT _ ?_]
      ·exact this.1
      ·intro e
       obtain ⟨y, hy, hb⟩ := this.2.2.2;rw [e] at hb;exact hnot y hy hb
     ·refine ⟨hz.agr.defers, by show (a'.tmps.setIfInBounds d v).size = (a.tmps.setIfInBounds d v).size; simp [hz.agr.size], fun t ht => ?_⟩
      rw [put_get, put_get, hz.agr.size];split
      ·rfl
      ·rename_i hdt
       refine hz.agr.get t ?_
       rintro ⟨x, hx, g1, g2⟩
       refine ht ⟨x, hx, ?_, g2⟩
       rw [hTT _ ?_]
       ·exact g1
       ·intro e
        have h1 := (hz.pfd x hx).1
        rw [e, ho] at h1; injection h1 with h1;rw [<- h1, hod] at g2;injection g2 with g2;exact hdt g2
   ·intro T a w hT hJ
    obtain ⟨rest, dn, fr, fd, st, n, a', hz⟩ := hJ;have hlt : ∀ {i : Nat} {o : Oper}, ops[i]? = some o -> T i = true := by
     intro i o ho;refine hT i ?_;rcases Nat.lt_or_ge i ops.size with h | h
     ·exact h
     ·rw [Array.getElem?_eq_none h] at ho; cases ho
    have hr : rest = [] := by
     refine List.eq_nil_iff_forall_not_mem.2 fun x hx => ?_
     have := hz.prs x hx
     rw [hlt this.2.1] at this; cases this.1
    subst hr;have heq : a' = a := hz.agr.eq (by
     rintro t ⟨x, hx, g1, _⟩
     rw [hlt (hz.pfd x hx).1] at g1; cases g1)
    have hgo1 := hz.go
    obtain ⟨_, _, _, hq⟩ := goZ_nil hgo1;have := hz.inv;rw [heq] at this;exact hQ st a w hq this
   ·intro w' hh hos htp hout
    obtain ⟨F, S, hi⟩ := hi;have hi' := hi.world hos htp hout (by rw [hh]; exact Nat.le_refl _) (fun b _ => by rw [hh]) (fun k _ _ => by rw [hh])
    obtain ⟨a2, S2, hi2, hag2⟩ := foldZ_ok hC (D := fun _ => False) hf0 hc1 hi' (Agr.refl _ a)
    refine ⟨chs, [], _, _, st1, _, a2, hgo, ?_, by rw [<- hchs]; exact List.Pairwise.sublist chZ_sub permI_nd, ?_, ?_, ?_, ?_, ?_, ⟨F, S2, hi2⟩⟩
    ·intro x hx
     exact ⟨rfl, hchm.1 hx⟩
    ·intro j hj; cases hj
    ·intro x hx
     obtain ⟨hx, hr⟩ := dT.1 hx;obtain ⟨g1, g2⟩ := hflm.1 hx;refine ⟨rfl, g1, g2, ?_⟩;simp only [Bool.not_eq_true'] at hr;have : ¬ ∀ y ∈ chs, (anc.getD x.1 0).testBit y.1 = false := by
      intro h;rw [rdyZ_iff.2 h] at hr; cases hr
     obtain ⟨y, hy⟩ := Classical.not_forall.1 this;have := Classical.not_imp.1 hy;exact ⟨y, this.1, by simpa using this.2⟩
    ·intro x hx
     exact hflm.1 (dT.1 hx).1
    ·intro i o ho
     cases hfo : flB o
     ·exact .inl (hchm.2 ⟨ho, hfo⟩)
     ·have hm : (i, o) ∈ fls := hflm.2 ⟨ho, hfo⟩
      cases hr : rdyZ anc i chs
      ·exact .inr (.inr (.inl (dT.2 ⟨hm, by simp [hr]⟩)))
      ·exact .inr (.inr (.inr (dT.2 ⟨hm, hr⟩)))
    ·refine hag2.mono ?_
     rintro t (h | ⟨x, hx, hd⟩)
     ·exact h.elim
     ·exact ⟨x, hx, rfl, hd⟩
 ·exact h.elim
end
end Go.Lf
namespace Go.Lf

def leE : Ent -> Ent -> Prop
 | _, .dead => True
 | .shr τ x, .shr σ y => match bU (τ := τ) (σ := σ) x with
  | some z => z = y
  | none => False
 | .full e x, .shr σ y => match bU (τ := .slice e) (σ := σ) x with
  | some z => z = y
  | none => False
 | .full e x, .full e' y => match bU (τ := .slice e) (σ := .slice e') x with
  | some z => z = y
  | none => False
 | .own τ m x, .own σ m' y => bif decide (m = m') then (match bU (τ := τ) (σ := σ) x with
  | some z => z = y
  | none => False) else False
 | .box τ m x, .box σ m' y => bif decide (m = m') then (match bU (τ := τ) (σ := σ) x with
  | some z => z = y
  | none => False) else False
 | .saddr τ x, .saddr σ y => match bU (τ := τ) (σ := σ) x with
  | some z => z = y
  | none => False
 | .rd r τ x, .rd r' σ y => bif Nat.beq r r' then (match bU (τ := τ) (σ := σ) x with
  | some z => z = y
  | none => False) else False
 | .raddr r τ x, .raddr r' σ y => bif Nat.beq r r' then (match bU (τ := τ) (σ := σ) x with
  | some z => z = y
  | none => False) else False
 | .sub r p, .sub r' p' => bif Nat.beq r r' then p = p' else False
 | .addr r p, .addr r' p' => bif Nat.beq r r' then p = p' else False
 | .nilS, .nilS => True
 | .nilS, .shr (.slice _) y => y = []
 | .nilS, .own (.slice _) (.own _) y => y = []
 | .fn A R g, .fn A' R' g' => ∃ (h1 : A = A') (h2 : R = R'), (h1 ▸ h2 ▸ g : Fun A' R') = g'
 | .pp r, .pp r' => bif Nat.beq r r' then True else False
 | _, _ => False

theorem leE_cases {e e' : Ent} (h : leE e e') : e' = .dead ∨ e' = e ∨ (e = .nilS /\ ∃ τ, e' = .shr (.slice τ) ([] : List τ.den)) ∨ (e = .nilS /\ ∃ τ me, e' = .own (.slice τ) (.own me) ([] : List τ.den)) ∨
  ∃ e0 x, e = .full e0 x /\ e' = .shr (.slice e0) x := by
 have aux : ∀ {τ σ : Ty} {x : τ.den} {y : σ.den} {f : (τ : Ty) -> τ.den -> Ent}, (match bU (τ := τ) (σ := σ) x with | some z => z = y | none => False) -> f σ y = f τ x := by
  intro τ σ x y f h;split at h
  ·rename_i z hz
   have := aT hz
   injection this with e1 e2;subst e1; cases e2; subst h; rfl
  ·cases h
 unfold leE at h
 split at h
 ·exact .inl rfl
 ·exact .inr (.inl (aux (f := .shr) h))
 ·rename_i e x σ y
  right; right; right; right
  split at h
  ·rename_i z hz
   have := aT hz
   injection this with e1 e2;subst e1; cases e2; subst h;exact ⟨e, x, rfl, rfl⟩
  ·cases h
 ·rename_i e x e' y
  right; left
  split at h
  ·rename_i z hz
   have := aT hz
   injection this with e1 e2;injection e1 with e1;subst e1; cases e2; subst h; rfl
  ·cases h
 ·rename_i τ m x σ m' y
  cases hm : decide (m = m')
  ·rw [hm] at h; cases h
  ·rw [hm] at h
   have := of_decide_eq_true hm
   subst this;exact .inr (.inl (aux (f := fun τ x => .own τ m x) h))
 ·rename_i τ m x σ m' y
  cases hm : decide (m = m')
  ·rw [hm] at h; cases h
  ·rw [hm] at h
   have := of_decide_eq_true hm
   subst this;exact .inr (.inl (aux (f := fun τ x => .box τ m x) h))
 ·exact .inr (.inl (aux (f := .saddr) h))
 ·rename_i r τ x r' σ y
  cases hm : Nat.beq r r'
  ·rw [hm] at h; cases h
  ·rw [hm] at h
   have := aX.1 hm
   subst this;exact .inr (.inl (aux (f := fun τ x => .rd r τ x) h))
 ·rename_i r τ x r' σ y
  cases hm : Nat.beq r r'
  ·rw [hm] at h; cases h
  ·rw [hm] at h
   have := aX.1 hm
   subst this;exact .inr (.inl (aux (f := fun τ x => .raddr r τ x) h))
 ·rename_i r p r' p'
  cases hm : Nat.beq r r'
  ·rw [hm] at h; cases h
  ·rw [hm] at h
   have := aX.1 hm
   subst this;simp only [cond_true] at h;subst h;exact .inr (.inl rfl)
 ·rename_i r p r' p'
  cases hm : Nat.beq r r'
  ·rw [hm] at h; cases h
  ·rw [hm] at h
   have := aX.1 hm
   subst this;simp only [cond_true] at h;subst h;exact .inr (.inl rfl)
 ·exact .inr (.inl rfl)
 ·rename_i τ y
  subst h;exact .inr (.inr (.inl ⟨rfl, τ, rfl⟩))
 ·rename_i τ me y
  subst h;exact .inr (.inr (.inr (.inl ⟨rfl, τ, me, rfl⟩)))
 ·obtain ⟨h1, h2, h⟩ := h
  subst h1; subst h2; subst h;exact .inr (.inl rfl)
 ·rename_i r r'
  cases hm : Nat.beq r r'
  ·rw [hm] at h; cases h
  ·have := aX.1 hm
   subst this;exact .inr (.inl rfl)
 ·cases h

theorem aM.le {P : Program} {N : NP} {w0 : World} {F0 H : aA} {env : St} {a : Act} {w : World} {F : aA} {S : Nat -> aA} (hi : aM P N w0 F0 H env a w F S) {env2 : St}
  (h1 : ∀ t, leE (env t) (env2 t)) (h2 : ∀ t r, (env2 t).root = some r -> (env2 r).isOwner = true) : aM P N w0 F0 H env2 a w F S := by
 refine ⟨hi.os, hi.tape, hi.output, hi.size, hi.block, hi.fb, hi.f0, hi.fn, hi.sb, hi.sd, ?_, hi.defers, hi.slots⟩
 intro t
 have ht := hi.ent t
 rcases leE_cases (h1 t) with h | h | ⟨h, τ, h'⟩ | ⟨h, τ, me, h'⟩ | ⟨e0, x, h, h'⟩
 ·rw [h]; trivial
 ·rw [h]
  refine aC.keep (fun _ h => h) (fun _ _ => rfl) rfl ?_ (fun _ => ⟨rfl, fun _ _ => rfl, fun b h1 h2 => absurd h1 h2⟩) ht
  intro r hr;refine ⟨fun ho => ?_, fun _ => rfl, rfl, fun _ _ => rfl, fun b h1 h2 => absurd h1 h2, fun b hb => (hi.sb r b hb).2.2⟩
  have ho2 := h2 t r (by rw [h]; exact hr)
  rcases leE_cases (h1 r) with k | k | ⟨k, _, k'⟩ | ⟨k, _, _, k'⟩ | ⟨_, _, k, k'⟩
  ·rw [k] at ho2; cases ho2
  ·exact k
  ·rw [k] at ho; cases ho
  ·rw [k] at ho; cases ho
  ·rw [k] at ho; cases ho
 ·rw [h] at ht
  rw [h'];have ht : a.tmps.getD t undef = .slice none 0 0 := ht;show aP F w (.slice τ) .shr none' (a.tmps.getD t undef) ([] : List τ.den);rw [ht]; exact .nil _ _ _ _ _
 ·rw [h] at ht
  rw [h'];have ht : a.tmps.getD t undef = .slice none 0 0 := ht;obtain ⟨cs, q1, q2⟩ := aP.nil F w τ (.own me) (S t);exact ⟨.val cs, S t, cs, .inl ⟨rfl, rfl, rfl, ht.trans q1⟩, rfl, q2⟩
 ·rw [h] at ht
  rw [h'];obtain ⟨_, _, ht⟩ := ht;exact ht

structure aW where
 ι : Type
 inv : ι -> Prop
 dec : ι -> Nat
 ovr : ι -> List (Nat × Ent)
 keep : List Nat
 sub : ι -> List aW := fun _ => []
 frz : List Nat := []

def stx (l : aW) (st : St) (x : l.ι) : St := fun t => match look (l.ovr x) t with
 | some e => e
 | none => bif dQ l.keep t then st t else .dead

def keysL : List (Nat × Ent) -> List Nat
 | [] => []
 | p :: l => p.1 :: keysL l

def leAll (st st' : St) : List Nat -> Prop
 | [] => True
 | t :: l => leE (st t) (st' t) /\ leAll st st' l
def rootsB (st : St) : List Nat -> Bool
 | [] => true
 | t :: l => (match (st t).root with
  | some r => (st r).isOwner
  | none => true) && rootsB st l

def atX (l : aW) (st : St) (x : l.ι) (st' : St) : Prop :=
 bif rootsB (stx l st x) (keysL (l.ovr x) ++ l.keep) then leAll st' (stx l st x) (keysL (l.ovr x) ++ l.keep) else False

def nl : Code -> Nat
 | .loop b => 1
 | .seq a b => nl a + nl b
 | .cond _ a b => nl a + nl b
 | .block _ b => nl b
 | _ => 0

def wpI (C : Ctx) (stp : St -> Oper -> Option (Prop × St)) : List aW -> Code -> Nat -> St -> (St -> Prop) -> (Nat -> St -> Prop) -> (St -> Prop) -> Prop
 | _, .skip, _, st, Qn, _, _ => Qn st
 | L, .region _ ops draw, _, st, Qn, _, _ => match regionA C stp draw st ops.toList with
  | some (c, st') => c /\ Qn st'
  | none => bif draw then (match regionA C stp true st (hoist ops.toList) with
   | some (c, st') => c /\ Qn st'
   | none => match regionY C st ops.toList with
    | some (c, st') => c /\ Qn st'
    | none => regionZ C stp st ops.toList Qn) else False
 | L, .seq a b, k, st, Qn, Qx, Qr => wpI C stp L a k st (fun st' => wpI C stp L b (k + nl a) st' Qn Qx Qr) Qx Qr
 | L, .cond x a b, k, st, Qn, Qx, Qr => match (bR st x).val with
  | some ⟨.bool, p⟩ => (p = true -> wpI C stp L a k st Qn Qx Qr) /\ (p = false -> wpI C stp L b (k + nl a) st Qn Qx Qr)
  | none => match (bR st x).e with
   | .nb p q => (p -> wpI C stp L a k st Qn Qx Qr) /\ (q -> wpI C stp L b (k + nl a) st Qn Qx Qr)
   | _ => False
  | _ => False
 | L, .block id b, k, st, Qn, Qx, Qr => wpI C stp L b k st Qn (fun i st' => bif Nat.beq i id then Qn st' else Qx i st') Qr
 | L, .loop b, k, st, _, Qx, Qr => match L[k]? with
  | some l => (∃ x, l.inv x /\ atX l (frzA st l.frz) x (frzA st l.frz)) /\ ∀ x, l.inv x -> factsL (l.ovr x) [] -> wpI C stp (l.sub x) b 0 (stx l (frzA st l.frz) x) (fun st' => ∃ y, l.inv y /\ l.dec y < l.dec x /\ atX l (frzA st l.frz) y (frzA st' l.frz)) Qx Qr
  | none => False
 | _, .exit id, _, st, _, Qx, _ => Qx id st
 | _, .ret, _, st, _, _, Qr => Qr st
 | _, _, _, _, _, _, _ => False

section
variable {P : Program} {C : Ctx} {w0 : World} {F0 H : aA}

theorem look_keys : ∀ {l : List (Nat × Ent)} {t : Nat} {e : Ent}, look l t = some e -> t ∈ keysL l
 | [], _, _, h => by cases h
 | (k, v) :: l, t, e, h => by
  simp only [look] at h;cases hb : Nat.beq k t
  ·rw [hb] at h; simp only [keysL, List.mem_cons]; exact .inr (look_keys h)
  ·simp only [keysL, List.mem_cons]; exact .inl (aX.1 hb).symm

theorem leAll_mem {st st' : St} : ∀ {l : List Nat} {t : Nat}, leAll st st' l -> t ∈ l -> leE (st t) (st' t)
 | x :: l, t, h, ht => by
  rcases List.mem_cons.1 ht with rfl | ht
  ·exact h.1
  ·exact leAll_mem h.2 ht
theorem rootsB_mem {st : St} : ∀ {l : List Nat} {t r : Nat}, rootsB st l = true -> t ∈ l -> (st t).root = some r -> (st r).isOwner = true
 | x :: l, t, r, h, ht, hr => by
  simp only [rootsB, Bool.and_eq_true] at h;rcases List.mem_cons.1 ht with rfl | ht
  ·have := h.1; rw [hr] at this; exact this
  ·exact rootsB_mem h.2 ht hr

theorem leE_dead (e : Ent) : leE e .dead := by cases e <;> trivial

theorem atX_ok {N : NP} {l : aW} {st st' : St} {x : l.ι} (h : atX l st x st') {a : Act} {w : World} (hi : Inv P N w0 F0 H st' a w) : Inv P N w0 F0 H (stx l st x) a w := by
 unfold atX at h
 cases hb : rootsB (stx l st x) (keysL (l.ovr x) ++ l.keep)
 ·rw [hb] at h; cases h
 rw [hb] at h
 simp only [cond_true] at h
 obtain ⟨F, S, hi⟩ := hi
 have hkey : ∀ t, stx l st x t ≠ .dead -> t ∈ keysL (l.ovr x) ++ l.keep := by
  intro t ht;unfold stx at ht;rw [List.mem_append];cases hl : look (l.ovr x) t with
  | some e => exact .inl (look_keys hl)
  | none =>
   rw [hl] at ht;simp only [] at ht;cases hm : dQ l.keep t
   ·rw [hm] at ht; exact absurd rfl ht
   ·exact .inr (eJ.1 hm)
 refine ⟨F, S, hi.le ?_ ?_⟩
 ·intro t
  by_cases ht : stx l st x t = .dead
  ·rw [ht]; exact leE_dead _
  ·exact leAll_mem h (hkey t ht)
 ·intro t r hr
  exact rootsB_mem hb (hkey t (fun h => by rw [h] at hr; cases hr)) hr

theorem wp_loop_x {c : Code} {ι : Type} (I : ι -> Act -> World -> Prop) (dec : ι -> Nat) {Q : Exit -> Act -> World -> Prop} {a : Act} {w : World} (x : ι) (h0 : I x a w)
  (round : ∀ x a w, I x a w -> c.wp P (Exit.then (fun a' w' => ∃ y, I y a' w' /\ dec y < dec x) Q) a w) : (Code.loop c).wp P Q a w := by
 have hmin : ∀ (p : Nat -> Prop) (n : Nat), p n -> ∃ m, p m /\ ∀ k, p k -> m <= k := by
  intro p n
  induction n using Nat.strongRecOn with
  | _ n ih =>
   intro hn;by_cases h : ∃ m, m < n /\ p m
   ·obtain ⟨m, h1, h2⟩ := h; exact ih m h1 h2
   ·refine ⟨n, hn, fun k hk => ?_⟩
    rcases Nat.lt_or_ge k n with h' | h'
    ·exact absurd ⟨k, h', hk⟩ h
    ·exact h'
 let p : Act -> World -> Nat -> Prop := fun a w n => ∃ x, I x a w /\ dec x = n
 have hex : ∀ a w, ∃ m, (∃ n, p a w n) -> p a w m /\ ∀ k, p a w k -> m <= k := by
  intro a w;by_cases h : ∃ n, p a w n
  ·obtain ⟨n, hn⟩ := h
   obtain ⟨m, h1, h2⟩ := hmin (p a w) n hn;exact ⟨m, fun _ => ⟨h1, h2⟩⟩
  ·exact ⟨0, fun h' => absurd h' h⟩
 let μ : Act -> World -> Nat := fun a w => Classical.choose (hex a w)
 have hμ : ∀ a w, (∃ n, p a w n) -> p a w (μ a w) /\ ∀ k, p a w k -> μ a w <= k := fun a w => Classical.choose_spec (hex a w)
 refine wp_loop (fun a w => ∃ x, I x a w) μ ⟨x, h0⟩ ?_
 intro a w ⟨x, hx⟩
 obtain ⟨⟨y, hy, hd⟩, _⟩ := hμ a w ⟨_, x, hx, rfl⟩
 refine wp_mono (round y a w hy) ?_
 intro e a' w' h
 cases e with
 | normal =>
  obtain ⟨z, hz, hlt⟩ := h;refine ⟨⟨z, hz⟩, ?_⟩;have := (hμ a' w' ⟨_, z, hz, rfl⟩).2 _ ⟨z, hz, rfl⟩;omega
 | _ => exact h

theorem cH (hC : aF P C) {stp : St -> Oper -> Option (Prop × St)} (hstp : eD P C stp) :
  ∀ (c : Code) {L : List aW} {k : Nat} {st : St} {Qn : St -> Prop} {Qx : Nat -> St -> Prop} {Qr : St -> Prop} {Q : Exit -> Act -> World -> Prop} {a : Act} {w : World}, wpI C stp L c k st Qn Qx Qr -> Inv P C.np w0 F0 H st a w ->
   (∀ st a w, Qn st -> Inv P C.np w0 F0 H st a w -> Q .normal a w) -> (∀ i st a w, Qx i st -> Inv P C.np w0 F0 H st a w -> Q (.exit i) a w) -> (∀ st a w, Qr st -> Inv P C.np w0 F0 H st a w -> Q .ret a w) -> c.wp P Q a w
 | .skip, L, k, st, Qn, Qx, Qr, Q, a, w, h, hi, hn, hx, hr => wp_skip (hn _ _ _ h hi)
 | .region id ops draw, L, k, st, Qn, Qx, Qr, Q, a, w, h, hi, hn, hx, hr => by
  simp only [wpI] at h;split at h
  ·rename_i c st' hr'
   exact (regionA_ok hC hstp hr' h.1 hi (fun a' w' hi' => hn _ _ _ h.2 hi')).wp hC.mixed
  ·cases draw with
   | false => cases h
   | true =>
    simp only [cond_true] at h;split at h
    ·rename_i c st' hr'
     have h1 := regionA_ok (ops := (hoist ops.toList).toArray) (Q := onlyN fun a' w' => Inv P C.np w0 F0 H st' a' w') hC hstp hr' h.1 hi (fun a' w' hi' => hi')
     refine wp_mono ((hoist_ok h1).wp (id := id) hC.mixed) ?_
     intro e a' w' h';cases e with
     | normal => exact hn _ _ _ h.2 h'
     | _ => exact h'.elim
    ·split at h
     ·rename_i c st' hr'
      exact (regionY_ok hC hr' h.1 hi (fun a' w' hi' => hn _ _ _ h.2 hi')).wp hC.mixed
     ·exact (regionZ_ok hC hstp h hi (fun st' a' w' hq hi' => hn _ _ _ hq hi')).wp hC.mixed
 | .seq x y, L, k, st, Qn, Qx, Qr, Q, a, w, h, hi, hn, hx, hr => by
  simp only [wpI] at h;refine wp_seq (cH hC hstp x h hi ?_ ?_ ?_)
  ·intro st1 a1 w1 h1 hi1
   exact cH hC hstp y h1 hi1 hn hx hr
  ·exact hx
  ·exact hr
 | .cond z x y, L, k, st, Qn, Qx, Qr, Q, a, w, h, hi, hn, hx, hr => by
  simp only [wpI] at h;split at h
  ·rename_i p hv
   obtain ⟨F, S, hi0⟩ := hi;have := (aK.val_ok hi0 (bA hi0 z) hv).bool_eq;refine wp_cond_split this (fun hp => cH hC hstp x (h.1 hp) ⟨F, S, hi0⟩ hn hx hr) (fun hp => cH hC hstp y (h.2 hp) ⟨F, S, hi0⟩ hn hx hr)
  ·split at h
   ·rename_i p q hv
    obtain ⟨F, S, hi0⟩ := hi;have h1 := (bA hi0 z).ent (by rw [hv]; rfl) 0 (by rw [hv]; simp [Ent.root]);rw [hv] at h1;simp only [aC, if_true] at h1;obtain ⟨b, h1, h2, h3⟩ := h1;refine wp_cond_split h1 (fun hp => cH hC hstp x (h.1 (h2 hp)) ⟨F, S, hi0⟩ hn hx hr) (fun hp => cH hC hstp y (h.2 (h3 hp)) ⟨F, S, hi0⟩ hn hx hr)
   ·cases h
  ·cases h
 | .block id b, L, k, st, Qn, Qx, Qr, Q, a, w, h, hi, hn, hx, hr => by
  simp only [wpI] at h;refine wp_block (cH hC hstp b h hi hn ?_ hr);intro i st1 a1 w1 h1 hi1;simp only [Exit.inBlock];cases hb : Nat.beq i id
  ·rw [hb] at h1
   have : i ≠ id := fun e => by subst e; rw [Nat.beq_refl] at hb; cases hb
   rw [if_neg this];exact hx _ _ _ _ h1 hi1
  ·rw [hb] at h1
   rw [if_pos (aX.1 hb)];exact hn _ _ _ h1 hi1
 | .loop b, L, k, st, Qn, Qx, Qr, Q, a, w, h, hi, hn, hx, hr => by
  simp only [wpI] at h;split at h
  ·rename_i l hl
   obtain ⟨⟨x, h1, h2⟩, h3⟩ := h;refine wp_loop_x (fun x a w => l.inv x /\ Inv P C.np w0 F0 H (stx l (frzA st l.frz) x) a w) l.dec x ⟨h1, atX_ok h2 (frzA_ok hi)⟩ ?_
   intro y a1 w1 ⟨g1, g2⟩;refine cH hC hstp b (h3 y g1 (factsL_ok g2 (f := l.ovr y) (fun t e h => by simp only [stx, h]) (l.ovr y) [] (fun t e _ h => h))) g2 ?_ hx hr
   intro st2 a2 w2 ⟨z, k1, k2, k3⟩ hi2;exact ⟨z, ⟨k1, atX_ok k3 (frzA_ok hi2)⟩, k2⟩
  ·cases h
 | .exit id, L, k, st, Qn, Qx, Qr, Q, a, w, h, hi, hn, hx, hr => wp_exit (hx _ _ _ _ h hi)
 | .ret, L, k, st, Qn, Qx, Qr, Q, a, w, h, hi, hn, hx, hr => wp_ret (hr _ _ _ h hi)
 | .rangeFunc _ _ _ _, _, _, _, _, _, _, _, _, _, h, _, _, _, _ => by simp only [wpI] at h
 | .scope _, _, _, _, _, _, _, _, _, _, h, _, _, _, _ => by simp only [wpI] at h
 | .label _, _, _, _, _, _, _, _, _, _, h, _, _, _, _ => by simp only [wpI] at h
 | .goto _, _, _, _, _, _, _, _, _, _, h, _, _, _, _ => by simp only [wpI] at h
 | .refuse _, _, _, _, _, _, _, _, _, _, h, _, _, _, _ => by simp only [wpI] at h
end
end Go.Lf
namespace Go.Lf

def argEnt : (k : AK) -> k.den -> Ent
 | .val τ, x => .shr τ x
 | .fn A R, g => .fn A R g
 | .sptr τ, x => .saddr τ x
def dK : (ks : List AK) -> aN ks -> Nat -> List (Nat × Ent)
 | [], _, _ => []
 | k :: ks, x, n => (n, argEnt k x.1) :: dK ks x.2 (n + 1)
def ofL (l : List (Nat × Ent)) : St := fun t => match look l t with
 | some e => e
 | none => .dead

def readR (τ : Ty) (v : aK) : Option τ.den :=
 match v.shrAs τ with
 | some x => some x
 | none => match v.val with
  | some ⟨σ, x⟩ => bU (τ := σ) (σ := τ) x
  | none => none

def ownRs : (τ : Ty) -> Md -> List aK -> Option (τ.den × List Nat)
 | .unit, _, [] => some ((), [])
 | .prod a b, m, v :: vs => match ownR a m.fst v, ownRs b m.snd vs with
  | some (x, l), some (y, l') => some ((x, y), l ++ l')
  | _, _ => none
 | _, _, _ => none
def readRs : (τ : Ty) -> List aK -> Option τ.den
 | .unit, [] => some ()
 | .prod a b, v :: vs => match readR a v, readRs b vs with
  | some x, some y => some (x, y)
  | _, _ => none
 | _, _ => none

def cellOf (st : St) (T : TypeId) (C : Ctx) (t : Nat) (τ : Ty) : Option τ.den :=
 match st t with
 | .box σ _ x => bif decide (look C.tys T = some τ) then bU (τ := σ) (σ := τ) x else none
 | _ => none

def cellOwn (st : St) (T : TypeId) (C : Ctx) (t : Nat) (τ : Ty) (md : Md) : Option τ.den :=
 match st t with
 | .box σ m x => bif decide (look C.tys T = some τ) && decide (m = md) then bU (τ := σ) (σ := τ) x else none
 | _ => none

def viewsR (st : St) : List ResultVar -> Option (List aK)
 | [] => some []
 | .tmp t :: l => match viewsR st l with
  | some vs => some (bR st (.tmp t) :: vs)
  | none => none
 | .cell _ _ :: _ => none

def fL (C : Ctx) (st : St) : (τ : Ty) -> List ResultVar -> Option τ.den
 | .unit, [] => some ()
 | .prod a b, .tmp t :: rs => match readR a (bR st (.tmp t)), fL C st b rs with
  | some x, some y => some (x, y)
  | _, _ => none
 | .prod a b, .cell t T :: rs => match cellOf st T C t a, fL C st b rs with
  | some x, some y => some (x, y)
  | _, _ => none
 | _, _ => none
def retE (C : Ctx) (rs : List ResultVar) (s : bG) (st : St) : Option s.res.den :=
 match rs, s.multi with
 | [.tmp t], false => match ownR s.res s.mode (bR st (.tmp t)) with
  | some (x, _) => some x
  | none => bif dN s.mode then readR s.res (bR st (.tmp t)) else none
 | [.cell t T], false => bif s.res.flat || dN s.mode then cellOf st T C t s.res else cellOwn st T C t s.res s.mode
 | _, true => bif Nat.beq rs.length 1 then none else match viewsR st rs with
  | some vs => match ownRs s.res s.mode vs with
   | some (x, l) => bif bK l then some x else none
   | none => bif dN s.mode then readRs s.res vs else none
  | none => bif dN s.mode then fL C st s.res rs else none
 | _, _ => none

def retP (C : Ctx) (rs : List ResultVar) (s : bG) (y : s.res.den) (st : St) : Prop := match retE C rs s st with
 | some x => x = y
 | none => False

def c9 (C : Ctx) (stp : St -> Oper -> Option (Prop × St)) (s : bG) (L : aN s.args -> List aW) (fn : Func) : Prop :=
 match fn.body with
 | some c => ∀ x, s.pre x -> factsK s.args x -> wpI C stp (L x) c 0 (ofL (dK s.args x 0)) (retP C fn.results.toList s (s.fn x)) (fun _ _ => False) (retP C fn.results.toList s (s.fn x))
 | none => False

section
variable {P : Program} {C : Ctx} {N : NP} {w0 : World} {F0 H : aA} {env : St} {a : Act} {w : World} {F : aA} {S : Nat -> aA}

theorem argEnt_ok {k : AK} {v : Value} {x : k.den} (h : ArgOK P F w k v x) {V : Nat -> Value} {t : Nat} (hV : V t = v) : aC P F w env V S t (argEnt k x) := by
 cases k with
 | val τ => show aP F w τ .shr none' (V t) x; rw [hV]; exact h
 | fn A R => show FnVal P F w (V t) A R x; rw [hV]; exact h
 | sptr τ => show fV F w (V t) τ x; rw [hV]; exact h

theorem argsEnt_ok {V : Nat -> Value} : ∀ {ks : List AK} {vs : List Value} {x : aN ks} {n : Nat}, cO P F w ks vs x -> (∀ i v, vs[i]? = some v -> V (n + i) = v) ->
  vs.length = ks.length /\ ∀ t e, look (dK ks x n) t = some e -> e.isOwner = false /\ e.root = none /\ aC P F w env V S t e
 | [], vs, x, n, h, hV => by
  have h : vs = [] := h
  subst h; exact ⟨rfl, fun t e h => by cases h⟩
 | k :: ks, vs, x, n, h, hV => by
  obtain ⟨v, r, rfl, h1, h2⟩ := h;obtain ⟨g1, g2⟩ := argsEnt_ok (V := V) (n := n + 1) h2 (fun i u hu => by have := hV (i + 1) u (by simpa using hu); rw [<- this]; congr 1; omega)
  refine ⟨by simp [g1], fun t e he => ?_⟩
  simp only [dK, look] at he;cases hb : Nat.beq n t
  ·rw [hb] at he; exact g2 t e he
  ·rw [hb] at he
   simp only [cond_true, Option.some.injEq] at he;subst he;have ht := aX.1 hb;subst ht;refine ⟨by cases k <;> rfl, by cases k <;> rfl, argEnt_ok h1 (by have := hV 0 v rfl; simpa using this)⟩

theorem aM.start {ks : List AK} {vs : List Value} {x : aN ks} (hG : GlbOK N.g F w) (hF : ∀ b, F b -> b < w.heap.size) (h : cO P F w ks vs x) (hn : vs.length <= N.n) (hp : N.p = none) :
  aM P N w F none' (ofL (dK ks x 0)) { tmps := vs.toArray ++ Array.replicate (N.n - vs.length) undef, defers := [] } w F (fun _ => none') := by
 have hV : ∀ i v, vs[i]? = some v -> (vs.toArray ++ Array.replicate (N.n - vs.length) undef).getD (0 + i) undef = v := by
  intro i v hv;have hi : i < vs.length := by
   rcases Nat.lt_or_ge i vs.length with h | h
   ·exact h
   ·rw [List.getElem?_eq_none h] at hv; cases hv
  rw [Nat.zero_add, Array.getD_eq_getD_getElem?, Array.getElem?_append_left (by simpa using hi)];simp [hv]
 have he := argsEnt_ok (env := ofL (dK ks x 0)) (S := fun _ => none') (V := fun t => (vs.toArray ++ Array.replicate (N.n - vs.length) undef).getD t undef) (n := 0) h hV
 refine ⟨rfl, rfl, rfl, Nat.le_refl _, fun _ _ _ => rfl, hF, fun _ h => h, fun b h1 h2 => absurd h1 h2, fun _ _ h => h.elim, fun _ _ _ _ h => h.elim, ?_, rfl, ⟨by simp; omega, (fun s h => by rw [hp] at h; cases h), fun b o h => ⟨(hG b o h).1, fun h => h.elim, hF b (hG b o h).1, (hG b o h).2⟩⟩⟩
 intro t
 show aC P F w (ofL (dK ks x 0)) (fun t => (vs.toArray ++ Array.replicate (N.n - vs.length) undef).getD t undef) (fun _ => none') t (match look (dK ks x 0) t with | some e => e | none => .dead)
 cases hl : look (dK ks x 0) t with
 | none => trivial
 | some e => exact (he.2 t e hl).2.2

theorem readR_ok (hi : aM P N w0 F0 H env a w F S) {v : Value} {vw : aK} (hv : aU P F w env (fun t => a.tmps.getD t undef) S v vw) {τ : Ty} {x : τ.den} (h : readR τ vw = some x) :
  aP (FA F S) w τ .shr none' v x := by
 unfold readR at h
 split at h
 ·rename_i y hy
  simp only [Option.some.injEq] at h;subst h;exact (eQ hi hv hy).mono (fun b hb => .inl hb) (fun _ h => h)
 ·split at h
  ·rename_i σ y hy
   have := aT h
   injection this with e1 e2; subst e1; cases e2;exact aK.val_ok hi hv hy
  ·cases h

def resG (a : Act) : ResultVar -> Sem Value
 | ResultVar.tmp t => (pure (a.tmps.getD t undef) : Sem Value)
 | .cell b t => do loadVar t (<- asAddr (a.tmps.getD b undef))

theorem viewsR_ok (hi : aM P N w0 F0 H env a w F S) : ∀ {rs : List ResultVar} {vws : List aK}, viewsR env rs = some vws ->
  ∃ vs, VsOK P F w env (fun t => a.tmps.getD t undef) S vs vws /\ (rs.mapM (resG a)).run P w = .ok vs w /\ vs.length = rs.length
 | [], vws, h => by
  simp only [viewsR, Option.some.injEq] at h;subst h;exact ⟨[], trivial, by simp [Sem.run_pure], rfl⟩
 | .tmp t :: rs, vws, h => by
  simp only [viewsR] at h;split at h
  ·rename_i vws' h'
   simp only [Option.some.injEq] at h;subst h;obtain ⟨vs, h1, h2, h3⟩ := viewsR_ok hi h';refine ⟨a.tmps.getD t undef :: vs, ⟨bA hi (.tmp t), h1⟩, ?_, by simp [h3]⟩
   rw [List.mapM_cons];simp only [resG, Sem.run_bind, Sem.run_pure, Result.andThen];rw [h2]
  ·cases h
 | .cell _ _ :: _, _, h => by cases h

theorem ownRs_ok (hi : aM P N w0 F0 H env a w F S) : ∀ {τ : Ty} {m : Md} {vs : List Value} {vws : List aK} {x : τ.den} {l : List Nat},
  VsOK P F w env (fun t => a.tmps.getD t undef) S vs vws -> ownRs τ m vws = some (x, l) -> bK l = true -> cV F w τ m (SL S l) vs x
 | .unit, m, [], [], x, l, _, h, _ => rfl
 | .prod A B, m, v :: vs, vw :: vws, x, l, ⟨hv, hvs⟩, h, hn => by
  simp only [ownRs] at h;split at h
  ·rename_i y l1 z l2 h1 h2
   simp only [Option.some.injEq, Prod.mk.injEq] at h;obtain ⟨rfl, rfl⟩ := h;have hfst : ∃ S1, Sub S1 (SL S l1) /\ aP F w A m.fst S1 v y := by
    rcases ownR_ok hi hv h1 with ⟨rfl, h3⟩ | ⟨t, rfl, h3⟩
    ·exact ⟨none', fun _ h => h.elim, h3⟩
    ·exact ⟨S t, fun b hb => ⟨t, by simp, hb⟩, h3⟩
   have hn2 : bK l2 = true /\ ∀ t, t ∈ l1 -> t ∉ l2 := by
    rcases ownR_ok hi hv h1 with ⟨rfl, h3⟩ | ⟨t, rfl, h3⟩
    ·exact ⟨hn, fun _ h => by cases h⟩
    ·have := nodup_cons hn
     exact ⟨this.2, fun u hu => by simp at hu; subst hu; exact this.1⟩
   obtain ⟨S1, k1, k2⟩ := hfst;refine ⟨v, vs, S1, SL S l2, rfl, ?_, ?_, ?_, k2, ownRs_ok hi hvs h2 hn2.1⟩
   ·intro b hb; obtain ⟨t, ht, hb⟩ := k1 b hb; exact ⟨t, by simp [ht], hb⟩
   ·intro b hb; obtain ⟨t, ht, hb⟩ := hb; exact ⟨t, by simp [ht], hb⟩
   ·intro b hb1 hb2
    obtain ⟨t1, ht1, hb1⟩ := k1 b hb1;obtain ⟨t2, ht2, hb2⟩ := hb2;exact hi.sd t1 t2 (fun h => hn2.2 t1 ht1 (h ▸ ht2)) b hb1 hb2
  ·cases h
 | .prod _ _, _, [], [], _, _, _, h, _ => by simp [ownRs] at h
 | .prod _ _, _, [], _ :: _, _, _, h, _, _ => h.elim
 | .prod _ _, _, _ :: _, [], _, _, h, _, _ => h.elim
 | .unit, _, [], _ :: _, _, _, h, _, _ => h.elim
 | .unit, _, _ :: _, [], _, _, h, _, _ => h.elim
 | .unit, _, _ :: _, _ :: _, _, _, _, h, _ => by simp [ownRs] at h
 | .int _, _, _, _, _, _, _, h, _ => by simp [ownRs] at h
 | .bool, _, _, _, _, _, _, h, _ => by simp [ownRs] at h
 | .str, _, _, _, _, _, _, h, _ => by simp [ownRs] at h
 | .abs _, _, _, _, _, _, _, h, _ => by simp [ownRs] at h
 | .slice _, _, _, _, _, _, _, h, _ => by simp [ownRs] at h
 | .arr _ _, _, _, _, _, _, _, h, _ => by simp [ownRs] at h

theorem readRs_ok (hi : aM P N w0 F0 H env a w F S) : ∀ {τ : Ty} {vs : List Value} {vws : List aK} {x : τ.den},
  VsOK P F w env (fun t => a.tmps.getD t undef) S vs vws -> readRs τ vws = some x -> cV (FA F S) w τ .shr none' vs x
 | .unit, [], [], x, _, h => rfl
 | .prod A B, v :: vs, vw :: vws, x, ⟨hv, hvs⟩, h => by
  simp only [readRs] at h;split at h
  ·rename_i y z h1 h2
   simp only [Option.some.injEq] at h;subst h;exact ⟨v, vs, none', none', rfl, fun _ h => h, fun _ h => h, fun _ h => h.elim, readR_ok hi hv h1, readRs_ok hi hvs h2⟩
  ·cases h
 | .prod _ _, [], [], _, _, h => by simp [readRs] at h
 | .prod _ _, [], _ :: _, _, h, _ => h.elim
 | .prod _ _, _ :: _, [], _, h, _ => h.elim
 | .unit, [], _ :: _, _, h, _ => h.elim
 | .unit, _ :: _, [], _, h, _ => h.elim
 | .unit, _ :: _, _ :: _, _, _, h => by simp [readRs] at h
 | .int _, _, _, _, _, h => by simp [readRs] at h
 | .bool, _, _, _, _, h => by simp [readRs] at h
 | .str, _, _, _, _, h => by simp [readRs] at h
 | .abs _, _, _, _, _, h => by simp [readRs] at h
 | .slice _, _, _, _, _, h => by simp [readRs] at h
 | .arr _ _, _, _, _, _, h => by simp [readRs] at h

theorem aM.post {F : aA} (hi : aM P N w0 F0 none' env a w F S) {multi : Bool} {τ : Ty} {m : Md} {v : Value} {x : τ.den} {F' Sd : aA}
  (hF : Sub F F') (hF' : ∀ b, F' b -> F b ∨ ∃ t, S t b) (hS : ∀ b, Sd b -> (∃ t, S t b) /\ ¬ F' b) (h : RetV F' w multi τ m Sd v x) :
  Post F0 w0 multi τ m x (.returned v) w := by
 have hnew : ∀ b, (∃ t, S t b) -> w0.heap.size <= b /\ b < w.heap.size := by
  rintro b ⟨t, hb⟩
  obtain ⟨h1, h2, _⟩ := hi.sb t b hb;exact ⟨h1.elim id (fun h => h.elim), h2⟩
 refine ⟨v, F', Sd, rfl, ?_, fun b hb => hF b (hi.f0 b hb), ?_, ?_, ?_, h⟩
 ·exact ⟨hi.os, hi.tape, hi.output, hi.size, fun k hk => hi.block k hk (fun h => h)⟩
 ·intro b h1 h2
  rcases hF' b h1 with h | h
  ·exact (hi.fn b h h2).elim id (fun h => h.elim)
  ·exact (hnew b h).1
 ·intro b h
  rcases h with h | h
  ·rcases hF' b h with h | h
   ·exact hi.fb b h
   ·exact (hnew b h).2
  ·exact (hnew b (hS b h).1).2
 ·intro b h
  exact ⟨(hnew b (hS b h).1).1, (hS b h).2⟩


theorem eC {fn : Func} {vs : List Value} (h : (fn.results.toList.mapM (resG a)).run P w = .ok vs w) :
  (results fn a.tmps).run P w = .ok (if h : vs.toArray.size = 1 then vs.toArray[0] else .tuple vs.toArray) w := by
 have e : results fn a.tmps = (fn.results.mapM (resG a)) >>= fun vs => pure (if h : vs.size = 1 then vs[0] else .tuple vs) := by
  unfold results
  congr 1
 rw [e, Array.mapM_eq_mapM_toList]
 simp only [map_eq_pure_bind, Sem.run_bind, h, Result.andThen, Sem.run_pure]

theorem cellOf_ok (hC : aF P C) (hi : aM P N w0 F0 H env a w F S) {T : TypeId} {t : Nat} {τ : Ty} {x : τ.den} (h : cellOf env T C t τ = some x) :
  ∃ v, (resG a (.cell t T)).run P w = .ok v w /\ aP (FA F S) w τ .shr none' v x := by
 unfold cellOf at h
 split at h
 ·rename_i σ m z he
  cases hT : decide (look C.tys T = some τ)
  ·rw [hT] at h; cases h
  rw [hT] at h;simp only [cond_true] at h;have hT' := of_decide_eq_true hT;have := aT h;injection this with e1 e2;subst e1; cases e2;have h1 := hi.ent t;rw [he] at h1;obtain ⟨pl, S0, cs, h1⟩ := h1;obtain ⟨_, _, b, rfl, rfl, hv, hb⟩ := h1.box_inj;obtain ⟨q1, q2, row, T0, q3, q4, q5⟩ := h1.2.1;have hl := (hC.types T _ hT').loadVar q3 q4;rw [q5] at hl;refine ⟨bL σ cs, by simp only [resG, hv, asAddr, Sem.run_bind, Sem.run_pure, Result.andThen, hl], ?_⟩
  have hO : aP F w σ m (fun k => S t k /\ k ≠ b) (bL σ cs) z := ⟨cs, rfl, h1.2.2⟩
  exact hO.freeze (fun k hk => hk.imp id fun hk => ⟨t, hk.1⟩)
 ·cases h
theorem readCs_ok (hC : aF P C) (hi : aM P N w0 F0 H env a w F S) : ∀ {τ : Ty} {rs : List ResultVar} {x : τ.den}, fL C env τ rs = some x ->
  ∃ vs, (rs.mapM (resG a)).run P w = .ok vs w /\ vs.length = rs.length /\ cV (FA F S) w τ .shr none' vs x
 | .unit, [], x, h => ⟨[], by simp [Sem.run_pure], rfl, rfl⟩
 | .prod A B, .tmp t :: rs, x, h => by
  simp only [fL] at h;split at h
  ·rename_i y z h1 h2
   simp only [Option.some.injEq] at h;subst h;obtain ⟨vs, k1, k2, k3⟩ := readCs_ok hC hi h2;refine ⟨a.tmps.getD t undef :: vs, ?_, by simp [k2], _, vs, none', none', rfl, fun _ h => h, fun _ h => h, fun _ h => h.elim, readR_ok hi (bA hi (.tmp t)) h1, k3⟩
   rw [List.mapM_cons];simp only [resG, Sem.run_bind, Sem.run_pure, Result.andThen];rw [k1]
  ·cases h
 | .prod A B, .cell t T :: rs, x, h => by
  simp only [fL] at h;split at h
  ·rename_i y z h1 h2
   simp only [Option.some.injEq] at h;subst h;obtain ⟨vs, k1, k2, k3⟩ := readCs_ok hC hi h2;obtain ⟨v, q1, q2⟩ := cellOf_ok hC hi h1;refine ⟨v :: vs, ?_, by simp [k2], _, vs, none', none', rfl, fun _ h => h, fun _ h => h, fun _ h => h.elim, q2, k3⟩
   rw [List.mapM_cons];simp only [Sem.run_bind, Result.andThen, q1, k1, Sem.run_pure]
  ·cases h
 | .unit, _ :: _, _, h => by simp [fL] at h
 | .prod _ _, [], _, h => by simp [fL] at h
 | .int _, _, _, h => by simp [fL] at h
 | .bool, _, _, h => by simp [fL] at h
 | .str, _, _, h => by simp [fL] at h
 | .abs _, _, _, h => by simp [fL] at h
 | .slice _, _, _, h => by simp [fL] at h
 | .arr _ _, _, _, h => by simp [fL] at h

theorem retP_ok (hC : aF P C) {s : bG} {fn : Func} {y : s.res.den} (h : retP C fn.results.toList s y env) {a : Act} {w : World} (hi : Inv P N w0 F0 none' env a w) :
  ∃ v, (results fn a.tmps).run P w = .ok v w /\ Post F0 w0 s.multi s.res s.mode y (.returned v) w := by
 unfold retP at h
 generalize hret : retE C fn.results.toList s env = g at h
 cases g with
 | none => cases h
 | some x =>
  simp only [] at h;subst h;obtain ⟨F, S, hi⟩ := hi;have hFA : ∀ {m : Md} {v : Value}, dN m = true -> aP (FA F S) w s.res .shr none' v x -> s.multi = false -> m = s.mode -> Post F0 w0 s.multi s.res s.mode x (.returned v) w := by
   intro m v hm hv hmu hms;subst hms;have hm' : s.mode = .shr := by cases hmm : s.mode <;> first | rfl | (rw [hmm] at hm; cases hm)
   refine hi.post (F' := FA F S) (Sd := none') (fun b hb => .inl hb) (fun b hb => hb) (fun b hb => hb.elim) ?_
   rw [hmu, hm'];exact hv
  unfold retE at hret;split at hret
  ·rename_i t hrs hmu
   have hrun := eC (P := P) (w := w) (a := a) (fn := fn) (vs := [a.tmps.getD t undef]) (by rw [hrs]; simp [resG, Sem.run_bind, Sem.run_pure, Result.andThen])
   refine ⟨_, hrun, ?_⟩
   simp only [List.size_toArray, List.length_cons, List.length_nil, Nat.zero_add, dite_true];show Post F0 w0 s.multi s.res s.mode x (.returned (a.tmps.getD t undef)) w;have hv := bA hi (.tmp t);split at hret
   ·rename_i z l hz
    simp only [Option.some.injEq] at hret;subst hret;rcases ownR_ok hi hv hz with ⟨rfl, h⟩ | ⟨u, rfl, h⟩
    ·refine hi.post (F' := F) (Sd := none') (fun b hb => hb) (fun b hb => .inl hb) (fun b hb => hb.elim) ?_
     rw [hmu]; exact h
    ·refine hi.post (F' := F) (Sd := S u) (fun b hb => hb) (fun b hb => .inl hb) (fun b hb => ⟨⟨u, hb⟩, (hi.sb u b hb).2.2⟩) ?_
     rw [hmu]; exact h
   ·cases hm : dN s.mode
    ·rw [hm] at hret; cases hret
    ·rw [hm] at hret
     simp only [cond_true] at hret;exact hFA hm (readR_ok hi hv hret) hmu rfl
  ·rename_i t T hrs hmu
   cases hm : (s.res.flat || dN s.mode)
   ·rw [hm] at hret
    simp only [cond_false] at hret;unfold cellOwn at hret;split at hret
    ·rename_i σ m z he
     cases hT : (decide (look C.tys T = some s.res) && decide (m = s.mode))
     ·rw [hT] at hret; cases hret
     rw [hT] at hret;simp only [cond_true] at hret;simp only [Bool.and_eq_true, decide_eq_true_eq] at hT;obtain ⟨hT', hmd⟩ := hT;have := aT hret;injection this with e1 e2;subst e1; cases e2;have h1 := hi.ent t;rw [he] at h1;obtain ⟨pl, S0, cs, h1⟩ := h1;obtain ⟨_, _, b, rfl, rfl, hv, hb⟩ := h1.box_inj;obtain ⟨q1, q2, row, T0, q3, q4, q5⟩ := h1.2.1;have hl := (hC.types T _ hT').loadVar q3 q4;rw [q5] at hl;have hrun := eC (P := P) (w := w) (a := a) (fn := fn) (vs := [bL s.res cs]) (by
      rw [hrs];simp only [List.mapM_cons, List.mapM_nil, resG, hv, asAddr, Sem.run_bind, Sem.run_pure, Result.andThen, hl])
     refine ⟨_, hrun, ?_⟩
     simp only [List.size_toArray, List.length_cons, List.length_nil, Nat.zero_add, dite_true];show Post F0 w0 s.multi s.res s.mode _ (.returned (bL s.res cs)) w;refine hi.post (F' := F) (Sd := fun k => S t k /\ k ≠ b) (fun b hb => hb) (fun b hb => .inl hb) (fun k hk => ⟨⟨t, hk.1⟩, (hi.sb t k hk.1).2.2⟩) ?_
     rw [hmu];show aP F w s.res s.mode _ _ _;rw [<- hmd];exact ⟨cs, rfl, h1.2.2⟩
    ·cases hret
   rw [hm] at hret;simp only [cond_true] at hret;unfold cellOf at hret;split at hret
   ·rename_i σ m z he
    cases hT : decide (look C.tys T = some s.res)
    ·rw [hT] at hret; cases hret
    rw [hT] at hret;simp only [cond_true] at hret;have hT' := of_decide_eq_true hT;have := aT hret;injection this with e1 e2;subst e1; cases e2;have h1 := hi.ent t;rw [he] at h1;obtain ⟨pl, S0, cs, h1⟩ := h1;obtain ⟨_, _, b, rfl, rfl, hv, hb⟩ := h1.box_inj;obtain ⟨q1, q2, row, T0, q3, q4, q5⟩ := h1.2.1;have hl := (hC.types T _ hT').loadVar q3 q4;rw [q5] at hl;have hrun := eC (P := P) (w := w) (a := a) (fn := fn) (vs := [bL s.res cs]) (by
     rw [hrs];simp only [List.mapM_cons, List.mapM_nil, resG, hv, asAddr, Sem.run_bind, Sem.run_pure, Result.andThen, hl])
    refine ⟨_, hrun, ?_⟩
    simp only [List.size_toArray, List.length_cons, List.length_nil, Nat.zero_add, dite_true];show Post F0 w0 s.multi s.res s.mode _ (.returned (bL s.res cs)) w;have hO : aP F w s.res m (fun k => S t k /\ k ≠ b) (bL s.res cs) _ := ⟨cs, rfl, h1.2.2⟩
    simp only [Bool.or_eq_true] at hm;rcases hm with hm | hm
    ·refine hi.post (F' := F) (Sd := none') (fun b hb => hb) (fun b hb => .inl hb) (fun b hb => hb.elim) ?_
     rw [hmu]; exact aP.flat hm hO
    ·exact hFA hm (hO.freeze (fun k hk => hk.imp id fun hk => ⟨t, hk.1⟩)) hmu rfl
   ·cases hret
  ·rename_i hmu
   cases hl : Nat.beq fn.results.toList.length 1
   ·rw [hl] at hret
    simp only [cond_false] at hret;split at hret
    ·rename_i vws hvs
     obtain ⟨vs, k1, k2, k3⟩ := viewsR_ok hi hvs;have hrun := eC (P := P) (w := w) (a := a) (fn := fn) (vs := vs) k2;have hne : ¬ vs.toArray.size = 1 := by
      intro h;simp only [List.size_toArray] at h;rw [k3] at h;rw [aX.2 h] at hl; cases hl
     rw [dif_neg hne] at hrun;refine ⟨_, hrun, ?_⟩;split at hret
     ·rename_i z l hz
      cases hn : bK l
      ·rw [hn] at hret; cases hret
      rw [hn] at hret;simp only [cond_true, Option.some.injEq] at hret;subst hret;refine hi.post (F' := F) (Sd := SL S l) (fun b hb => hb) (fun b hb => .inl hb) (fun b ⟨u, _, hb⟩ => ⟨⟨u, hb⟩, (hi.sb u b hb).2.2⟩) ?_
      rw [hmu];exact ⟨vs, rfl, ownRs_ok hi k1 hz hn⟩
     ·cases hm : dN s.mode
      ·rw [hm] at hret; cases hret
      ·rw [hm] at hret
       simp only [cond_true] at hret;have hm' : s.mode = .shr := by cases hmm : s.mode <;> first | rfl | (rw [hmm] at hm; cases hm)
       refine hi.post (F' := FA F S) (Sd := none') (fun b hb => .inl hb) (fun b hb => hb) (fun b hb => hb.elim) ?_
       rw [hmu, hm'];exact ⟨vs, rfl, readRs_ok hi k1 hret⟩
    ·cases hm : dN s.mode
     ·rw [hm] at hret; cases hret
     ·rw [hm] at hret
      simp only [cond_true] at hret;obtain ⟨vs, k1, k3, k4⟩ := readCs_ok hC hi hret;have hrun := eC (P := P) (w := w) (a := a) (fn := fn) (vs := vs) k1;have hne : ¬ vs.toArray.size = 1 := by
       intro h;simp only [List.size_toArray] at h;rw [k3] at h;rw [aX.2 h] at hl; cases hl
      rw [dif_neg hne] at hrun;refine ⟨_, hrun, ?_⟩;have hm' : s.mode = .shr := by cases hmm : s.mode <;> first | rfl | (rw [hmm] at hm; cases hm)
      refine hi.post (F' := FA F S) (Sd := none') (fun b hb => .inl hb) (fun b hb => hb) (fun b hb => hb.elim) ?_
      rw [hmu, hm'];exact ⟨vs, rfl, k4⟩
   ·rw [hl] at hret; cases hret
  ·cases hret

theorem cO.len : ∀ {ks : List AK} {vs : List Value} {x : aN ks}, cO P F w ks vs x -> vs.length = ks.length
 | [], vs, _, h => by
  have h : vs = [] := h
  subst h; rfl
 | k :: ks, vs, x, h => by
  obtain ⟨v, r, rfl, _, h2⟩ := h;simp [cO.len h2]

theorem FOk.intro (hC : aF P C) {stp : St -> Oper -> Option (Prop × St)} (hstp : eD P C stp) {f : FuncId} {s : bG} {fn : Func} (hdef : FnDef P f) (hf : P.funcs[f]? = some fn) (hN : C.np = ⟨fn.ntmps, none, 0, s.glb⟩)
  (hlen : Nat.ble s.args.length fn.ntmps = true) (L : aN s.args -> List aW) (h : c9 C stp s L fn) : FOk P f s := by
 refine ⟨hdef, ?_⟩
 intro w F vs xs hG hF ha hp
 unfold c9 at h
 split at h
 ·rename_i c hb
  have hl := cO.len ha
  have hlen' : s.args.length <= fn.ntmps := Nat.le_of_ble_eq_true hlen
  have hst := aM.start (P := P) (N := C.np) (by rw [hN]; exact hG) hF ha (by rw [hN]; show vs.length <= fn.ntmps; omega) (by rw [hN])
  refine calls_of_wp hf hb ?_
  rw [show C.np.n = fn.ntmps by rw [hN]] at hst
  refine cH hC hstp c (h xs hp (factsK_ok ha)) ⟨F, _, by simpa using hst⟩ ?_ (fun _ _ _ _ h => h.elim) ?_
  ·intro st a w' hq hi
   obtain ⟨v, h1, h2⟩ := retP_ok hC hq hi;obtain ⟨_, _, hi⟩ := hi;exact ⟨hi.defers, v, h1, h2⟩
  ·intro st a w' hq hi
   obtain ⟨v, h1, h2⟩ := retP_ok hC hq hi;obtain ⟨_, _, hi⟩ := hi;exact ⟨hi.defers, v, h1, h2⟩
 ·cases h
end
end Go.Lf
