/- Methods that write through their pointer: by value. Methods that write through their pointer: from the body's proposition to the contract. A body in two parts: in the second one a slot is known to point at a chosen block. Functions that are handed over a value with what it owns: by value. A slice of one element: what is stored there may be owned where it was shared. A slice that is taken out of its variable and put back; calls of a function that calls itself by a variable. Functions that call themselves by a variable that they capture: from the body's proposition to what they do. Small facts under short names. The types of the seat, and that the program has them. The laws of the views: what all need. The machine of views, its reference: the small functions: what they compute. -/
import Derived.Test.YthhclebbpbkgdaaLfg
import Derived.KernelRfl
import Derived.Test.YthhclebbpbkgdaaProg
import Derived.Test.YthhclebbpbkgdaaRows
set_option linter.unusedVariables false
set_option linter.unusedSimpArgs false
namespace Go.Lf

def pinB (C : Ctx) (r : Nat) : Bool := match C.pin with
 | some t => Nat.beq t r
 | none => true
def mkP (C : Ctx) (d : Nat) (s : PSpec) (z : s.res.den) : Ent := bif s.multi then .dead else mkE C d s.res s.rm z

def restS (st : St) (r d : Nat) (st' : St) : St := bif Nat.beq d r then st' else fun t => match st t with
 | .addr r' [] => bif Nat.beq r' r && !Nat.beq t d && !Nat.beq t r then .addr r' [] else st' t
 | _ => st' t

def ptrE (C : Ctx) (d : Nat) (st : St) (s : PSpec) (v : aL) (vs : List aL) : Option (Prop × St) :=
 match v.addr? with
 | some l => match l.p with
  | [] => bif pinB C l.r && (s.τ.flat || decide (l.m = s.m)) then (match bH (τ := l.τ) (σ := s.τ) l.x, argsE s.args vs with
   | some x, some (y, true) => match bH (τ := s.τ) (σ := l.τ) (s.fn x y) with
    | some x' => some (s.pre x y, restS st l.r d (put (upd (bP st l.r) l.r (reown (st l.r) l.τ l.m x')) d (mkP C d s (s.out x y))))
    | none => none
   | _, _ => none) else none
  | _ => none
 | none => none

def ptrC (C : Ctx) (st : St) (o : Oper) (q : Call) : Option (Prop × St) :=
 match q.callee, q.args.toList, o.dst with
 | .value (.func f), z :: zs, some d => match look C.ptrs f with
  | some s => bif wrB C d then ptrE C d st s (bG st z) (zs.map (bG st)) else none
  | none => none
 | _, _, _ => none

def thkC (C : Ctx) (st : St) (o : Oper) (q : Call) : Option (Prop × St) :=
 match q.callee, q.args.toList, o.dst, C.thk, C.pin with
 | .value (.tmp t), [], some d, some ts, some s => bif wrB C d then (match st t, st s with
  | .shr (.abs .thk) z, .box τ m x => bif decide (m = ts.m) then (match bH (τ := τ) (σ := ts.τ) x with
   | some x1 => match bH (τ := ts.τ) (σ := τ) (ts.fn (Option.getD z (0, 0, [])).2 x1) with
    | some x' => some (Option.isSome z = true /\ (Option.getD z (0, 0, [])).1 = C.q /\ ts.pre (Option.getD z (0, 0, [])).2 x1, restS st s d (put (upd (bP st s) s (reown (st s) τ m x')) d .dead))
    | none => none
   | none => none) else none
  | _, _ => none) else none
 | _, _, _, _, _ => none

def frz1 (st : St) : Operand -> St
 | .tmp t => match st t with
  | .box τ _ x => upd (bP st t) t (.saddr τ x)
  | _ => st
 | _ => st
def frzL (st : St) : List Operand -> St
 | [] => st
 | z :: l => frzL (frz1 st z) l

def stpP (C : Ctx) (st : St) (o : Oper) : Option (Prop × St) :=
 match o.op with
 | .call q => match ptrC C st o q with
  | some r => some r
  | none => match thkC C st o q with
   | some r => some r
   | none => stp C st o
 | .makeFunc _ _ caps => pureStp C (frzL st caps.toList) o
 | _ => stp C st o

section
variable {P : Program} {C : Ctx} {N : NP} {w0 : World} {F0 H : aA} {env : St} {a : Act} {w : World} {F : aA} {S : Nat -> aA} {d : Nat}

theorem aM.setRootF (hi : aM P N w0 F0 H env a w F S) {r : Nat} (hr : (env r).isOwner = true) {w' : World} {F' Sr : aA} {E : Ent} (hE : E.isOwner = true)
  (h1 : w'.os = w.os) (h2 : w'.tape = w.tape) (h3 : w'.output = w.output) (h4 : w.heap.size <= w'.heap.size) (h6 : ∀ k, k < w0.heap.size -> ¬ H k -> w'.heap[k]? = w.heap[k]?)
  (hFF : Sub F F') (hFb : ∀ b, F' b -> b < w'.heap.size) (hFn : ∀ b, F' b -> ¬ F b -> (w0.heap.size <= b ∨ H b) /\ ∀ t, t ≠ r -> ¬ S t b)
  (h5 : ∀ b, F b ∨ (∃ t, t ≠ r /\ S t b) -> w'.heap[b]? = w.heap[b]?) (hS : ∀ b, Sr b -> (w0.heap.size <= b ∨ H b) /\ b < w'.heap.size /\ ¬ F' b /\ ∀ t, t ≠ r -> ¬ S t b)
  (he : aF P F' w' (upd (bP env r) r E) (fun t => a.tmps.getD t undef) (fun t => if t = r then Sr else S t) r E) :
  aM P N w0 F0 H (upd (bP env r) r E) a w' F' (fun t => if t = r then Sr else S t) := by
 refine ⟨h1.trans hi.os, h2.trans hi.tape, h3.trans hi.output, Nat.le_trans hi.size h4, fun k hk hH => (h6 k hk hH).trans (hi.block k hk hH), hFb, fun b hb => hFF b (hi.f0 b hb), ?_, ?_, ?_, ?_, hi.defers, hi.slots⟩
 ·intro b hb h0
  by_cases hF : F b
  ·exact hi.fn b hF h0
  ·exact (hFn b hb hF).1
 ·intro t b ht
  by_cases h : t = r
  ·simp only [h, if_true] at ht
   exact ⟨(hS b ht).1, (hS b ht).2.1, (hS b ht).2.2.1⟩
  ·simp only [h, if_false] at ht
   obtain ⟨g1, g2, g3⟩ := hi.sb t b ht;exact ⟨g1, Nat.lt_of_lt_of_le g2 h4, fun hF => (hFn b hF g3).2 t h ht⟩
 ·intro t u htu b hb1 hb2
  by_cases h : t = r
  ·simp only [h, if_true] at hb1
   by_cases h' : u = r
   ·exact htu (h.trans h'.symm)
   ·simp only [h', if_false] at hb2
    exact (hS b hb1).2.2.2 u h' hb2
  ·simp only [h, if_false] at hb1
   by_cases h' : u = r
   ·simp only [h', if_true] at hb2
    exact (hS b hb2).2.2.2 t h hb1
   ·simp only [h', if_false] at hb2
    exact hi.sd t u htu b hb1 hb2
 ·intro t
  by_cases h : t = r
  ·subst h
   rw [bS]; exact he
  ·rw [a5 _ _ h]
   rcases kill_cases env r t with h' | ⟨h', hne⟩
   ·rw [h']; trivial
   ·rw [h']
    refine aF.keep hFF (fun b hb => h5 b (.inl hb)) rfl ?_ ?_ (hi.ent t)
    ·intro q hq
     have hqr : q ≠ r := fun e => hne (e ▸ hq)
     refine ⟨fun ho => ?_, fun _ => rfl, by simp [hqr], fun b hb => h5 b (.inr ⟨q, hqr, hb⟩), fun b h1 h2 => (hFn b h1 h2).2 q hqr, fun b hb => (hi.sb q b hb).2.2⟩
     rw [a5 _ _ hqr]; unfold bP killE; rw [Ent.owner_root ho]
    ·intro _
     exact ⟨by simp [h], fun b hb => h5 b (.inr ⟨t, h, hb⟩), fun b h1 h2 => (hFn b h1 h2).2 t h⟩

theorem aM.putPtr (hi : aM P N w0 F0 H env a w F S) (hd : Wr N d) {s : PSpec} {r b : Nat} {lm : Md} {x : s.τ.den} {y : aO s.args} {S0 : aA}
  (hbox : env r = .box s.τ lm x) (hval : a.tmps.getD r undef = .pointer (some ⟨b, 0, none⟩)) (hS0 : S0 = fun k => S r k /\ k ≠ b) (hsb : S r b)
  (hm : s.τ.flat = true ∨ lm = s.m) {e : Ending} {w' : World} (hp : PPost F S0 w b s x y e w') :
  ∃ v F2 S2, e = .returned v /\ aM P N w0 F0 H (Go.Lf.put (upd (bP env r) r (reown (env r) s.τ lm (s.fn x y))) d (mkP C d s (s.out x y))) (a.put (some d) v) w' F2 S2 := by
 obtain ⟨v, F', S', Sr, cs', q0, q1, q2, q3, q4, q5, q6, q7, q8, q9, q10, q11, q12, q13⟩ := hp
 have hb := hi.sb r b hsb
 have hsub : ∀ k, S0 k -> S r k := by rw [hS0]; exact fun k hk => hk.1
 have hnb : ∀ k, S r k -> ¬ S0 k -> k = b := by
  intro k h1 h2;rw [hS0] at h2;by_cases hk : k = b
  ·exact hk
  ·exact absurd ⟨h1, hk⟩ h2
 have h1 : ∀ k, (w.heap.size <= k ∨ S0 k) -> (w0.heap.size <= k ∨ H k) /\ ∀ t, t ≠ r -> ¬ S t k := by
  rintro k (hk | hk)
  ·exact ⟨.inl (Nat.le_trans hi.size hk), fun t _ ht => by have := (hi.sb t k ht).2.1; omega⟩
  ·exact ⟨(hi.sb r k (hsub k hk)).1, fun t ht h => hi.sd t r ht k h (hsub k hk)⟩
 have hb' : ¬ F' b := q11.2.1
 have hset : aM P N w0 F0 H (upd (bP env r) r (reown (env r) s.τ lm (s.fn x y))) a w' F' (fun t => if t = r then (fun k => S' k ∨ k = b) else S t) := by
  refine hi.setRootF (by rw [hbox]; rfl) (by rw [hbox]; rfl) q1 q2 q3 q4 ?_ q6 (fun k hk => q8 k (.inl hk)) ?_ ?_ ?_ ?_
  ·intro k hk hH
   refine q5 k (Nat.lt_of_lt_of_le hk hi.size) ?_ ?_
   ·rintro rfl
    rcases hb.1 with h | h
    ·omega
    ·exact hH h
   ·intro h
    rcases (hi.sb r k (hsub k h)).1 with h | h
    ·omega
    ·exact hH h
  ·intro k hk hF
   exact h1 k (q7 k hk hF)
  ·rintro k (hk | ⟨t, g1, g2⟩)
   ·exact q5 k (hi.fb k hk) (fun e => hb.2.2 (e ▸ hk)) (fun h => (hi.sb r k (hsub k h)).2.2 hk)
   ·exact q5 k (hi.sb t k g2).2.1 (fun e => hi.sd t r g1 k g2 (e ▸ hsb)) (fun h => hi.sd t r g1 k g2 (hsub k h))
  ·rintro k (hk | rfl)
   ·obtain ⟨g1, g2⟩ := q9 k hk
    exact ⟨(h1 k g1).1, q8 k (.inr (.inl hk)), g2, (h1 k g1).2⟩
   ·exact ⟨hb.1, Nat.lt_of_lt_of_le hb.2.1 q4, hb', fun t ht h => hi.sd t r ht k h hsb⟩
  ·rw [hbox]
   have hSb : ¬ S' b := q11.1
   refine ⟨.mem b 0, S', cs', .inr ⟨rfl, b, rfl, ?_, hval, ?_⟩, q11, ?_⟩
   ·simp only [if_true]
    funext k
    by_cases hk : k = b
    ·subst hk; simp [hSb]
    ·simp [hk]
   ·simp
   ·rcases hm with hm | hm
    ·exact q12.flat hm
    ·rw [hm]; exact q12
 unfold mkP
 cases hmu : s.multi
 ·rw [hmu] at q13
  have q13 : aP F' w' s.res s.rm Sr v (s.out x y) := q13
  have hSr : ∀ k, Sr k -> (w0.heap.size <= k ∨ H k) /\ k < w'.heap.size /\ ¬ F' k /\ ∀ t, ¬ (if t = r then (fun k => S' k ∨ k = b) else S t) k := by
   intro k hk;obtain ⟨g1, g2, g3, g4⟩ := q10 k hk;refine ⟨(h1 k g1).1, q8 k (.inr (.inr hk)), g2, fun t ht => ?_⟩
   split at ht
   ·rcases ht with h | h
    ·exact g3 h
    ·exact g4 h
   ·rename_i hne
    exact (h1 k g1).2 t hne ht
  obtain ⟨F2, S2, hh⟩ := hset.putNew (C := C) (d := d) hd (RowKit.Below.refl _ _) (fun _ h => h) (fun k hk => q8 k (.inl hk)) (fun k g1 g2 => absurd g1 g2) hSr q13
  exact ⟨v, F2, S2, q0, hh⟩
 ·exact ⟨v, _, _, q0, hset.putSimple hd rfl (by simp [Ent.root]) trivial⟩

theorem kill_addr {st : St} {r t : Nat} {p : bU} (h : st t = .addr r p) : bP st r t = .dead := by
 unfold bP killE
 rw [h]
 simp [Ent.root]
theorem put_other {st : St} {d t : Nat} {e : Ent} (h : t ≠ d) : put st d e t = st t ∨ put st d e t = .dead := by
 unfold put
 cases (st d).isOwner
 ·left; simp only [cond_false]; rw [a5 _ _ h]
 ·simp only [cond_true]
  rw [a5 _ _ h];rcases kill_cases st d t with h' | ⟨h', _⟩
  ·exact .inr h'
  ·exact .inl h'
theorem aM.restore {a' : Act} {w' : World} {F2 : aA} {S2 : Nat -> aA} {st : St} {r d b : Nat} (hi : aM P N w0 F0 H env a w F S) (hst : env = st) {E : Ent} {e : Ent} (h' : aM P N w0 F0 H (Go.Lf.put (upd (bP st r) r E) d e) a' w' F2 S2)
  {τ : Ty} {m : Md} {x : τ.den} (hr : st r = .box τ m x) (hv : a.tmps.getD r undef = .pointer (some ⟨b, 0, none⟩)) {τ2 : Ty} {m2 : Md} {x2 : τ2.den} (hE : E = .box τ2 m2 x2)
  (hsame : ∀ t, t ≠ d -> a'.tmps.getD t undef = a.tmps.getD t undef) : aM P N w0 F0 H (restS st r d (Go.Lf.put (upd (bP st r) r E) d e)) a' w' F2 S2 := by
 subst hst
 unfold restS
 cases hdr : Nat.beq d r
 ·simp only [cond_false]
  have hdr : d ≠ r := fun e => by rw [aT.2 e] at hdr; cases hdr
  have hpr : Go.Lf.put (upd (bP env r) r E) d e r = E ∨ Go.Lf.put (upd (bP env r) r E) d e r = .dead := by
   rcases put_other (st := upd (bP env r) r E) (e := e) (Ne.symm hdr) with h | h
   ·left; rw [h, bS]
   ·exact .inr h
  have hpr : Go.Lf.put (upd (bP env r) r E) d e r = E := by
   unfold Go.Lf.put;cases (upd (bP env r) r E d).isOwner
   ·simp only [cond_false]; rw [a5 _ _ (Ne.symm hdr), bS]
   ·simp only [cond_true]
    rw [a5 _ _ (Ne.symm hdr)];unfold bP killE;rw [bS, hE]
    rfl
  have key : ∀ t, env t = .addr r [] -> t ≠ d -> t ≠ r -> a'.tmps.getD t undef = .pointer (some ⟨b, 0, none⟩) := by
   intro t ht htd htr;rw [hsame t htd];have h1 := hi.ent t;rw [ht] at h1;obtain ⟨τ1, m1, x1, pl, S0, cs, σ, μ, b1, off, g1, g2, g3, _⟩ := h1;rw [hr] at g1;obtain ⟨_, _, b2, hpl, _, hv2, _⟩ := g1.box_inj;subst hpl;simp only [Go.Lf.loc, Option.some.injEq, Prod.mk.injEq, aH.mem.injEq] at g2;obtain ⟨_, rfl, rfl⟩ := g2;have hv2 : a.tmps.getD r undef = .pointer (some ⟨b2, 0, none⟩) := hv2;rw [hv] at hv2;injection hv2 with hv2; injection hv2 with hv2; injection hv2 with hv2;rw [hv2]; exact g3
  have hroot := h'.ent r
  rw [hpr, hE] at hroot;obtain ⟨plr, S0r, csr, hroot⟩ := hroot;obtain ⟨_, _, br, hplr, hS0r, hvr, _⟩ := hroot.box_inj;have hvr : a'.tmps.getD r undef = .pointer (some ⟨br, 0, none⟩) := hvr;have hbr : br = b := by
   rw [hsame r (Ne.symm hdr), hv] at hvr;injection hvr with hvr; injection hvr with hvr; injection hvr with hvr;exact hvr.symm
  subst hbr;refine { h' with ent := ?_ };intro t;have hnew : ∀ q, (Go.Lf.put (upd (bP env r) r E) d e q).isOwner = true -> (match env q with | .addr r' [] => bif Nat.beq r' r && !Nat.beq q d && !Nat.beq q r then Ent.addr r' [] else Go.Lf.put (upd (bP env r) r E) d e q | _ => Go.Lf.put (upd (bP env r) r E) d e q) = Go.Lf.put (upd (bP env r) r E) d e q := by
   intro q hq;split
   ·rename_i r' hq2
    cases hc : (Nat.beq r' r && !Nat.beq q d && !Nat.beq q r)
    ·rfl
    ·simp only [Bool.and_eq_true, Bool.not_eq_true'] at hc
     obtain ⟨⟨c1, c2⟩, c3⟩ := hc;have c1 := aT.1 c1;subst c1;have c2 : q ≠ d := fun e => by rw [aT.2 e] at c2; cases c2
     have c3 : q ≠ r' := fun e => by rw [aT.2 e] at c3; cases c3
     exfalso
     rcases put_other (st := upd (bP env r') r' E) (e := e) c2 with h | h
     ·rw [h, a5 _ _ c3, kill_addr hq2] at hq; cases hq
     ·rw [h] at hq; cases hq
   ·rfl
  have keep : aF P F2 w' (fun q => match env q with | .addr r' [] => bif Nat.beq r' r && !Nat.beq q d && !Nat.beq q r then Ent.addr r' [] else Go.Lf.put (upd (bP env r) r E) d e q | _ => Go.Lf.put (upd (bP env r) r E) d e q) (fun t => a'.tmps.getD t undef) S2 t (Go.Lf.put (upd (bP env r) r E) d e t) := by
   refine aF.keep (fun _ h => h) (fun _ _ => rfl) rfl ?_ (fun _ => ⟨rfl, fun _ _ => rfl, fun b h1 h2 => absurd h1 h2⟩) (h'.ent t)
   intro q hq;exact ⟨fun ho => hnew q ho, fun _ => rfl, rfl, fun _ _ => rfl, fun b h1 h2 => absurd h1 h2, fun b hb => (h'.sb q b hb).2.2⟩
  show aF _ _ _ _ _ _ t (match env t with | .addr r' [] => bif Nat.beq r' r && !Nat.beq t d && !Nat.beq t r then Ent.addr r' [] else Go.Lf.put (upd (bP env r) r E) d e t | _ => Go.Lf.put (upd (bP env r) r E) d e t)
  split
  ·rename_i r' ht
   cases hc : (Nat.beq r' r && !Nat.beq t d && !Nat.beq t r)
   ·exact keep
   ·simp only [Bool.and_eq_true, Bool.not_eq_true'] at hc
    obtain ⟨⟨c1, c2⟩, c3⟩ := hc;have c1 := aT.1 c1;subst c1;have c2 : t ≠ d := fun e => by rw [aT.2 e] at c2; cases c2
    have c3 : t ≠ r' := fun e => by rw [aT.2 e] at c3; cases c3
    simp only [cond_true, aF];rw [hnew r' (by rw [hpr, hE]; rfl), hpr, hE];refine ⟨τ2, m2, x2, plr, S0r, csr, τ2, m2, br, 0, hroot, ?_, key t ht c2 c3, rfl, rfl, trivial⟩;rw [hplr]; rfl
  ·exact keep
 ·exact h'

theorem ptrE_ok (hC : aJ P C) (hi : aM P C.np w0 F0 H env a w F S) (hd : Wr C.np d) {f : FuncId} {s : PSpec} (hs : look C.ptrs f = some s) {z : Operand} {zs : List Operand} {args : Array Operand} (hargs : args.toList = z :: zs) {ts : Array TypeId} {o : Oper}
  (ho : o.op = .call { callee := .value (.func f), args, argTypes := ts }) (hod : o.dst = some d)
  {c : Prop} {env' : St} (h : ptrE C d env s (bG env z) (zs.map (bG env)) = some (c, env')) (hc : c) {K : Act -> World -> Prop} {Q : Exit -> Act -> World -> Prop} (hK : ∀ a' w', Inv P C.np w0 F0 H env' a' w' -> K a' w') : o.wp P a w K Q := by
 have hv := bC hi z
 unfold ptrE at h
 split at h
 ·rename_i l hl
  split at h
  ·rename_i hp
   cases hf : (pinB C l.r && (s.τ.flat || decide (l.m = s.m)))
   ·rw [hf] at h; cases h
   rw [hf] at h;simp only [cond_true] at h;simp only [Bool.and_eq_true, Bool.or_eq_true, decide_eq_true_eq] at hf;obtain ⟨hpin, hf⟩ := hf;split at h
   ·rename_i x y hx hy
    have := aR hx
    obtain ⟨σ, y0, μ, pl, S0, cs, b, off, hA, hval⟩ := addr?_ok hi hv hl;obtain ⟨lr, lp, lτ, lm, lx⟩ := l;simp only at hp hx this h hf hpin;subst hp;injection this with e1 e2;subst e1; cases e2;split at h
    ·rename_i y' hy'
     have hy' := aR hy'
     injection hy' with _ e3;cases e3;simp only [Option.some.injEq, Prod.mk.injEq] at h;obtain ⟨rfl, rfl⟩ := h;have hroot := hA.root;have hloc := hA.loc;simp only [Go.Lf.loc, Option.some.injEq, Prod.mk.injEq] at hloc;obtain ⟨rfl, hpl⟩ := hloc;subst hpl;simp only at hroot;have hsb : S lr b := hroot.isB rfl;obtain ⟨hbox, hS0, hvr⟩ : env lr = .box s.τ lm x /\ S0 = (fun k => S lr k /\ k ≠ b) /\ off = 0 /\ a.tmps.getD lr undef = .pointer (some ⟨b, 0, none⟩) := by
      rcases hroot.1 with ⟨_, h, _⟩ | ⟨h, b', h2, h3, h4, _⟩
      ·cases h
      ·injection h2 with h2 h5
       subst h2;exact ⟨h, h3, h5, h4⟩
     obtain ⟨rfl, hvr⟩ := hvr;have hb := hi.sb lr b hsb;have hsh : bZ P F w s.args (zs.map a.eval) y := argsE_ok hi (VsOK_map (f := bG env) (fun z' _ => bC hi z')) hy
     obtain ⟨on, ⟨k1, k2⟩, k3⟩ := hC.ptrs f s hs;have hone : ∀ q, on = some q -> b = q := by
      intro q hq;obtain ⟨g1, g2⟩ := k3 q hq;subst g2;obtain ⟨t, ht⟩ := Option.isSome_iff_exists.1 g1;unfold pinB at hpin;rw [ht] at hpin;have := aT.1 hpin;subst this;have h4 := hi.slots.pin t ht;rw [hvr] at h4;injection h4 with h4; injection h4 with h4; injection h4
     have hown : Own F w s.τ s.m S0 cs x := by
      rcases hf with hf | hf
      ·exact hroot.2.2.flat hf
      ·rw [<- hf]; exact hroot.2.2
     have hcall := k2 w F S0 b cs x _ y hone hb.2.1 hi.fb (fun k hk => by
      rw [hS0] at hk;exact ⟨(hi.sb lr k hk.1).2.1, (hi.sb lr k hk.1).2.2⟩) hroot.2.1 hown hsh hc
     have hrun : (execOp a.eval o).run P w = .ok (.enter f (.pointer (some ⟨b, 0, none⟩) :: zs.map a.eval).toArray) w := by
      simp only [execOp, ho, resolve, Sem.run_bind, Act.eval, Deferred.ofValue, Sem.run_pure, Result.andThen, invoke];have := k1 ((.pointer (some ⟨b, 0, none⟩) :: zs.map a.eval).toArray) w;rw [<- this]
      congr 1
      congr 1
      apply Array.ext'
      simp [hargs, <- hval]
     unfold Oper.wp;rw [hrun, Oper.upon_enter];refine hcall.mono ?_;intro e w' hpost;obtain ⟨v, F2, S2, rfl, hh⟩ := hi.putPtr (C := C) hd hbox hvr hS0 hsb hf hpost;rw [hod];exact hK _ _ ⟨F2, S2, hi.restore rfl hh hbox hvr (by rw [hbox]; rfl) (fun t ht => by rw [Act.getD_put (by rw [hi.slots.size]; exact hd.1), if_neg ht])⟩
    ·cases h
   ·cases h
  ·cases h
 ·cases h

theorem thkC_ok (hC : aJ P C) (hi : aM P C.np w0 F0 H env a w F S) {q : Call} {o : Oper} (ho : o.op = .call q) {c : Prop} {env' : St} (h : thkC C env o q = some (c, env')) (hc : c) {K : Act -> World -> Prop} {Q : Exit -> Act -> World -> Prop}
  (hK : ∀ a' w', Inv P C.np w0 F0 H env' a' w' -> K a' w') : o.wp P a w K Q := by
 obtain ⟨callee, args, tys⟩ := q
 unfold thkC at h
 simp only at h
 split at h
 ·rename_i t d ts s h2 h3 h4 h5
  cases hb : wrB C d
  ·rw [hb] at h; cases h
  rw [hb] at h;simp only [cond_true] at h;split at h
  ·rename_i z τ m x ht hs
   cases hf : decide (m = ts.m)
   ·rw [hf] at h; cases h
   rw [hf] at h;simp only [cond_true] at h;have hm := of_decide_eq_true hf;split at h
   ·rename_i x1 hx
    have := aR hx
    injection this with e1 e2;subst e1; cases e2;split at h
    ·rename_i x' hx'
     have := aR hx'
     injection this with _ e3;cases e3;simp only [Option.some.injEq, Prod.mk.injEq] at h;obtain ⟨rfl, rfl⟩ := h;obtain ⟨hz, hzq, hpre⟩ := hc;obtain ⟨z1, rfl⟩ := Option.isSome_iff_exists.1 hz;simp only [Option.getD_some] at hzq hpre hK;obtain ⟨zq, z1⟩ := z1;simp only at hzq hpre hK;subst hzq;have ht1 := hi.ent t;rw [ht] at ht1;obtain ⟨cs1, hv1, caps, hcs, hcap⟩ := ht1;have hvt : a.tmps.getD t undef = .func (.func z1.1) #[] caps := by
      have hv1 : a.tmps.getD t undef = _ := hv1
      rw [hv1, hcs]; rfl
     have hs1 := hi.ent s
     rw [hs] at hs1;obtain ⟨pl, S0, cs, hr⟩ := hs1;obtain ⟨_, _, b, rfl, hS0, hvs, hsb⟩ := hr.box_inj;have hvs : a.tmps.getD s undef = .pointer (some ⟨b, 0, none⟩) := hvs;have hpin := hi.slots.pin s h5;have hbb : b = C.q := by
      rw [hvs] at hpin;injection hpin with hpin; injection hpin with hpin; injection hpin
     subst hbb;have hb' := hi.sb s _ hsb;obtain ⟨k1, k2⟩ := hC.thk ts h4 z1 w F S0 cs x1 caps.toList hb'.2.1 hi.fb (fun k hk => by
      rw [hS0] at hk;exact ⟨(hi.sb s k hk.1).2.1, (hi.sb s k hk.1).2.2⟩) hr.2.1 (by rw [<- hm]; exact hr.2.2) hcap hpre
     have e0 : args = #[] := by apply Array.ext'; simpa using h2
     subst e0;have hrun : (execOp a.eval o).run P w = .ok (.enter z1.1 caps.toList.toArray) w := by
      simp only [execOp, ho, resolve, Sem.run_bind, Act.eval, hvt, Deferred.ofValue, Sem.run_pure, Result.andThen, invoke];have := k1 caps.toList.toArray w;rw [<- this]
      congr 1
      congr 1
      apply Array.ext'
      simp
     unfold Oper.wp;rw [hrun, Oper.upon_enter];refine k2.mono ?_;intro e w' hpost;obtain ⟨v, F2, S2, rfl, hh⟩ := hi.putPtr (C := C) (s := ts.at z1) (y := ()) (wrB_iff hb) hs hvs hS0 hsb (.inr hm) hpost;rw [h3];exact hK _ _ ⟨F2, S2, hi.restore rfl hh hs hvs (by rw [hs]; rfl) (fun t ht => by rw [Act.getD_put (by rw [hi.slots.size]; exact (wrB_iff hb).1), if_neg ht])⟩
    ·cases h
   ·cases h
  ·cases h
 ·cases h

theorem aM.freeze (hi : aM P N w0 F0 H env a w F S) {r : Nat} {τ : Ty} {m : Md} {x : τ.den} (hr : env r = .box τ m x) :
  aM P N w0 F0 H (upd (bP env r) r (.saddr τ x)) a w (fun b => F b ∨ S r b) (fun t => if t = r then none' else S t) := by
 have hap : ∀ t b, t ≠ r -> S t b -> ¬ S r b := fun t b h h1 h2 => hi.sd t r h b h1 h2
 refine ⟨hi.os, hi.tape, hi.output, hi.size, hi.block, ?_, fun b hb => .inl (hi.f0 b hb), ?_, ?_, ?_, ?_, hi.defers, hi.slots⟩
 ·rintro b (hb | hb)
  ·exact hi.fb b hb
  ·exact (hi.sb r b hb).2.1
 ·rintro b (hb | hb) hn
  ·exact hi.fn b hb hn
  ·exact (hi.sb r b hb).1
 ·intro t b ht
  by_cases h : t = r
  ·simp only [h, if_true] at ht; exact ht.elim
  ·simp only [h, if_false] at ht
   obtain ⟨g1, g2, g3⟩ := hi.sb t b ht;exact ⟨g1, g2, fun hF => hF.elim g3 (hap t b h ht)⟩
 ·intro t u htu b h1 h2
  by_cases h : t = r
  ·simp only [h, if_true] at h1; exact h1
  ·simp only [h, if_false] at h1
   by_cases h' : u = r
   ·simp only [h', if_true] at h2; exact h2
   ·simp only [h', if_false] at h2
    exact hi.sd t u htu b h1 h2
 ·intro t
  by_cases h : t = r
  ·subst h
   rw [bS];have h1 := hi.ent t;rw [hr] at h1;obtain ⟨pl, S0, cs, h1⟩ := h1;obtain ⟨_, _, b, rfl, hS0, hval, hsb⟩ := h1.box_inj;obtain ⟨q1, q2, row, T0, q3, q4, q5⟩ := h1.2.1;refine ⟨b, 0, row, T0, (0, 0), hval, .inr hsb, q3, q4, ?_⟩;rw [q5];exact (Own.freeze (S' := none') h1.2.2).mono (fun k hk => hk.imp id (fun hk => h1.sub k hk)) (fun _ h => h)
  ·rw [a5 _ _ h]
   rcases kill_cases env r t with h' | ⟨h', hne⟩
   ·rw [h']; trivial
   ·rw [h']
    refine aF.keep (fun b hb => .inl hb) (fun _ _ => rfl) rfl ?_ ?_ (hi.ent t)
    ·intro q hq
     have hqr : q ≠ r := fun e => hne (e ▸ hq)
     refine ⟨fun ho => ?_, fun _ => rfl, by simp [hqr], fun _ _ => rfl, ?_, fun b hb => (hi.sb q b hb).2.2⟩
     ·rw [a5 _ _ hqr]; unfold bP killE; rw [Ent.owner_root ho]
     ·rintro b (h1 | h1) h2
      ·exact absurd h1 h2
      ·exact fun h3 => hap q b hqr h3 h1
    ·intro _
     refine ⟨by simp [h], fun _ _ => rfl, ?_⟩
     rintro b (h1 | h1) h2
     ·exact absurd h1 h2
     ·exact fun h3 => hap t b h h3 h1

theorem frzL_ok : ∀ {l : List Operand} {env : St}, Inv P N w0 F0 H env a w -> Inv P N w0 F0 H (frzL env l) a w
 | [], _, h => h
 | z :: l, env, h => by
  refine frzL_ok (l := l) ?_
  unfold frz1;split
  ·rename_i t
   split
   ·rename_i τ m x hr
    obtain ⟨F, S, hi⟩ := h;exact ⟨_, _, hi.freeze hr⟩
   ·exact h
  ·exact h

theorem stpP_ok (hC : aJ P C) : StpOK P C (stpP C) := by
 intro w0 F0 H env env' a w o c hi h hc K Q hK
 unfold stpP at h
 split at h
 ·rename_i q hop
  split at h
  ·rename_i r hr
   simp only [Option.some.injEq] at h;subst h;obtain ⟨F, S, hi⟩ := hi;unfold ptrC at hr;split at hr
   ·rename_i f z zs d h1 h2 h3
    split at hr
    ·rename_i s hs
     cases hb : wrB C d
     ·rw [hb] at hr; cases hr
     rw [hb] at hr;obtain ⟨callee, args, ts⟩ := q;simp only at h1 h2;subst h1;exact ptrE_ok hC hi (wrB_iff hb) hs h2 hop h3 hr hc hK
    ·cases hr
   ·cases hr
  ·split at h
   ·rename_i r hr
    simp only [Option.some.injEq] at h;subst h;obtain ⟨F, S, hi⟩ := hi;exact thkC_ok hC hi hop hr hc hK
   ·exact stp_ok hC hi h hc K Q hK
 ·rename_i fn first caps hop
  obtain ⟨F, S, hi'⟩ := frzL_ok (l := caps.toList) hi;exact pureStp_ok hC hi' h hc hK
 ·exact stp_ok hC hi h hc K Q hK

end
end Go.Lf
namespace Go.Lf

def leftP (s : PSpec) (x' : s.τ.den) (st : St) : Prop := match st 0 with
 | .box σ m z => bif s.τ.flat || decide (m = s.m) then (match bH (τ := σ) (σ := s.τ) z with
  | some z => z = x'
  | none => False) else False
 | _ => False
def backP (s : PSpec) (rs : List ResultVar) (y' : s.res.den) (st : St) : Prop := bif s.multi then rs = [] /\ s.res = .unit else match rs with
 | [.tmp t] => (match ownR s.res s.rm (bG st (.tmp t)) with
  | some (z, l) => z = y' /\ memN l 0 = false
  | none => False)
 | _ => False
def retPP (s : PSpec) (rs : List ResultVar) (x' : s.τ.den) (y' : s.res.den) (st : St) : Prop := leftP s x' st /\ backP s rs y' st

def funP (C : Ctx) (stp : St -> Oper -> Option (Prop × St)) (s : PSpec) (L : s.τ.den -> aO s.args -> List aS) (fn : Func) : Prop :=
 match fn.body with
 | some c => ∀ x y, s.pre x y -> aD s.τ x -> factsK s.args y -> wpI C stp (L x y) c 0 (ofL ((0, .box s.τ s.m x) :: b9 s.args y 1)) (retPP s fn.results.toList (s.fn x y) (s.out x y)) (fun _ _ => False) (retPP s fn.results.toList (s.fn x y) (s.out x y))
 | none => False

section
variable {P : Program} {C : Ctx} {N : NP} {w0 : World} {F0 H : aA} {env : St} {a : Act} {w : World} {F : aA} {S : Nat -> aA} {d : Nat}

theorem aM.startP {s : PSpec} {vs : List Value} {y : aO s.args} {cs : List Value} {x : s.τ.den} {b n : Nat} {S0 : aA} (hb : b < w.heap.size) (hF : ∀ k, F k -> k < w.heap.size) (hS0 : ∀ k, S0 k -> k < w.heap.size /\ ¬ F k)
  (h1 : PlOk F S0 w (.mem b 0) s.τ.size cs) (h2 : Own F w s.τ s.m S0 cs x) (ha : bZ P F w s.args vs y) (hn : vs.length + 1 <= n) :
  aM P ⟨n, some 0, b⟩ w F (fun k => S0 k ∨ k = b) (ofL ((0, .box s.τ s.m x) :: b9 s.args y 1)) { tmps := (.pointer (some ⟨b, 0, none⟩) :: vs).toArray ++ Array.replicate (n - (vs.length + 1)) undef, defers := [] } w F
   (fun t k => t = 0 /\ (S0 k ∨ k = b)) := by
 have hget : ∀ i v, (.pointer (some ⟨b, 0, none⟩) :: vs)[i]? = some v -> ((.pointer (some ⟨b, 0, none⟩) :: vs).toArray ++ Array.replicate (n - (vs.length + 1)) undef).getD i undef = v := by
  intro i v hv;have hi : i < (Value.pointer (some ⟨b, 0, none⟩) :: vs).length := by
   rcases Nat.lt_or_ge i (Value.pointer (some ⟨b, 0, none⟩) :: vs).length with h | h
   ·exact h
   ·rw [List.getElem?_eq_none h] at hv; cases hv
  rw [Array.getD_eq_getD_getElem?, Array.getElem?_append_left (by simpa using hi)];simp only [List.getElem?_toArray, hv, Option.getD_some]
 have hV := hget 0 _ rfl
 have he := argsEnt_ok (env := ofL ((0, .box s.τ s.m x) :: b9 s.args y 1)) (S := fun t k => t = 0 /\ (S0 k ∨ k = b)) (V := fun t => ((.pointer (some ⟨b, 0, none⟩) :: vs).toArray ++ Array.replicate (n - (vs.length + 1)) undef).getD t undef) (n := 1) ha
  (fun i v hv => hget (1 + i) v (by rw [Nat.add_comm]; simpa using hv))
 refine ⟨rfl, rfl, rfl, Nat.le_refl _, fun _ _ _ => rfl, hF, fun _ h => h, fun b h1 h2 => absurd h1 h2, ?_, ?_, ?_, rfl, ⟨by simp; omega, ?_⟩⟩
 ·rintro t k ⟨rfl, hk | rfl⟩
  ·exact ⟨.inr (.inl hk), (hS0 k hk).1, (hS0 k hk).2⟩
  ·exact ⟨.inr (.inr rfl), hb, h1.2.1⟩
 ·rintro t u htu k ⟨rfl, _⟩ ⟨rfl, _⟩
  exact htu rfl
 ·intro t
  show aF P F w (ofL ((0, .box s.τ s.m x) :: b9 s.args y 1)) _ _ t (match look ((0, .box s.τ s.m x) :: b9 s.args y 1) t with | some e => e | none => .dead)
  cases t with
  | zero =>
   refine ⟨.mem b 0, S0, cs, .inr ⟨rfl, b, rfl, ?_, hV, ⟨rfl, .inr rfl⟩⟩, h1, h2⟩
   funext k
   by_cases hk : k = b
   ·subst hk; simp [h1.1]
   ·simp [hk]
  | succ t =>
   have e1 : look ((0, Ent.box s.τ s.m x) :: b9 s.args y 1) (t + 1) = look (b9 s.args y 1) (t + 1) := rfl
   rw [e1];cases hl : look (b9 s.args y 1) (t + 1) with
   | none => trivial
   | some e => exact (he.2 _ e hl).2.2
 ·intro s' hs'
  injection hs' with hs';subst hs';exact hV

theorem TupOK.empty {τ : Ty} {m : Md} (h : τ = .unit) (x : τ.den) : TupOK F w τ m none' [] x := by subst h; rfl

theorem retPP_ok (hN : N.p = some 0) {s : PSpec} {x : s.τ.den} {y : aO s.args} {fn : Func} {S0 : aA} (hH : H = fun k => S0 k ∨ k = N.q) (hq : retPP s fn.results.toList (s.fn x y) (s.out x y) env) (hi : Inv P N w0 F0 H env a w) :
  bodyPost P fn (PPost F0 S0 w0 N.q s x y) .normal a w := by
 obtain ⟨F, S, hi⟩ := hi
 obtain ⟨hl, hb⟩ := hq
 unfold leftP at hl
 split at hl
 ·rename_i σ m z hz
  cases hf : (s.τ.flat || decide (m = s.m))
  ·rw [hf] at hl; cases hl
  rw [hf] at hl;simp only [cond_true] at hl;simp only [Bool.or_eq_true, decide_eq_true_eq] at hf;split at hl
  ·rename_i z' hz'
   have := aR hz'
   injection this with e1 e2;subst e1; cases e2;subst hl;have h0 := hi.ent 0;rw [hz] at h0;obtain ⟨pl, S1, cs, hr⟩ := h0;obtain ⟨_, _, b, rfl, hS1, hv, hsb⟩ := hr.box_inj;have hpin := hi.slots.pin 0 hN;have hv : a.tmps.getD 0 undef = .pointer (some ⟨b, 0, none⟩) := hv;rw [hv] at hpin;have hbb : b = N.q := by injection hpin with h; injection h with h; injection h
   subst hbb;have hown : Own F w s.τ s.m S1 cs (s.fn x y) := by
    rcases hf with hf | hf
    ·exact hr.2.2.flat hf
    ·rw [<- hf]; exact hr.2.2
   have hout : ∀ k, (w0.heap.size <= k ∨ H k) -> k ≠ N.q -> (w0.heap.size <= k ∨ S0 k) := by
    rintro k (hk | hk) hne
    ·exact .inl hk
    ·rw [hH] at hk
     exact hk.elim .inr (fun h => absurd h hne)
   have hfin : ∀ (v : Value) (Sr : aA), (∀ k, Sr k -> (∃ u, u ≠ 0 /\ S u k)) -> RetV F w s.multi s.res s.rm Sr v (s.out x y) -> PPost F0 S0 w0 N.q s x y (.returned v) w := by
    intro v Sr hSr hret;refine ⟨v, F, S1, Sr, cs, rfl, hi.os, hi.tape, hi.output, hi.size, ?_, hi.f0, ?_, ?_, ?_, ?_, hr.2.1, hown, hret⟩
    ·intro k hk hne hS
     exact hi.block k hk (by rw [hH]; rintro (h | h); exact hS h; exact hne h)
    ·intro k hk hF
     refine hout k (hi.fn k hk hF) ?_
     rintro rfl
     exact (hi.sb 0 _ hsb).2.2 hk
    ·rintro k (hk | hk | hk)
     ·exact hi.fb k hk
     ·exact (hi.sb 0 k (hr.sub k hk)).2.1
     ·obtain ⟨u, _, hu⟩ := hSr k hk; exact (hi.sb u k hu).2.1
    ·intro k hk
     have h1 := hi.sb 0 k (hr.sub k hk)
     refine ⟨hout k h1.1 ?_, h1.2.2⟩
     rintro rfl
     rw [hS1] at hk; exact hk.2 rfl
    ·intro k hk
     obtain ⟨u, hu0, hu⟩ := hSr k hk;have h1 := hi.sb u k hu;have hne : k ≠ N.q := by
      rintro rfl; exact hi.sd u 0 hu0 _ hu hsb
     exact ⟨hout k h1.1 hne, h1.2.2, fun h => hi.sd u 0 hu0 _ hu (hr.sub k h), hne⟩
   unfold backP at hb;cases hmu : s.multi
   ·rw [hmu] at hb hfin
    simp only [cond_false] at hb;split at hb
    ·rename_i t hrs
     have hrun := results_run (P := P) (w := w) (a := a) (fn := fn) (vs := [a.tmps.getD t undef]) (by rw [hrs]; simp [resG, Sem.run_bind, Sem.run_pure, Result.andThen])
     refine ⟨hi.defers, _, hrun, ?_⟩
     simp only [List.size_toArray, List.length_cons, List.length_nil, Nat.zero_add, dite_true];show PPost F0 S0 w0 N.q s x y (.returned (a.tmps.getD t undef)) w;split at hb
     ·rename_i z l hz2
      obtain ⟨rfl, hl0⟩ := hb;rcases ownR_ok hi (bC hi (.tmp t)) hz2 with ⟨rfl, h⟩ | ⟨u, rfl, h⟩
      ·exact hfin _ none' (fun _ h => h.elim) h
      ·refine hfin _ (S u) (fun k hk => ⟨u, ?_, hk⟩) h
       rintro rfl
       simp [memN] at hl0
     ·cases hb
    ·cases hb
   ·rw [hmu] at hb hfin
    simp only [cond_true] at hb;obtain ⟨hrs, hres⟩ := hb;have hrs' : fn.results = #[] := by apply Array.ext'; simpa using hrs
    refine ⟨hi.defers, .tuple #[], by simp [results, hrs'], hfin _ none' (fun _ h => h.elim) ⟨[], rfl, TupOK.empty hres _⟩⟩
  ·cases hl
 ·cases hl

theorem POk.introQ {q : Nat} (hC : aJ P C) {stp : St -> Oper -> Option (Prop × St)} (hstp : StpOK P C stp) {f : FuncId} {s : PSpec} {fn : Func} (hdef : FnDef P f) (hf : P.funcs[f]? = some fn)
  (hN : C.np = ⟨fn.ntmps, some 0, q⟩) (hlen : Nat.ble (s.args.length + 1) fn.ntmps = true) (L : s.τ.den -> aO s.args -> List aS) (h : funP C stp s L fn) : POk P f s (some q) := by
 refine ⟨hdef, ?_⟩
 intro w F S0 b cs x vs y hq hb hF hS0 h1 h2 ha hpre
 have hq := hq q rfl
 subst hq
 unfold funP at h
 split at h
 ·rename_i c hbd
  have hl := bZ.len ha
  have hlen' : s.args.length + 1 <= fn.ntmps := Nat.le_of_ble_eq_true hlen
  have hst := aM.startP (P := P) (n := fn.ntmps) hb hF hS0 h1 h2 ha (by omega)
  rw [<- hN] at hst;refine calls_of_wp hf hbd ?_;have hend : ∀ st a w', retPP s fn.results.toList (s.fn x y) (s.out x y) st -> Inv P C.np w F (fun k => S0 k ∨ k = b) st a w' -> bodyPost P fn (PPost F S0 w b s x y) .normal a w' := by
   intro st a w' hq hi;have hqq : C.np.q = b := by rw [hN]
   have := retPP_ok (N := C.np) (by rw [hN]) (x := x) (y := y) (S0 := S0) (by rw [hqq]) hq hi
   rwa [hqq] at this
  refine wpI_ok hC hstp c (h x y hpre h2.fact (factsK_ok ha)) ⟨F, _, by simpa using hst⟩ ?_ (fun _ _ _ _ h => h.elim) ?_
  ·intro st a w' hq hi
   exact hend st a w' hq hi
  ·intro st a w' hq hi
   exact hend st a w' hq hi
 ·cases h

theorem POk.all {f : FuncId} {s : PSpec} (h : ∀ q, POk P f s (some q)) : POk P f s :=
 ⟨(h 0).1, fun w F S0 b cs x vs y _ hb hF hS0 h1 h2 ha hp => (h b).2 w F S0 b cs x vs y (fun q hq => by injection hq) hb hF hS0 h1 h2 ha hp⟩

theorem POk.intro {C : Nat -> Ctx} (hC : ∀ q, aJ P (C q)) {stp : Nat -> St -> Oper -> Option (Prop × St)} (hstp : ∀ q, StpOK P (C q) (stp q)) {f : FuncId} {s : PSpec} {fn : Func} (hdef : FnDef P f) (hf : P.funcs[f]? = some fn)
  (hN : ∀ q, (C q).np = ⟨fn.ntmps, some 0, q⟩) (hlen : Nat.ble (s.args.length + 1) fn.ntmps = true) (L : Nat -> s.τ.den -> aO s.args -> List aS) (h : ∀ q, funP (C q) (stp q) s (L q) fn) : POk P f s :=
 POk.all fun q => POk.introQ (hC q) (hstp q) hdef hf (hN q) hlen (L q) (h q)
end
end Go.Lf
namespace Go.Lf

section
variable {P : Program} {C : Ctx} {N : NP} {w0 : World} {F0 H : aA} {env : St} {a : Act} {w : World} {F : aA} {S : Nat -> aA} {d : Nat}

theorem aM.rebase (hi : aM P N w0 F0 H env a w F S) {s : Nat} {τ : Ty} {m : Md} {x : τ.den} (hs : env s = .box τ m x) :
  ∃ q, aM P ⟨N.n, some s, q⟩ w F (fun b => ∃ t, S t b) env a w F S := by
 have h := hi.ent s
 rw [hs] at h
 obtain ⟨pl, S0, cs, hr⟩ := h
 obtain ⟨_, _, b, _, _, hv, _⟩ := hr.box_inj
 refine ⟨b, rfl, rfl, rfl, Nat.le_refl _, fun _ _ _ => rfl, hi.fb, fun _ h => h, fun b h1 h2 => absurd h1 h2, fun t b h => ⟨.inr ⟨t, h⟩, (hi.sb t b h).2.1, (hi.sb t b h).2.2⟩, hi.sd, hi.ent, hi.defers, ⟨hi.slots.size, ?_⟩⟩
 intro s' hs'
 injection hs' with hs'
 subst hs'
 exact hv

theorem aM.unbase (hi : aM P N w0 F0 H env a w F S) (hN : N.p = none) {p : Option Nat} {q : Nat} {env2 : St} {a2 : Act} {w2 : World} {F2 : aA} {S2 : Nat -> aA}
  (hi2 : aM P ⟨N.n, p, q⟩ w F (fun b => ∃ t, S t b) env2 a2 w2 F2 S2) : aM P N w0 F0 H env2 a2 w2 F2 S2 := by
 have h0 := hi.size
 have hH : ∀ b, (w.heap.size <= b ∨ ∃ t, S t b) -> w0.heap.size <= b ∨ H b := by
  rintro b (h | ⟨t, h⟩)
  ·exact .inl (by omega)
  ·exact (hi.sb t b h).1
 refine ⟨hi2.os.trans hi.os, hi2.tape.trans hi.tape, hi2.output.trans hi.output, Nat.le_trans h0 hi2.size, ?_, hi2.fb, fun b hb => hi2.f0 b (hi.f0 b hb), ?_, fun t b h => ⟨hH b (hi2.sb t b h).1, (hi2.sb t b h).2⟩, hi2.sd, hi2.ent, hi2.defers, ⟨hi2.slots.size, fun s h => by rw [hN] at h; cases h⟩⟩
 ·intro k hk hn
  rw [hi2.block k (by omega) ?_]
  ·exact hi.block k hk hn
  ·rintro ⟨t, ht⟩
   rcases (hi.sb t k ht).1 with h | h
   ·omega
   ·exact hn h
 ·intro b h1 h2
  by_cases hF : F b
  ·exact hi.fn b hF h2
  ·exact hH b (hi2.fn b h1 hF)

end
end Go.Lf
namespace Go.Lf

def inC (C : Ctx) (st : St) (o : Oper) (q : Call) : Option (Prop × St) :=
 match q.callee, q.args.toList, o.dst with
 | .value (.func f), .tmp t :: zs, some d => match look C.ins f, st t with
  | some s, .own τ m x => bif wrB C d && decide (m = s.m) then (match bH (τ := τ) (σ := s.τ) x, argsE s.args (zs.map (bG (drop st t))) with
   | some x, some (y, true) => some (s.pre x y, put (drop st t) d (mkE C d s.res s.rm (s.out x y)))
   | _, _ => none) else none
  | _, _ => none
 | _, _, _ => none

section
variable {P : Program} {C : Ctx} {N : NP} {w0 : World} {F0 H : aA} {env : St} {a : Act} {w : World} {F : aA} {S : Nat -> aA} {d : Nat}

theorem aM.worldZ (hi : aM P N w0 F0 H env a w F S) {w' : World} {F' Z : aA}
  (h1 : w'.os = w.os) (h2 : w'.tape = w.tape) (h3 : w'.output = w.output) (h4 : w.heap.size <= w'.heap.size) (h5 : ∀ k, k < w.heap.size -> ¬ Z k -> w'.heap[k]? = w.heap[k]?)
  (hZ : ∀ k, Z k -> (w0.heap.size <= k ∨ H k) /\ ¬ F k /\ ∀ t, ¬ S t k)
  (hFF : Sub F F') (hFb : ∀ b, F' b -> b < w'.heap.size) (hFn : ∀ b, F' b -> ¬ F b -> w.heap.size <= b ∨ Z b) :
  aM P N w0 F0 H env a w' F' S := by
 have hFx : ∀ b, F b -> w'.heap[b]? = w.heap[b]? := fun b hb => h5 b (hi.fb b hb) fun h => (hZ b h).2.1 hb
 have hSx : ∀ t b, S t b -> w'.heap[b]? = w.heap[b]? := fun t b hb => h5 b (hi.sb t b hb).2.1 fun h => (hZ b h).2.2 t hb
 have hnF : ∀ t b, F' b -> ¬ F b -> ¬ S t b := by
  intro t b g1 g2 g3;rcases hFn b g1 g2 with h | h
  ·have := (hi.sb t b g3).2.1; omega
  ·exact (hZ b h).2.2 t g3
 refine ⟨h1.trans hi.os, h2.trans hi.tape, h3.trans hi.output, Nat.le_trans hi.size h4, ?_, hFb, fun b hb => hFF b (hi.f0 b hb), ?_, ?_, hi.sd, ?_, hi.defers, hi.slots⟩
 ·intro k hk hH
  refine (h5 k (Nat.lt_of_lt_of_le hk hi.size) fun h => ?_).trans (hi.block k hk hH)
  rcases (hZ k h).1 with h | h
  ·omega
  ·exact hH h
 ·intro b hb h0
  by_cases hF : F b
  ·exact hi.fn b hF h0
  ·rcases hFn b hb hF with h | h
   ·exact .inl (Nat.le_trans hi.size h)
   ·exact (hZ b h).1
 ·intro t b ht
  obtain ⟨g1, g2, g3⟩ := hi.sb t b ht;refine ⟨g1, Nat.lt_of_lt_of_le g2 h4, fun hF => ?_⟩
  by_cases hF' : F b
  ·exact g3 hF'
  ·exact hnF t b hF hF' ht
 ·intro t
  refine aF.keep hFF hFx rfl ?_ ?_ (hi.ent t)
  ·intro q hq
   exact ⟨fun _ => rfl, fun _ => rfl, rfl, fun b hb => hSx q b hb, fun b g1 g2 => hnF q b g1 g2, fun b hb => (hi.sb q b hb).2.2⟩
  ·intro _
   exact ⟨rfl, fun b hb => hSx t b hb, fun b g1 g2 => hnF t b g1 g2⟩

theorem inC_ok (hC : aJ P C) (hi : aM P C.np w0 F0 H env a w F S) {q : Call} {o : Oper} (ho : o.op = .call q) {c : Prop} {env' : St} (h : inC C env o q = some (c, env')) (hc : c) {K : Act -> World -> Prop} {Q : Exit -> Act -> World -> Prop}
  (hK : ∀ a' w', Inv P C.np w0 F0 H env' a' w' -> K a' w') : o.wp P a w K Q := by
 obtain ⟨callee, args, tys⟩ := q
 unfold inC at h
 simp only at h
 split at h
 ·rename_i f t zs d h3 h4
  split at h
  ·rename_i s τ m x hs ht
   cases hb : (wrB C d && decide (m = s.m))
   ·rw [hb] at h; cases h
   rw [hb] at h;simp only [cond_true] at h;simp only [Bool.and_eq_true, decide_eq_true_eq] at hb;obtain ⟨hd, hm⟩ := hb;have hd := wrB_iff hd;split at h
   ·rename_i x1 y hx hy
    have := aR hx
    injection this with e1 e2;subst e1; cases e2;simp only [Option.some.injEq, Prod.mk.injEq] at h;obtain ⟨rfl, rfl⟩ := h;have ht1 := hi.ent t;rw [ht] at ht1;obtain ⟨pl, S0, cs, hr⟩ := ht1;obtain ⟨_, _, e3, e4, e5⟩ := hr.own_inj;subst e4;have hO : aP F w s.τ m (S t) (a.tmps.getD t undef) x1 := ⟨cs, e5, hr.2.2⟩;rw [hm] at hO;have hi1 := hi.drop t;have hsh : bZ P F w s.args (zs.map a.eval) y := argsE_ok hi1 (VsOK_map (f := bG (Go.Lf.drop env t)) (fun z' _ => bC hi1 z')) hy
    obtain ⟨k1, k2⟩ := hC.ins f s hs;have hcall := k2 w F (S t) (a.tmps.getD t undef) x1 _ y hi.fb (fun k hk => ⟨(hi.sb t k hk).2.1, (hi.sb t k hk).2.2⟩) hO hsh hc
    have hrun : (execOp a.eval o).run P w = .ok (.enter f (a.tmps.getD t undef :: zs.map a.eval).toArray) w := by
     simp only [execOp, ho, resolve, Sem.run_bind, Act.eval, Deferred.ofValue, Sem.run_pure, Result.andThen, invoke];have := k1 ((a.tmps.getD t undef :: zs.map a.eval).toArray) w;rw [<- this]
     congr 1
     congr 1
     apply Array.ext'
     simp [h3, Act.eval]
    unfold Oper.wp;rw [hrun, Oper.upon_enter];refine hcall.mono ?_;intro e w' hpost;obtain ⟨v, F', Sr, rfl, q1, q2, q3, q4, q5, q6, q7, q8, q9, q10⟩ := hpost;have hnt : ∀ k, S t k -> ∀ u, ¬ (fun u => if u = t then none' else S u) u k := by
     intro k hk u hu;by_cases hut : u = t
     ·simp only [hut, if_true] at hu; exact hu
     ·simp only [hut, if_false] at hu; exact hi.sd u t hut k hu hk
    have hi2 := hi1.worldZ (Z := S t) q1 q2 q3 q4 q5 (fun k hk => ⟨(hi.sb t k hk).1, (hi.sb t k hk).2.2, hnt k hk⟩) q6 (fun b hb => q8 b (.inl hb)) q7
    obtain ⟨F2, S2, hh⟩ := hi2.putNew (C := C) (d := d) hd (RowKit.Below.refl _ _) (fun _ h => h) (fun k hk => q8 k (.inl hk)) (fun k g1 g2 => absurd g1 g2) (by
     intro b hb;obtain ⟨g1, g2⟩ := q9 b hb;refine ⟨?_, q8 b (.inr hb), g2, ?_⟩
     ·rcases g1 with g1 | g1
      ·exact .inl (Nat.le_trans hi.size g1)
      ·exact (hi.sb t b g1).1
     ·intro u hu
      rcases g1 with g1 | g1
      ·have := (hi1.sb u b hu).2.1; omega
      ·exact hnt b g1 u hu) q10
    rw [h4];exact hK _ _ ⟨F2, S2, hh⟩
   ·cases h
  ·cases h
 ·cases h

def stpQ (C : Ctx) (st : St) (o : Oper) : Option (Prop × St) :=
 match o.op with
 | .call q => match inC C st o q with
  | some r => some r
  | none => stpP C st o
 | _ => stpP C st o

theorem stpQ_ok (hC : aJ P C) : StpOK P C (stpQ C) := by
 intro w0 F0 H env env' a w o c hi h hc K Q hK
 unfold stpQ at h
 split at h
 ·rename_i q hop
  split at h
  ·rename_i r hr
   simp only [Option.some.injEq] at h;subst h;obtain ⟨F, S, hi⟩ := hi;exact inC_ok hC hi hop hr hc hK
  ·exact stpP_ok hC hi h hc K Q hK
 ·exact stpP_ok hC hi h hc K Q hK
end
end Go.Lf
namespace Go.Lf

def storeO (C : Ctx) (st : St) (T : TypeId) (va vv : aL) : Option (Prop × St) :=
 match va.e, vv.e, vv.s with
 | .addr r [.idx i], .own σ μ' y, some t => (match st r with
  | .own (.slice e) (.own _) xs => (match bH (τ := σ) (σ := e) y with
   | some y => bif decide (look C.tys T = some e) && !Nat.beq t r then some (List.length xs = 1, upd (bP (drop st t) r) r (.own (.slice e) (.own μ') [y])) else none
   | none => none)
  | _ => none)
 | _, _, _ => none

def storeT (C : Ctx) (st : St) (T : TypeId) (va vv : aL) : Option (Prop × St) :=
 match vv.sub?, va.addr? with
 | some al, some l => match aK al.p al.τ al.x, aY al.p al.τ al.m, aK l.p l.τ l.x, aY l.p l.τ l.m with
  | some ⟨σ', y⟩, some μ', some ⟨σ, _⟩, some μ => (match bH (τ := σ') (σ := σ) y with
   | some y => bif decide (look C.tys T = some σ) && memN C.take al.r && a7 [l.r, al.r] then (match setP l.p l.τ l.x σ y, modeS l μ μ' with
    | some x', some m' => some (True, upd (keepAS (dropAll st [al.r]) l.r l.p) l.r (reown (st l.r) l.τ m' x'))
    | _, _ => none) else none
   | none => none)
  | _, _, _, _ => none
 | _, _ => none

section
variable {P : Program} {C : Ctx} {N : NP} {w0 : World} {F0 H : aA} {env : St} {a : Act} {w : World} {F : aA} {S : Nat -> aA} {d : Nat}

theorem storeO_ok (hC : aJ P C) (hi : aM P C.np w0 F0 H env a w F S) {T : TypeId} {x z : Operand} {o : Oper} (ho : o.op = .store T x z) (hod : o.dst = none)
  {c : Prop} {st' : St} (h : storeO C env T (bG env x) (bG env z) = some (c, st')) (hc : c) {K : Act -> World -> Prop} {Q : Exit -> Act -> World -> Prop} (hK : ∀ a' w', Inv P C.np w0 F0 H st' a' w' -> K a' w') : o.wp P a w K Q := by
 have hx := bC hi x
 have hz := bC hi z
 unfold storeO at h
 split at h
 ·rename_i r i σ μ' y t hxe hze hzs
  split at h
  ·rename_i e μ0 xs hr
   split at h
   ·rename_i y' hcast
    cases hb : (decide (look C.tys T = some e) && !Nat.beq t r)
    ·rw [hb] at h; cases h
    rw [hb] at h;simp only [cond_true, Option.some.injEq, Prod.mk.injEq] at h;obtain ⟨rfl, rfl⟩ := h;simp only [Bool.and_eq_true, decide_eq_true_eq, Bool.not_eq_true'] at hb;obtain ⟨hT, htr⟩ := hb;have htr : t ≠ r := fun e => by rw [aT.2 e] at htr; cases htr
    have hcd := aR hcast
    injection hcd with e1 e2;subst e1; cases e2;have hown := ownAs_ok (e := σ) (m := μ') (x := y) (l := [t]) hi hz (by unfold aL.ownAs; rw [hze, hzs]; simp [bH]);rcases hown with ⟨h, _⟩ | ⟨t', h, hown⟩
    ·cases h
    injection h with h _;subst h;have hroot : (bG env x).r = env r := by rw [hx.root, hxe]; rfl
    obtain ⟨σ1, y1, μ1, pl, S0, cs, b, off, hA, hv⟩ := addr?_ok (l := ⟨r, [.idx i], .slice σ, .own μ0, xs⟩) hi hx (by unfold aL.addr?; rw [hxe, hroot, hr]; rfl);have hR := hA.root;simp only at hR;rw [hr] at hR;obtain ⟨_, _, hpl, hS0, hV⟩ := hR.own_inj;subst hS0; subst hpl;have hO := hR.2.2;obtain ⟨ao, cap, hcs, hcap, hlim, hm⟩ := hO;have hir := hA.inr;simp only [inR] at hir;have hi0 : i = 0 := by have := hir.1; omega
    subst hi0;rcases hm with ⟨_, h⟩ | ⟨b1, off1, row, T1, Si, rfl, hb1, hrow, hsz, s, nb, dd, he⟩
    ·omega
    have hloc := hA.loc
    rw [hcs] at hloc;simp only [loc, aH.read] at hloc;rw [if_pos (by omega)] at hloc;simp only [Option.some.injEq, Prod.mk.injEq, aH.mem.injEq] at hloc;obtain ⟨rfl, rfl, rfl⟩ := hloc;obtain ⟨c', hc', hvo⟩ := hown;have hsize : off1 + 0 * σ.size + σ.size <= row.size := by
     have : 1 * σ.size <= cap * σ.size := Nat.mul_le_mul_right _ (by omega)
     omega
    obtain ⟨w', k1, k2, k3, k4, k5, k6, k7⟩ := (hC.types T _ hT).storeVar (P := P) hrow hsize hvo.len hvo.one;have hF : ∀ k, F k -> w'.heap[k]? = w.heap[k]? := fun k hk => k3 k (fun e => (hi.sb r b1 hb1).2.2 (e ▸ hk))
    have hSt : ∀ u, u ≠ r -> ∀ k, S u k -> w'.heap[k]? = w.heap[k]? := fun u hu k hk => k3 k (fun e => hi.sd u r hu k hk (e ▸ hb1))
    have hvo' : Own F w' σ μ' (S t) c' y := hvo.congr hF (hSt t htr)
    have hi2 := hi.drop t
    have hdr : Go.Lf.drop env t r = env r := by
     unfold Go.Lf.drop;rw [a5 _ _ (fun e => htr e.symm)]
     unfold bP killE;rw [hr]; rfl
    have hnew : Own F w' (.slice σ) (.own μ') (fun k => k = b1 ∨ S t k) [.slice (some ⟨b1, off1, none⟩) 1 cap] [y] := by
     obtain ⟨g1, row0, row1, T0, g2, g3, g4, g5⟩ := k2;rw [hrow] at g2;injection g2 with g2;injection g2 with g2 _ _;subst g2;refine ⟨_, cap, rfl, by rw [hc] at hcap; exact hcap, by simp [lim], .inr ⟨b1, off1, row1, T0, fun i => if i = 0 then S t else none', rfl, .inl rfl, g3, ?_, ?_, ?_, ?_, ?_⟩⟩
     ·have : row1.size = row.size := by
       have := congrArg List.length g5
       simp only [Array.length_toList, List.length_append, List.length_take, List.length_drop, g1] at this;omega
      rw [this]; exact hsz
     ·intro i b hb
      by_cases h : i = 0
      ·rw [if_pos h] at hb; exact .inr hb
      ·rw [if_neg h] at hb; exact hb.elim
     ·intro i hb
      by_cases h : i = 0
      ·rw [if_pos h] at hb; exact hi.sd t r htr b1 hb hb1
      ·rw [if_neg h] at hb; exact hb.elim
     ·intro i j hij b h1 h2
      by_cases h : i = 0
      ·by_cases h' : j = 0
       ·exact hij (h.trans h'.symm)
       ·rw [if_neg h'] at h2; exact h2.elim
      ·rw [if_neg h] at h1; exact h1.elim
     ·intro i x hix
      cases i with
      | succ i => simp at hix
      | zero =>
       simp only [List.getElem?_cons_zero, Option.some.injEq] at hix;subst hix;simp only [if_true];have : seg row1.toList (off1 + 0 * σ.size) σ.size = c' := by
        rw [g5];unfold seg;rw [List.append_assoc, List.drop_append, List.drop_eq_nil_of_le (by rw [List.length_take]; omega), List.nil_append, List.length_take, Array.length_toList, Nat.min_eq_left (by omega), Nat.sub_self, List.drop_zero, List.take_append, List.take_of_length_le (by omega), g1, Nat.sub_self, List.take_zero, List.append_nil]
       rw [this]; exact hvo'
    have hset2 := hi2.setRoot (r := r) (by rw [hdr, hr]; rfl) (w' := w') (Sr := fun k => k = b1 ∨ S t k) (E := .own (.slice σ) (.own μ') [y]) rfl
     k5 k6 k7 (by omega) (fun k hk hH => k3 k (fun e => by subst e; exact (hi.sb r k hb1).1.elim (fun h => by omega) hH))
     (by
      rintro k (hk | ⟨u, hu, hk⟩)
      ·exact hF k hk
      ·by_cases h : u = t
       ·simp [h] at hk; exact hk.elim
       ·simp only [h, if_false] at hk; exact hSt u hu k hk)
     (by
      intro k hk;have hk2 : ∃ u, (u = r ∨ u = t) /\ S u k := by
       rcases hk with rfl | hk
       ·exact ⟨r, .inl rfl, hb1⟩
       ·exact ⟨t, .inr rfl, hk⟩
      obtain ⟨u, hu, hk2⟩ := hk2;obtain ⟨q1, q2, q3⟩ := hi.sb u k hk2;refine ⟨q1, by omega, q3, fun v hv hk3 => ?_⟩
      by_cases h : v = t
      ·simp [h] at hk3; exact hk3
      ·simp only [h, if_false] at hk3
       exact hi.sd v u (fun e => by rcases hu with rfl | rfl <;> contradiction) k hk3 hk2)
     (by
      simp only [aF, if_true];refine ⟨.val cs, _, cs, .inl ⟨rfl, rfl, rfl, hV⟩, rfl, ?_⟩;rw [hcs, hc]; exact hnew)
    unfold Oper.wp;have fin : (execOp a.eval o).run P w = .ok .skip w' := by
     simp [execOp, ho, Instr.storeAt, hv, Instr.sureAddr]
     rw [hc', show off1 = off1 + 0 * σ.size by omega, k1]; rfl
    rw [fin, Oper.upon_skip, hod];exact hK a w' ⟨F, _, hset2⟩
   ·cases h
  ·cases h
 ·cases h

theorem storeT_ok (hC : aJ P C) (hi : aM P C.np w0 F0 H env a w F S) {T : TypeId} {x z : Operand} {o : Oper} (ho : o.op = .store T x z) (hod : o.dst = none)
  {c : Prop} {st' : St} (h : storeT C env T (bG env x) (bG env z) = some (c, st')) {K : Act -> World -> Prop} {Q : Exit -> Act -> World -> Prop} (hK : ∀ a' w', Inv P C.np w0 F0 H st' a' w' -> K a' w') : o.wp P a w K Q := by
 have hx := bC hi x
 have hz := bC hi z
 unfold storeT at h
 split at h
 ·rename_i al l hal hl
  obtain ⟨σ1, y1, μ1, pl1, S1, cs1, pl1', cs1', hB, hrd, hvz⟩ := sub?_ok hi hz hal;obtain ⟨σ2, y2, μ2, pl, S0, cs, b, off, hA, hv⟩ := addr?_ok hi hx hl;rw [hB.get, hB.mode, hA.get, hA.mode] at h;simp only at h;split at h
  ·rename_i y hcast
   have hcd := aR hcast
   injection hcd with e1 e2;subst e1; cases e2;cases hb : (decide (look C.tys T = some σ1) && memN C.take al.r && a7 [l.r, al.r])
   ·rw [hb] at h; cases h
   rw [hb] at h;simp only [Bool.and_eq_true, decide_eq_true_eq] at hb;obtain ⟨⟨hT, _⟩, hn⟩ := hb;simp only [cond_true] at h;split at h
   ·rename_i x' m' hset hmode
    simp only [Option.some.injEq, Prod.mk.injEq] at h;obtain ⟨_, rfl⟩ := h;have hm : μ1 = μ2 /\ m' = l.m ∨ setM l.p l.τ l.m μ1 = some m' := by
     unfold modeS at hmode;cases hd : decide (μ1 = μ2)
     ·rw [hd] at hmode; exact .inr hmode
     ·rw [hd] at hmode
      simp only [cond_true, Option.some.injEq] at hmode;exact .inl ⟨of_decide_eq_true hd, hmode.symm⟩
    obtain ⟨cs2, S', f⟩ := hA.focus (fun b hb => (hi.sb _ b hb).2.2)
    obtain ⟨q1, q2, row, T0, q3, q4, q5⟩ := f.ok;have hbS : S l.r b := (f.blk b rfl).elim (hA.root.sub b) hA.root.isB;obtain ⟨cs3, S3, f3⟩ := hB.focus (fun b hb => (hi.sb _ b hb).2.2)
    have e3 := f3.ok.read.symm.trans hrd
    simp only [Option.some.injEq] at e3; subst e3;have hown : aP F w σ1 μ1 S3 (a.eval z) y1 := ⟨_, hvz, f3.own⟩;have hS3 : ∀ k, S3 k -> S al.r k := fun k hk => hB.root.sub k (f3.sub k hk)
    obtain ⟨hnr, _⟩ := nodup_cons hn;have hne : al.r ≠ l.r := fun e => hnr (by simp [e])
    have hdis : ∀ k, S3 k -> ¬ S l.r k := fun k hk hr => hi.sd al.r l.r hne k (hS3 k hk) hr
    obtain ⟨w', g1, g2⟩ := store_core hC hi hT hA.root f.toPlug ⟨row, T0, q3, q4⟩ hown hn (fun k hk => ⟨fun h => hdis k hk (hA.root.sub k h.1), fun h => hdis k hk (hA.root.isB h), .inr ⟨al.r, by simp, hS3 k hk⟩, fun e => hdis k hk (e ▸ hbS)⟩) hset hm hA.get hA.mode hA.inr
    unfold Oper.wp;have fin : (execOp a.eval o).run P w = .ok .skip w' := by
     simp [execOp, ho, Instr.storeAt, hv, Instr.sureAddr, g1]
    rw [fin, Oper.upon_skip, hod];exact hK a w' g2
   ·cases h
  ·cases h
 ·cases h

def stpR (C : Ctx) (st : St) (o : Oper) : Option (Prop × St) :=
 match stpQ C st o with
 | some r => some r
 | none => match o.op with
  | .store T x v => bif isNone o.dst then (match storeO C st T (bG st x) (bG st v) with
   | some r => some r
   | none => storeT C st T (bG st x) (bG st v)) else none
  | _ => none

theorem stpR_ok (hC : aJ P C) : StpOK P C (stpR C) := by
 intro w0 F0 H env env' a w o c hi h hc K Q hK
 unfold stpR at h
 split at h
 ·rename_i r hr
  simp only [Option.some.injEq] at h;subst h;exact stpQ_ok hC hi hr hc K Q hK
 ·split at h
  ·rename_i T x v hop
   obtain ⟨F, S, hi⟩ := hi;cases hd : isNone o.dst
   ·rw [hd] at h; cases h
   ·rw [hd] at h
    simp only [cond_true] at h;split at h
    ·rename_i r hr
     simp only [Option.some.injEq] at h;subst h;exact storeO_ok hC hi hop (isNone_iff.1 hd) hr hc hK
    ·exact storeT_ok hC hi hop (isNone_iff.1 hd) h hK
  ·cases h
end
end Go.Lf
namespace Go.Lf

def mvLoad (C : Ctx) (st : St) (o : Oper) : Option (Prop × St) :=
 match o.op, o.dst with
 | .load T (.tmp r), some d => match st r with
  | .box (.slice e) (.own me) xs => bif memN C.mvs d && wrB C d && !Nat.beq r d && decide (look C.tys T = some (.slice e)) then
    some (True, put (upd (bP st r) r (.box (.abs .hole) .shr ())) d (.own (.slice e) (.own me) xs)) else none
  | _ => none
 | _, _ => none
def mvStore (C : Ctx) (st : St) (o : Oper) : Option (Prop × St) :=
 match o.op, o.dst with
 | .store T (.tmp r) (.tmp t), none => match st r, st t with
  | .box (.abs .hole) .shr _, .own (.slice e) μ y => bif !Nat.beq t r && decide (look C.tys T = some (.slice e)) then
    some (True, upd (bP (drop st t) r) r (.box (.slice e) μ y)) else none
  | _, _ => none
 | _, _ => none
def knoC (C : Ctx) (st : St) (o : Oper) (q : Call) : Option (Prop × St) :=
 match q.callee, o.dst, C.kno, C.pin with
 | .value (.tmp t), some d, some ts, some s => bif wrB C d then (match st t, st s with
  | .shr (.abs .kno) z, .box τ m x => bif decide (m = ts.m) then (match bH (τ := τ) (σ := ts.τ) x, argsE ts.args (q.args.toList.map (bG st)) with
   | some x1, some (y, true) => match bH (τ := ts.τ) (σ := τ) (ts.fn x1 y) with
    | some x' => some (z = some (ts.f, ts.l) /\ ts.pre x1 y, restS st s d (put (upd (bP st s) s (reown (st s) τ m x')) d .dead))
    | none => none
   | _, _ => none) else none
  | _, _ => none) else none
 | _, _, _, _ => none
def stpS (C : Ctx) (st : St) (o : Oper) : Option (Prop × St) :=
 match mvLoad C st o with
 | some r => some r
 | none => match mvStore C st o with
  | some r => some r
  | none => match o.op with
   | .call q => match knoC C st o q with
    | some r => some r
    | none => stpR C st o
   | _ => stpR C st o

section
variable {P : Program} {C : Ctx} {N : NP} {w0 : World} {F0 H : aA} {env : St} {a : Act} {w : World} {F : aA} {S : Nat -> aA} {d : Nat}

theorem mvLoad_ok (hC : aJ P C) (hi : aM P C.np w0 F0 H env a w F S) {o : Oper} {c : Prop} {env' : St} (h : mvLoad C env o = some (c, env')) {K : Act -> World -> Prop} {Q : Exit -> Act -> World -> Prop}
  (hK : ∀ a' w', Inv P C.np w0 F0 H env' a' w' -> K a' w') : o.wp P a w K Q := by
 unfold mvLoad at h
 split at h
 ·rename_i T r d hop hod
  split at h
  ·rename_i e me xs hr
   cases hb : (memN C.mvs d && wrB C d && !Nat.beq r d && decide (look C.tys T = some (.slice e)))
   ·rw [hb] at h; cases h
   rw [hb] at h;simp only [cond_true, Option.some.injEq, Prod.mk.injEq] at h;obtain ⟨_, rfl⟩ := h;simp only [Bool.and_eq_true, decide_eq_true_eq, Bool.not_eq_true'] at hb;obtain ⟨⟨⟨_, hd⟩, hrd⟩, hT⟩ := hb;have hd := wrB_iff hd;have hrd : r ≠ d := fun e => by rw [aT.2 e] at hrd; cases hrd
   have h1 := hi.ent r
   rw [hr] at h1;obtain ⟨pl, S0, cs, hR⟩ := h1;obtain ⟨_, _, b, rfl, hS0, hv, hsb⟩ := hR.box_inj;have hv : a.tmps.getD r undef = .pointer (some ⟨b, 0, none⟩) := hv;obtain ⟨q1, q2, row, T0, q3, q4, q5⟩ := hR.2.1;have hO := hR.2.2;have hbb := hi.sb r b hsb;have hlen : cs.length = 1 := hO.len;have hset := hi.setRoot (r := r) (by rw [hr]; rfl) (w' := w) (Sr := fun k => k = b) (E := .box (.abs .hole) .shr ()) rfl rfl rfl rfl (Nat.le_refl _) (fun _ _ _ => rfl) (fun _ _ => rfl)
    (fun k hk => by subst hk; exact ⟨hbb.1, hbb.2.1, hbb.2.2, fun t ht h => hi.sd t r ht k h hsb⟩)
    (by
     simp only [aF, if_true];refine ⟨.mem b 0, fun k => k = b /\ k ≠ b, cs, .inr ⟨rfl, b, rfl, rfl, hv, rfl⟩, ⟨fun h => h.2 rfl, q2, row, T0, q3, q4, q5⟩, ?_⟩
     match cs, hlen with
     | [v], _ => exact ⟨v, rfl, hO.one v (by simp)⟩)
   have hS0d : ∀ k, S0 k -> (w0.heap.size <= k ∨ H k) /\ k < w.heap.size /\ ¬ F k /\ ∀ t, t ≠ d -> ¬ (if t = r then (fun k => k = b) else S t) k := by
    intro k hk;rw [hS0] at hk;obtain ⟨g1, g2, g3⟩ := hi.sb r k hk.1;refine ⟨g1, g2, g3, fun t ht h => ?_⟩
    by_cases htr : t = r
    ·simp only [htr, if_true] at h; exact hk.2 h
    ·simp only [htr, if_false] at h
     exact hi.sd t r htr k h hk.1
   have hput := hset.put (d := d) (e := .own (.slice e) (.own me) xs) (v := a8 (.slice e) cs) (w' := w) (F' := F) (Sd := S0) hd (RowKit.Below.refl _ _) (fun _ h => h) hi.fb (fun k h1 h2 => absurd h1 h2) hS0d (by
    simp only [aF, if_true];refine ⟨.val cs, S0, cs, .inl ⟨rfl, rfl, rfl, ?_⟩, rfl, hO⟩;rw [Act.getD_put (by rw [hi.slots.size]; exact hd.1), if_pos rfl])
   have hrun : (execOp a.eval o).run P w = .ok (.value (a8 (.slice e) cs)) w := by
    have hx : a.eval (.tmp r) = .pointer (some ⟨b, 0, none⟩) := hv
    simp only [execOp, hop, hx];simp [Instr.loadAt, Instr.sureAddr, (hC.types T _ hT).loadVar q3 q4, q5]
   unfold Oper.wp;rw [hrun, Oper.upon_value, hod];exact hK _ _ ⟨F, _, hput⟩
  ·cases h
 ·cases h

theorem mvStore_ok (hC : aJ P C) (hi : aM P C.np w0 F0 H env a w F S) {o : Oper} {c : Prop} {env' : St} (h : mvStore C env o = some (c, env')) {K : Act -> World -> Prop} {Q : Exit -> Act -> World -> Prop}
  (hK : ∀ a' w', Inv P C.np w0 F0 H env' a' w' -> K a' w') : o.wp P a w K Q := by
 unfold mvStore at h
 split at h
 ·rename_i T r t hop hod
  split at h
  ·rename_i u e μ y hr ht
   cases hb : (!Nat.beq t r && decide (look C.tys T = some (.slice e)))
   ·rw [hb] at h; cases h
   rw [hb] at h;simp only [cond_true, Option.some.injEq, Prod.mk.injEq] at h;obtain ⟨_, rfl⟩ := h;simp only [Bool.and_eq_true, decide_eq_true_eq, Bool.not_eq_true'] at hb;obtain ⟨htr, hT⟩ := hb;have htr : t ≠ r := fun e => by rw [aT.2 e] at htr; cases htr
   have h1 := hi.ent r
   rw [hr] at h1;obtain ⟨pl, S0, cs, hR⟩ := h1;obtain ⟨_, _, b, rfl, hS0, hv, hsb⟩ := hR.box_inj;have hv : a.tmps.getD r undef = .pointer (some ⟨b, 0, none⟩) := hv;obtain ⟨q1, q2, row, T0, q3, q4, q5⟩ := hR.2.1;have hbb := hi.sb r b hsb;have h2 := hi.ent t;rw [ht] at h2;obtain ⟨pl2, S2, cs2, hR2⟩ := h2;obtain ⟨_, _, hpl2, hS2, hV2⟩ := hR2.own_inj;have hO := hR2.2.2;subst hS2;obtain ⟨w', k1, k2, k3, k4, k5, k6, k7⟩ := (hC.types T _ hT).storeVar (P := P) q3 (show 0 + (Ty.slice e).size <= row.size from q4) hO.len hO.one;have hF : ∀ k, F k -> w'.heap[k]? = w.heap[k]? := fun k hk => k3 k (fun e => hbb.2.2 (e ▸ hk))
   have hSt : ∀ u, u ≠ r -> ∀ k, S u k -> w'.heap[k]? = w.heap[k]? := fun u hu k hk => k3 k (fun e => hi.sd u r hu k hk (e ▸ hsb))
   have hO' : Own F w' (.slice e) μ (S t) cs2 y := hO.congr hF (hSt t htr)
   have hi2 := hi.drop t
   have hdr : Go.Lf.drop env t r = env r := by
    unfold Go.Lf.drop;rw [a5 _ _ (fun e => htr e.symm)]
    unfold bP killE;rw [hr]; rfl
   have hset2 := hi2.setRoot (r := r) (by rw [hdr, hr]; rfl) (w' := w') (Sr := fun k => k = b ∨ S t k) (E := .box (.slice e) μ y) rfl
    k5 k6 k7 (by omega) (fun k hk hH => k3 k (fun e => by subst e; exact hbb.1.elim (fun h => by omega) hH))
    (by
     rintro k (hk | ⟨u, hu, hk⟩)
     ·exact hF k hk
     ·by_cases h : u = t
      ·simp [h] at hk; exact hk.elim
      ·simp only [h, if_false] at hk; exact hSt u hu k hk)
    (by
     intro k hk;have hk2 : ∃ u, (u = r ∨ u = t) /\ S u k := by
      rcases hk with rfl | hk
      ·exact ⟨r, .inl rfl, hsb⟩
      ·exact ⟨t, .inr rfl, hk⟩
     obtain ⟨u, hu, hk2⟩ := hk2;obtain ⟨g1, g2, g3⟩ := hi.sb u k hk2;refine ⟨g1, by omega, g3, fun v hv hk3 => ?_⟩
     by_cases h : v = t
     ·simp [h] at hk3; exact hk3
     ·simp only [h, if_false] at hk3
      exact hi.sd v u (fun e => by rcases hu with rfl | rfl <;> contradiction) k hk3 hk2)
    (by
     simp only [aF, if_true];obtain ⟨g1, row0, row1, T1, g2, g3, g4, g5⟩ := k2;rw [q3] at g2;injection g2 with g2;injection g2 with g2 _ _;subst g2;have hnb : ¬ S t b := fun h => hi.sd t r htr b h hsb
     have hsz : 0 + 1 <= row.size := q4
     have hl1 : row1.size = row.size := by
      have := congrArg List.length g5
      simp only [Array.length_toList, List.length_append, List.length_take, List.length_drop, g1, Ty.size] at this;omega
     refine ⟨.mem b 0, S t, cs2, .inr ⟨rfl, b, rfl, ?_, hv, .inl rfl⟩, ⟨hnb, hbb.2.2, row1, T1, g3, by rw [hl1]; exact q4, ?_⟩, hO'⟩
     ·funext k
      by_cases hk : k = b
      ·subst hk; simp [hnb]
      ·simp [hk]
     ·rw [g5]
      unfold seg;rw [List.take_zero, List.nil_append, List.drop_zero, List.take_append, List.take_of_length_le (by rw [g1]; exact Nat.le_refl _), g1, Nat.sub_self, List.take_zero, List.append_nil])
   unfold Oper.wp;have hx : a.eval (.tmp r) = .pointer (some ⟨b, 0, none⟩) := hv;have hz : a.eval (.tmp t) = a8 (.slice e) cs2 := hV2;have fin : (execOp a.eval o).run P w = .ok .skip w' := by
    simp [execOp, hop, Instr.storeAt, hx, hz, Instr.sureAddr, k1]
   rw [fin, Oper.upon_skip, hod];exact hK a w' ⟨F, _, hset2⟩
  ·cases h
 ·cases h

theorem knoC_ok (hC : aJ P C) (hi : aM P C.np w0 F0 H env a w F S) {q : Call} {o : Oper} (ho : o.op = .call q) {c : Prop} {env' : St} (h : knoC C env o q = some (c, env')) (hc : c) {K : Act -> World -> Prop} {Q : Exit -> Act -> World -> Prop}
  (hK : ∀ a' w', Inv P C.np w0 F0 H env' a' w' -> K a' w') : o.wp P a w K Q := by
 obtain ⟨callee, args, tys⟩ := q
 unfold knoC at h
 simp only at h
 split at h
 ·rename_i t d ts s h3 h4 h5
  cases hb : wrB C d
  ·rw [hb] at h; cases h
  rw [hb] at h;simp only [cond_true] at h;split at h
  ·rename_i z τ m x ht hs
   cases hf : decide (m = ts.m)
   ·rw [hf] at h; cases h
   rw [hf] at h;simp only [cond_true] at h;have hm := of_decide_eq_true hf;split at h
   ·rename_i x1 y hx hy
    have := aR hx
    injection this with e1 e2;subst e1; cases e2;split at h
    ·rename_i x' hx'
     have := aR hx'
     injection this with _ e3;cases e3;simp only [Option.some.injEq, Prod.mk.injEq] at h;obtain ⟨rfl, rfl⟩ := h;obtain ⟨rfl, hpre⟩ := hc;have ht1 := hi.ent t;rw [ht] at ht1;obtain ⟨cs1, hv1, caps, hcs, hcap⟩ := ht1;have hvt : a.tmps.getD t undef = .func (.func ts.f) #[] caps := by
      have hv1 : a.tmps.getD t undef = _ := hv1
      rw [hv1, hcs]; rfl
     have hs1 := hi.ent s
     rw [hs] at hs1;obtain ⟨pl, S0, cs, hr⟩ := hs1;obtain ⟨_, _, b, rfl, hS0, hvs, hsb⟩ := hr.box_inj;have hvs : a.tmps.getD s undef = .pointer (some ⟨b, 0, none⟩) := hvs;have hpin := hi.slots.pin s h5;have hbb : b = C.q := by
      rw [hvs] at hpin;injection hpin with hpin; injection hpin with hpin; injection hpin
     subst hbb;have hb' := hi.sb s _ hsb;have hsh : bZ P F w ts.args (args.toList.map a.eval) y := argsE_ok hi (VsOK_map (f := bG env) (fun z' _ => bC hi z')) hy
     obtain ⟨k1, k2⟩ := hC.kno ts h4;have k2 := k2 w F S0 cs x1 caps _ y hb'.2.1 hi.fb (fun k hk => by
      rw [hS0] at hk;exact ⟨(hi.sb s k hk.1).2.1, (hi.sb s k hk.1).2.2⟩) hr.2.1 (by rw [<- hm]; exact hr.2.2) hcap hsh hpre
     have hrun : (execOp a.eval o).run P w = .ok (.enter ts.f ((args.toList.map a.eval).toArray ++ caps)) w := by
      simp only [execOp, ho, resolve, Sem.run_bind, Act.eval, hvt, Deferred.ofValue, Sem.run_pure, Result.andThen, invoke];have := k1 ((args.toList.map a.eval).toArray ++ caps) w;rw [<- this]
      congr 1
      congr 1
      apply Array.ext'
      simp [Act.eval]
     unfold Oper.wp;rw [hrun, Oper.upon_enter];refine k2.mono ?_;intro e w' hpost;obtain ⟨v, F2, S2, rfl, hh⟩ := hi.putPtr (C := C) (s := ts.p) (y := y) (wrB_iff hb) hs hvs hS0 hsb (.inr hm) hpost;rw [h3];exact hK _ _ ⟨F2, S2, hi.restore rfl hh hs hvs (by rw [hs]; rfl) (fun t ht => by rw [Act.getD_put (by rw [hi.slots.size]; exact (wrB_iff hb).1), if_neg ht])⟩
    ·cases h
   ·cases h
  ·cases h
 ·cases h

theorem aW (hC : aJ P C) : StpOK P C (stpS C) := by
 intro w0 F0 H env env' a w o c hi h hc K Q hK
 unfold stpS at h
 split at h
 ·rename_i r hr
  simp only [Option.some.injEq] at h;subst h;obtain ⟨F, S, hi⟩ := hi;exact mvLoad_ok hC hi hr hK
 ·split at h
  ·rename_i r hr
   simp only [Option.some.injEq] at h;subst h;obtain ⟨F, S, hi⟩ := hi;exact mvStore_ok hC hi hr hK
  ·split at h
   ·rename_i q hop
    split at h
    ·rename_i r hr
     simp only [Option.some.injEq] at h;subst h;obtain ⟨F, S, hi⟩ := hi;exact knoC_ok hC hi hop hr hc hK
    ·exact stpR_ok hC hi h hc K Q hK
   ·exact stpR_ok hC hi h hc K Q hK
end
end Go.Lf
namespace Go.Lf

def capsEnt (t : KSpec) (x : t.τ.den) : List KI -> Nat -> List (Nat × Ent)
 | [], _ => []
 | .self :: l, n => (n, .saddr (.abs .kno) (some (t.f, t.l))) :: capsEnt t x l (n + 1)
 | .own _ :: l, n => (n, .box t.τ t.m x) :: capsEnt t x l (n + 1)
 | .fn g :: l, n => (n, .saddr (.abs .clo) (some (g, []))) :: capsEnt t x l (n + 1)
def isOwnI : KI -> Bool
 | .own _ => true
 | _ => false
def leftK (p : Nat) (s : PSpec) (x' : s.τ.den) (st : St) : Prop := match st p with
 | .box σ m z => bif s.τ.flat || decide (m = s.m) then (match bH (τ := σ) (σ := s.τ) z with
  | some z => z = x'
  | none => False) else False
 | _ => False
def retK (p : Nat) (s : PSpec) (rs : List ResultVar) (x' : s.τ.den) (st : St) : Prop := rs = [] /\ leftK p s x' st
def funK (C : Ctx) (stp : St -> Oper -> Option (Prop × St)) (p : Nat) (t : KSpec) (L : t.τ.den -> aO t.args -> List aS) (fn : Func) : Prop :=
 match fn.body with
 | some c => ∀ x y, t.pre x y -> aD t.τ x -> factsK t.args y -> wpI C stp (L x y) c 0 (ofL (b9 t.args y 0 ++ capsEnt t x t.l t.args.length)) (retK p t.p fn.results.toList (t.fn x y)) (fun _ _ => False) (retK p t.p fn.results.toList (t.fn x y))
 | none => False

section
variable {P : Program} {C : Ctx} {N : NP} {w0 : World} {F0 H : aA} {env : St} {a : Act} {w : World} {F : aA} {S : Nat -> aA} {d : Nat}

theorem look_app {α : Type} (l1 l2 : List (Nat × α)) (n : Nat) : look (l1 ++ l2) n = (look l1 n).or (look l2 n) := by
 induction l1 with
 | nil => rfl
 | cons x l1 ih =>
  simp only [List.cons_append, look];cases Nat.beq x.1 n
  ·exact ih
  ·rfl
theorem cell_saddr {v c : Value} {k : Abs} {x : k.den} (h : CellAt F w v c) (hx : AbsOK F w k [c] x) : SAddr F w v (.abs k) x := by
 obtain ⟨b, off, row, T, fr, h1, h2, h3, h4⟩ := h
 have hlt : off < row.size := (Array.getElem?_eq_some_iff.1 h4).1
 refine ⟨b, off, row, T, fr, h1, h2, h3, hlt, ?_⟩
 have : row[off] = c := (Array.getElem?_eq_some_iff.1 h4).2
 have e : seg row.toList off (Ty.abs k).size = [c] := by
  simp only [seg, Ty.size];rw [List.drop_eq_getElem_cons (by simpa using hlt)];simp [this]
 rw [e]; exact hx
theorem capsEnt_ok {t : KSpec} {x : t.τ.den} {v0 : Value} {S : Nat -> aA} {V : Nat -> Value} {st : St} {p : Nat} {cap0 : Array Value} (hv0 : v0 = .func (.func t.f) #[] cap0) (hcap : KIs F w v0 cap0.toList t.l) :
  ∀ {l : List KI} {caps : List Value} {n : Nat}, KIs F w v0 caps l -> (∀ i v, caps[i]? = some v -> V (n + i) = v) -> ∀ k e, look (capsEnt t x l n) k = some e ->
   (∃ i, k = n + i /\ l[i]?.map isOwnI = some true /\ e = .box t.τ t.m x) ∨ aF P F w st V S k e
 | [], _, _, _, _, k, e, h => by cases h
 | i :: l, [], _, h, _, _, _, _ => by cases h
 | i :: l, c :: caps, n, h, hV, k, e, hk => by
  obtain ⟨i', r, h1, h2, h3⟩ := h;injection h1 with h1 h1';subst h1; subst h1';have hc := hV 0 c rfl;rw [Nat.add_zero] at hc;have ih := capsEnt_ok (x := x) (S := S) (V := V) (st := st) (p := p) hv0 hcap (l := l) (caps := caps) (n := n + 1) h3 (fun j v hj => by rw [Nat.add_assoc, Nat.add_comm 1 j]; exact hV (j + 1) v hj) k e
  have rest : look (capsEnt t x l (n + 1)) k = some e -> (∃ j, k = n + j /\ (i :: l)[j]?.map isOwnI = some true /\ e = .box t.τ t.m x) ∨ aF P F w st V S k e := by
   intro hk;rcases ih hk with ⟨j, h4, h5, h6⟩ | h4
   ·exact .inl ⟨j + 1, by omega, h5, h6⟩
   ·exact .inr h4
  cases hb : Nat.beq n k with
  | false => cases i <;> simp only [capsEnt, look, hb, cond_false] at hk <;> exact rest hk
  | true =>
   have := Nat.eq_of_beq_eq_true hb
   subst this;cases i with
   | self =>
    simp only [capsEnt, look, hb, cond_true, Option.some.injEq] at hk;subst hk;right;show SAddr F w (V n) (.abs .kno) _;rw [hc];refine cell_saddr h2 ?_;exact ⟨cap0, by rw [hv0], by rw [<- hv0]; exact hcap⟩
   | own q =>
    simp only [capsEnt, look, hb, cond_true, Option.some.injEq] at hk;subst hk;exact .inl ⟨0, rfl, rfl, rfl⟩
   | fn g =>
    simp only [capsEnt, look, hb, cond_true, Option.some.injEq] at hk;subst hk;right;show SAddr F w (V n) (.abs .clo) _;rw [hc];exact cell_saddr h2 ⟨#[], rfl, rfl⟩
theorem KIs.len {v : Value} : ∀ {caps : List Value} {l : List KI}, KIs F w v caps l -> caps.length = l.length
 | [], l, h => by rw [show l = [] from h]; rfl
 | c :: cs, l, h => by
  obtain ⟨i, r, rfl, _, h3⟩ := h;simp [h3.len]
theorem KIs.own {v : Value} {q : Nat} : ∀ {l1 l2 : List KI} {caps : List Value}, KIs F w v caps (l1 ++ .own q :: l2) -> caps[l1.length]? = some (.pointer (some ⟨q, 0, none⟩))
 | [], l2, [], h => by cases h
 | [], l2, c :: cs, h => by
  obtain ⟨i, r, h1, h2, _⟩ := h;injection h1 with h1 _;subst h1;rw [show c = _ from h2]; rfl
 | i :: l1, l2, [], h => by cases h
 | i :: l1, l2, c :: cs, h => by
  obtain ⟨i', r, h1, h2, h3⟩ := h;injection h1 with _ h1;subst h1
  simpa using KIs.own h3
theorem retK_ok {p : Nat} (hN : N.p = some p) {s : PSpec} {x : s.τ.den} {y : aO s.args} {fn : Func} {S0 : aA} (hmu : s.multi = true) (hres : s.res = .unit) (hH : H = fun k => S0 k ∨ k = N.q) (hq : retK p s fn.results.toList (s.fn x y) env) (hi : Inv P N w0 F0 H env a w) :
  bodyPost P fn (PPost F0 S0 w0 N.q s x y) .normal a w := by
 obtain ⟨F, S, hi⟩ := hi
 obtain ⟨hrs, hl⟩ := hq
 unfold leftK at hl
 split at hl
 ·rename_i σ m z hz
  cases hf : (s.τ.flat || decide (m = s.m))
  ·rw [hf] at hl; cases hl
  rw [hf] at hl;simp only [cond_true] at hl;simp only [Bool.or_eq_true, decide_eq_true_eq] at hf;split at hl
  ·rename_i z' hz'
   have := aR hz'
   injection this with e1 e2;subst e1; cases e2;subst hl;have h0 := hi.ent p;rw [hz] at h0;obtain ⟨pl, S1, cs, hr⟩ := h0;obtain ⟨_, _, b, rfl, hS1, hv, hsb⟩ := hr.box_inj;have hpin := hi.slots.pin p hN;have hv : a.tmps.getD p undef = .pointer (some ⟨b, 0, none⟩) := hv;rw [hv] at hpin;have hbb : b = N.q := by injection hpin with h; injection h with h; injection h
   subst hbb;have hown : Own F w s.τ s.m S1 cs (s.fn x y) := by
    rcases hf with hf | hf
    ·exact hr.2.2.flat hf
    ·rw [<- hf]; exact hr.2.2
   have hout : ∀ k, (w0.heap.size <= k ∨ H k) -> k ≠ N.q -> (w0.heap.size <= k ∨ S0 k) := by
    rintro k (hk | hk) hne
    ·exact .inl hk
    ·rw [hH] at hk
     exact hk.elim .inr (fun h => absurd h hne)
   have hrs' : fn.results = #[] := by apply Array.ext'; simpa using hrs
   refine ⟨hi.defers, .tuple #[], by simp [results, hrs'], ?_⟩
   refine ⟨.tuple #[], F, S1, none', cs, rfl, hi.os, hi.tape, hi.output, hi.size, ?_, hi.f0, ?_, ?_, ?_, fun k hk => hk.elim, hr.2.1, hown, ?_⟩
   ·intro k hk hne hS
    exact hi.block k hk (by rw [hH]; rintro (h | h); exact hS h; exact hne h)
   ·intro k hk hF
    refine hout k (hi.fn k hk hF) ?_
    rintro rfl
    exact (hi.sb p _ hsb).2.2 hk
   ·rintro k (hk | hk | hk)
    ·exact hi.fb k hk
    ·exact (hi.sb p k (hr.sub k hk)).2.1
    ·exact hk.elim
   ·intro k hk
    have h1 := hi.sb p k (hr.sub k hk)
    refine ⟨hout k h1.1 ?_, h1.2.2⟩
    rintro rfl
    rw [hS1] at hk; exact hk.2 rfl
   ·unfold RetV
    rw [hmu];exact ⟨[], rfl, TupOK.empty hres _⟩
  ·cases hl
 ·cases hl
theorem KnOK.intro {q p : Nat} {t : KSpec} (hC : aJ P C) {stp : St -> Oper -> Option (Prop × St)} (hstp : StpOK P C stp) {fn : Func} (hdef : FnDef P t.f) (hf : P.funcs[t.f]? = some fn)
  (hN : C.np = ⟨fn.ntmps, some p, q⟩) {l1 l2 : List KI} (hl : t.l = l1 ++ .own q :: l2) (h1 : l1.all (fun i => !isOwnI i) = true) (h2 : l2.all (fun i => !isOwnI i) = true) (hp : p = t.args.length + l1.length)
  (hlen : t.args.length + t.l.length <= fn.ntmps) (L : t.τ.den -> aO t.args -> List aS) (h : funK C stp p t L fn) : KnOK P q t := by
 refine ⟨hdef, ?_⟩
 intro w F S0 cs x caps vs y hq hF hS0 hpl hown hcap ha hpre
 unfold funK at h
 split at h
 ·rename_i c hbd
  have hal := bZ.len ha
  have hcl := hcap.len
  have hown1 : caps.toList[l1.length]? = some (.pointer (some ⟨q, 0, none⟩)) := by rw [hl] at hcap; exact hcap.own
  have hl1 : l1.length < t.l.length := by rw [hl]; simp
  have hsz : (vs ++ caps.toList).length = t.args.length + t.l.length := by rw [List.length_append, hal, hcl]
  have hget : ∀ i v, (vs ++ caps.toList)[i]? = some v -> ((vs ++ caps.toList).toArray ++ Array.replicate (fn.ntmps - (vs ++ caps.toList).length) undef).getD i undef = v := by
   intro i v hv;have hi : i < (vs ++ caps.toList).length := (List.getElem?_eq_some_iff.1 hv).1;rw [Array.getD_eq_getD_getElem?, Array.getElem?_append_left (by simpa using hi)];simp only [List.getElem?_toArray, hv, Option.getD_some]
  have hcget : ∀ i v, caps.toList[i]? = some v -> ((vs ++ caps.toList).toArray ++ Array.replicate (fn.ntmps - (vs ++ caps.toList).length) undef).getD (t.args.length + i) undef = v := by
   intro i v hv;refine hget _ v ?_;rw [List.getElem?_append_right (by omega)];rw [show t.args.length + i - vs.length = i from by omega]; exact hv
  have hVp := hcget _ _ hown1
  rw [<- hp] at hVp;have he := argsEnt_ok (P := P) (F := F) (w := w) (env := ofL (b9 t.args y 0 ++ capsEnt t x t.l t.args.length)) (S := fun t k => t = p /\ (S0 k ∨ k = q))
   (V := fun t => ((vs ++ caps.toList).toArray ++ Array.replicate (fn.ntmps - (vs ++ caps.toList).length) undef).getD t undef) (n := 0) ha
   (fun i v hv => hget (0 + i) v (by rw [Nat.zero_add, List.getElem?_append_left (List.getElem?_eq_some_iff.1 hv).1]; exact hv))
  have hst : aM P C.np w F (fun k => S0 k ∨ k = q) (ofL (b9 t.args y 0 ++ capsEnt t x t.l t.args.length)) { tmps := (vs ++ caps.toList).toArray ++ Array.replicate (fn.ntmps - (vs ++ caps.toList).length) undef, defers := [] } w F (fun t k => t = p /\ (S0 k ∨ k = q)) := by
   rw [hN];refine ⟨rfl, rfl, rfl, Nat.le_refl _, fun _ _ _ => rfl, hF, fun _ h => h, fun b h1 h2 => absurd h1 h2, ?_, ?_, ?_, rfl, ⟨by simp; simp at hsz; omega, ?_⟩⟩
   ·rintro t k ⟨rfl, hk | rfl⟩
    ·exact ⟨.inr (.inl hk), (hS0 k hk).1, (hS0 k hk).2⟩
    ·exact ⟨.inr (.inr rfl), hq, hpl.2.1⟩
   ·rintro t u htu k ⟨rfl, _⟩ ⟨rfl, _⟩
    exact htu rfl
   ·intro s
    show aF P F w (ofL (b9 t.args y 0 ++ capsEnt t x t.l t.args.length)) _ _ s (match look (b9 t.args y 0 ++ capsEnt t x t.l t.args.length) s with | some e => e | none => .dead)
    rw [look_app];cases hla : look (b9 t.args y 0) s with
    | some e => exact (he.2 _ e hla).2.2
    | none =>
     simp only [Option.none_or];cases hlc : look (capsEnt t x t.l t.args.length) s with
     | none => trivial
     | some e =>
      rcases capsEnt_ok (P := P) (F := F) (w := w) (x := x) (S := fun t k => t = p /\ (S0 k ∨ k = q)) (V := fun t => ((vs ++ caps.toList).toArray ++ Array.replicate (fn.ntmps - (vs ++ caps.toList).length) undef).getD t undef) (st := ofL (b9 t.args y 0 ++ capsEnt t x t.l t.args.length)) (p := p) rfl hcap hcap hcget s e hlc with ⟨i, g1, g2, g3⟩ | g
      ·have hip : i = l1.length := by
        rw [hl] at g2;rcases Nat.lt_trichotomy i l1.length with hlt | heq | hgt
        ·rw [List.getElem?_append_left hlt, List.getElem?_eq_getElem hlt] at g2
         rw [List.all_eq_true] at h1;have := h1 _ (List.getElem_mem hlt);simp only [Option.map_some, Option.some.injEq] at g2;rw [g2] at this; cases this
        ·exact heq
        ·rw [List.getElem?_append_right (by omega)] at g2
         obtain ⟨j, hj⟩ : ∃ j, i - l1.length = j + 1 := ⟨i - l1.length - 1, by omega⟩
         rw [hj, List.getElem?_cons_succ] at g2;cases hlj : l2[j]? with
         | none => rw [hlj] at g2; cases g2
         | some u =>
          rw [hlj] at g2;rw [List.all_eq_true] at h2;have := h2 u (List.mem_of_getElem? hlj);simp only [Option.map_some, Option.some.injEq] at g2;rw [g2] at this; cases this
       have hsp : s = p := by rw [g1, hip, hp]
       subst hsp;rw [g3];refine ⟨.mem q 0, S0, cs, .inr ⟨rfl, q, rfl, ?_, hVp, ⟨rfl, .inr rfl⟩⟩, hpl, hown⟩
       funext k
       by_cases hk : k = q
       ·subst hk; simp [hpl.1]
       ·simp [hk]
      ·exact g
   ·intro s' hs'
    injection hs' with hs';subst hs';exact hVp
  have harr : (vs.toArray ++ caps) = (vs ++ caps.toList).toArray := by apply Array.ext'; simp
  rw [harr];refine calls_of_wp hf hbd ?_;have hend : ∀ st a w', retK p t.p fn.results.toList (t.fn x y) st -> Inv P C.np w F (fun k => S0 k ∨ k = q) st a w' -> bodyPost P fn (PPost F S0 w q t.p x y) .normal a w' := by
   intro st a w' hq' hi;have hqq : C.np.q = q := by rw [hN]
   have := retK_ok (N := C.np) (p := p) (by rw [hN]) (s := t.p) (x := x) (y := y) (S0 := S0) rfl rfl (by rw [hqq]) hq' hi
   rwa [hqq] at this
  refine wpI_ok hC hstp c (h x y hpre hown.fact (factsK_ok ha)) ⟨F, _, by simpa using hst⟩ ?_ (fun _ _ _ _ h => h.elim) ?_
  ·intro st a w' hq hi
   exact hend st a w' hq hi
  ·intro st a w' hq hi
   exact hend st a w' hq hi
 ·cases h
end
end Go.Lf
namespace Go.Lf
theorem z1 : ∀ (p : Prop), (True /\ p) = p := @true_and
theorem z2 : ∀ (p : Prop), (p /\ True) = p := @and_true
theorem z3.{u_1} : ∀ {α : Sort u_1} (a : α), (a = a) = True := @eq_self
theorem z4.{u_1} : ∀ {b : Prop} (α : Sort u_1) [i : Nonempty α], (∀ (a : α), b) ↔ b := @forall_const
theorem z5 : ∀ {p : Prop} [inst : Decidable p], (decide p = Bool.true) = p := @decide_eq_true_eq
theorem z6 : ∀ {p : Prop} {x : Decidable p}, decide p = Bool.false ↔ ¬p := @decide_eq_false_iff_not
theorem z7 : ∀ {a b : Int}, ¬a < b ↔ b <= a := @Int.not_lt
theorem z8 : ∀ {a b : Int}, ¬a <= b ↔ b < a := @Int.not_le
theorem z9 : ∀ (a b : Bool), ((a && b) = Bool.true) = (a = Bool.true /\ b = Bool.true) := @Bool.and_eq_true
theorem z10 : ∀ (p : Prop), (True -> p) = p := @true_implies
theorem z11.{u_1} : ∀ (α : Sort u_1), (∀ (a : α), True) = True := @implies_true
theorem z12 : ∀ (b : Bool), ((!b) = Bool.true) = (b = Bool.false) := @Bool.not_eq_true'
theorem z13 : ∀ (b : Bool), ((!b) = Bool.false) = (b = Bool.true) := @Bool.not_eq_false'
theorem z14 : ∀ (p : Prop), (False -> p) = True := @false_implies
theorem z15 : (Bool.false = Bool.true) = False := @Bool.false_eq_true
theorem z16 : (Bool.true = Bool.false) = False := @Bool.true_eq_false
theorem z17 : ∀ (p : Prop), (p /\ p) = p := @and_self
theorem z18.{u_1} : ∀ {α : Type u_1} [inst : BEq α] [LawfulBEq α] {a b : α}, (a == b) = Bool.true ↔ a = b := @beq_iff_eq
theorem z19.{u_1} : ∀ {α : Type u_1} [inst : BEq α] [LawfulBEq α] {a b : α}, (a == b) = Bool.false ↔ a ≠ b := @beq_eq_false_iff_ne
theorem z20.{u_1} : ∀ {α : Sort u_1} (a b : α), (a ≠ b) = ¬a = b := @ne_eq
theorem z21 : ∀ (n : Nat), ((n : Int)).toNat = n := @Int.toNat_natCast
theorem z22 : ∀ (c t : Bool), (bif c then t else Bool.false) = (c && t) := @Bool.cond_false_right
theorem z23 : ∀ (c f : Bool), (bif c then Bool.true else f) = (c || f) := @Bool.cond_true_left
theorem z24 : ∀ {b a : Prop}, (∃ _h : a, b) ↔ a /\ b := @exists_prop
theorem z25.{u_1} : ∀ {α : Type u_1} [inst : LE α] {x y : α}, x ≥ y ↔ y <= x := @ge_iff_le
theorem z26.{u_1} : ∀ {α : Type u_1} [inst : LT α] {x y : α}, x > y ↔ y < x := @gt_iff_lt
theorem z27.{u_1} : ∀ {α : Type u_1} {a : α}, [a].length = 1 := @List.length_singleton
theorem z28.{u_1} : ∀ {α : Type u_1}, ([] : List α).length = 0 := @List.length_nil
theorem z29.{u_1} : ∀ {α : Type u_1} (l0 : List α), [] ++ l0 = l0 := @List.nil_append
theorem z30.{u_1} : ∀ {α : Type u_1} {l0 l1 : List α}, l0.append l1 = l0 ++ l1 := @List.append_eq
theorem z31 : ∀ (c f : Bool), (bif c then Bool.false else f) = (!c && f) := @Bool.cond_false_left
theorem z32 : ∀ (c t : Bool), (bif c then t else Bool.true) = (!c || t) := @Bool.cond_true_right
theorem z33 : ∀ (b : Bool), (b || Bool.false) = b := @Bool.or_false
theorem z34 : ∀ (b : Bool), (b && Bool.true) = b := @Bool.and_true
theorem z35 : ∀ {x y : Bool}, (x || y) = Bool.false ↔ x = Bool.false /\ y = Bool.false := @Bool.or_eq_false_iff
theorem z36 : ∀ (b : Bool), (¬b = Bool.true) = (b = Bool.false) := @Bool.not_eq_true
theorem z37.{u_1} : ∀ {α : Type u_1} [inst : BEq α] [LawfulBEq α] {a b : α}, (a != b) = Bool.true ↔ a ≠ b := @bne_iff_ne
theorem z38.{u_1} : ∀ {α : Type u_1} [inst : BEq α] [LawfulBEq α] {a b : α}, (a != b) = Bool.false ↔ a = b := @bne_eq_false_iff_eq
theorem zz : (∀ (p : Prop), (True /\ p) = p) /\ (∀ (p : Prop), (p /\ True) = p) /\ (∀ {p : Prop} [inst : Decidable p], (decide p = Bool.true) = p) /\ (∀ {p : Prop} {x : Decidable p}, decide p = Bool.false ↔ ¬p) /\ (∀ {a b : Int}, ¬a < b ↔ b <= a) /\ (∀ {a b : Int}, ¬a <= b ↔ b < a) /\ (∀ (a b : Bool), ((a && b) = Bool.true) = (a = Bool.true /\ b = Bool.true)) /\ (∀ (p : Prop), (True -> p) = p) /\ (∀ (b : Bool), ((!b) = Bool.true) = (b = Bool.false)) /\ (∀ (b : Bool), ((!b) = Bool.false) = (b = Bool.true)) /\ (∀ (p : Prop), (False -> p) = True) /\ ((Bool.false = Bool.true) = False) /\ ((Bool.true = Bool.false) = False) /\ (∀ (p : Prop), (p /\ p) = p) /\ (∀ (n : Nat), ((n : Int)).toNat = n) /\ (∀ (c t : Bool), (bif c then t else Bool.false) = (c && t)) /\ (∀ (c f : Bool), (bif c then Bool.true else f) = (c || f)) /\ (∀ {b a : Prop}, (∃ _h : a, b) ↔ a /\ b) /\ (∀ (c f : Bool), (bif c then Bool.false else f) = (!c && f)) /\ (∀ (c t : Bool), (bif c then t else Bool.true) = (!c || t)) /\ (∀ (b : Bool), (b || Bool.false) = b) /\ (∀ (b : Bool), (b && Bool.true) = b) /\ (∀ {x y : Bool}, (x || y) = Bool.false ↔ x = Bool.false /\ y = Bool.false) /\ (∀ (b : Bool), (¬b = Bool.true) = (b = Bool.false)) := ⟨z1,z2,z5,z6,z7,z8,z9,z10,z12,z13,z14,z15,z16,z17,z21,z22,z23,z24,z31,z32,z33,z34,z35,z36⟩
theorem zy.{u_1} : (∀ {α : Sort u_1} (a : α), (a = a) = True) /\ (∀ {b : Prop} (α : Sort u_1) [i : Nonempty α], (∀ (a : α), b) ↔ b) /\ (∀ (α : Sort u_1), (∀ (a : α), True) = True) /\ (∀ {α : Type u_1} [inst : BEq α] [LawfulBEq α] {a b : α}, (a == b) = Bool.true ↔ a = b) /\ (∀ {α : Type u_1} [inst : BEq α] [LawfulBEq α] {a b : α}, (a == b) = Bool.false ↔ a ≠ b) /\ (∀ {α : Sort u_1} (a b : α), (a ≠ b) = ¬a = b) /\ (∀ {α : Type u_1} [inst : LE α] {x y : α}, x ≥ y ↔ y <= x) /\ (∀ {α : Type u_1} [inst : LT α] {x y : α}, x > y ↔ y < x) /\ (∀ {α : Type u_1} {a : α}, [a].length = 1) /\ (∀ {α : Type u_1}, ([] : List α).length = 0) /\ (∀ {α : Type u_1} (l0 : List α), [] ++ l0 = l0) /\ (∀ {α : Type u_1} {l0 l1 : List α}, l0.append l1 = l0 ++ l1) /\ (∀ {α : Type u_1} [inst : BEq α] [LawfulBEq α] {a b : α}, (a != b) = Bool.true ↔ a ≠ b) /\ (∀ {α : Type u_1} [inst : BEq α] [LawfulBEq α] {a b : α}, (a != b) = Bool.false ↔ a = b) := ⟨z3,z4,z11,z18,z19,z20,z25,z26,z27,z28,z29,z30,z37,z38⟩
end Go.Lf
namespace Sp
abbrev LOp := Int × Int × Int × Unit
abbrev LEv := Int × LOp × Int × Unit
abbrev Lit := List (List LOp) × Unit
abbrev Gr := List LEv × List Int × List (List Int) × List Int × Unit
abbrev Rel := List (List Bool)
abbrev Out := List Int × List Int × Unit
abbrev Msg := Int × Int × Bool × Unit
abbrev Cho := Int × Int × Unit
abbrev VSt := Lit × List Int × List (List Msg) × List (List Int) × List Int × List Int × List Int × List Int × Unit
end Sp
namespace Go.User
open Go.Lf Go.Proofs
abbrev tI : Ty := .int .i64
abbrev a9 : Ty := .prod tI (.prod tI (.prod tI .unit))
abbrev tLEv : Ty := .prod tI (.prod a9 (.prod tI .unit))
abbrev tLit : Ty := .prod (.slice (.slice a9)) .unit
abbrev tGr : Ty := .prod (.slice tLEv) (.prod (.slice tI) (.prod (.slice (.slice tI)) (.prod (.slice tI) .unit)))
abbrev tRow : Ty := .arr 6 .bool
abbrev tRel : Ty := .arr 6 tRow
abbrev tPl : Ty := .prod tI (.prod tI .unit)
abbrev bO : Ty := .prod (.slice tI) (.prod (.slice tI) .unit)
abbrev tOuts : Ty := .prod (.slice bO) (.prod tI .unit)
abbrev tMsg : Ty := .prod tI (.prod tI (.prod .bool .unit))
abbrev tCho : Ty := .prod tI (.prod tI .unit)
abbrev tV3 : Ty := .arr 3 tI
abbrev tVSt : Ty := .prod tLit (.prod (.slice tI) (.prod (.arr 3 (.slice tMsg)) (.prod (.slice tV3) (.prod tV3 (.prod (.slice tI) (.prod (.slice tI) (.prod (.slice tI) .unit)))))))
abbrev tRSt : Ty := .prod tLit (.prod (.slice tI) (.prod (.slice (.slice tMsg)) (.prod (.slice (.slice tI)) (.prod (.slice tI) (.prod (.slice tI) (.prod (.slice tI) (.prod (.slice tI) .unit)))))))
abbrev tRun : Ty := .prod tVSt (.prod tRSt (.prod .bool .unit))
abbrev tRaw : Ty := .slice (.arr 4 (.int .u8))
end Go.User
namespace Go.User
open Go.Lf Go.Proofs
def cC (q : Nat) : List (TypeId × Ty) := [(3, tI), (4, .bool), (5, .int .u8), (22, tRaw), (23, tRaw), (25, .slice (.slice a9)), (27, tLit), (29, .slice bO), (30, tI), (32, tOuts), (35, .slice a9), (39, .slice tI), (40, tV3), (44, a9), (46, bO), (47, .arr 4 tI), (48, .slice tMsg), (49, .arr 3 (.slice tMsg)), (50, .slice tV3), (52, tVSt), (57, .slice (.int .u8)), (59, .abs .clo), (60, .slice (.slice tMsg)), (61, .slice (.slice tI)), (63, tRSt), (65, tRun), (71, .slice tLEv), (73, tGr), (82, tLEv), (88, .arr 4 (.int .u8)), (97, tMsg), (102, .slice tCho), (106, tCho), (107, tMsg), (108, .slice tMsg), (111, .slice tCho), (115, tCho), (117, .abs .clo), (120, tRow), (122, tRel), (125, tPl), (129, .abs .kno), (136, .int .u64), (148, .slice .bool)]
def eqs : List TypeId := [44, 82]

theorem rows_all {P : Program} {tys0 : List (TypeId × Ty)} : ∀ (l : List (TypeId × Ty)), (∀ x ∈ l, aX P tys0 x.1 x.2) -> ∀ T τ, Lf.look l T = some τ -> aX P tys0 T τ
 | [], _, T, τ, h => by cases h
 | x :: l, h, T, τ, hl => by
  simp only [Lf.look] at hl;cases hb : Nat.beq x.1 T
  ·rw [hb] at hl; exact rows_all l (fun y hy => h y (by simp [hy])) T τ hl
  ·rw [hb] at hl
   have := Nat.eq_of_beq_eq_true hb
   simp only [cond_true, Option.some.injEq] at hl;rw [<- this, <- hl]; exact h x (by simp)
theorem row3 (q : Nat) : aX Try.prog (cC q) 3 (tI) := ⟨Try.t3, _, by kernel_rfl, Try.underlying3, by kernel_rfl, by decide, by kernel_rfl, by kernel_rfl⟩
theorem row4 (q : Nat) : aX Try.prog (cC q) 4 (.bool) := ⟨Try.t4, _, by kernel_rfl, Try.underlying4, by kernel_rfl, by decide, by kernel_rfl, by kernel_rfl⟩
theorem row5 (q : Nat) : aX Try.prog (cC q) 5 (.int .u8) := ⟨Try.t5, _, by kernel_rfl, Try.underlying5, by kernel_rfl, by decide, by kernel_rfl, by kernel_rfl⟩
theorem row22 (q : Nat) : aX Try.prog (cC q) 22 (tRaw) := ⟨Try.t22, _, by kernel_rfl, Try.underlying22, by kernel_rfl, by decide, by kernel_rfl, by kernel_rfl⟩
theorem row23 (q : Nat) : aX Try.prog (cC q) 23 (tRaw) := ⟨Try.t23, _, by kernel_rfl, Try.underlying23, by kernel_rfl, by decide, by kernel_rfl, by kernel_rfl⟩
theorem row25 (q : Nat) : aX Try.prog (cC q) 25 (.slice (.slice a9)) := ⟨Try.t25, _, by kernel_rfl, Try.underlying25, by kernel_rfl, by decide, by kernel_rfl, by kernel_rfl⟩
theorem row27 (q : Nat) : aX Try.prog (cC q) 27 (tLit) := ⟨Try.t27, _, by kernel_rfl, Try.underlying27, by kernel_rfl, by decide, by kernel_rfl, by kernel_rfl⟩
theorem row29 (q : Nat) : aX Try.prog (cC q) 29 (.slice bO) := ⟨Try.t29, _, by kernel_rfl, Try.underlying29, by kernel_rfl, by decide, by kernel_rfl, by kernel_rfl⟩
theorem row30 (q : Nat) : aX Try.prog (cC q) 30 (tI) := ⟨Try.t30, _, by kernel_rfl, Try.underlying30, by kernel_rfl, by decide, by kernel_rfl, by kernel_rfl⟩
theorem row32 (q : Nat) : aX Try.prog (cC q) 32 (tOuts) := ⟨Try.t32, _, by kernel_rfl, Try.underlying32, by kernel_rfl, by decide, by kernel_rfl, by kernel_rfl⟩
theorem row35 (q : Nat) : aX Try.prog (cC q) 35 (.slice a9) := ⟨Try.t35, _, by kernel_rfl, Try.underlying35, by kernel_rfl, by decide, by kernel_rfl, by kernel_rfl⟩
theorem row39 (q : Nat) : aX Try.prog (cC q) 39 (.slice tI) := ⟨Try.t39, _, by kernel_rfl, Try.underlying39, by kernel_rfl, by decide, by kernel_rfl, by kernel_rfl⟩
theorem row40 (q : Nat) : aX Try.prog (cC q) 40 (tV3) := ⟨Try.t40, _, by kernel_rfl, Try.underlying40, by kernel_rfl, by decide, by kernel_rfl, by kernel_rfl⟩
theorem row44 (q : Nat) : aX Try.prog (cC q) 44 (a9) := ⟨Try.t44, _, by kernel_rfl, Try.underlying44, by kernel_rfl, by decide, by kernel_rfl, by kernel_rfl⟩
theorem row46 (q : Nat) : aX Try.prog (cC q) 46 (bO) := ⟨Try.t46, _, by kernel_rfl, Try.underlying46, by kernel_rfl, by decide, by kernel_rfl, by kernel_rfl⟩
theorem row47 (q : Nat) : aX Try.prog (cC q) 47 (.arr 4 tI) := ⟨Try.t47, _, by kernel_rfl, Try.underlying47, by kernel_rfl, by decide, by kernel_rfl, by kernel_rfl⟩
theorem row48 (q : Nat) : aX Try.prog (cC q) 48 (.slice tMsg) := ⟨Try.t48, _, by kernel_rfl, Try.underlying48, by kernel_rfl, by decide, by kernel_rfl, by kernel_rfl⟩
theorem row49 (q : Nat) : aX Try.prog (cC q) 49 (.arr 3 (.slice tMsg)) := ⟨Try.t49, _, by kernel_rfl, Try.underlying49, by kernel_rfl, by decide, by kernel_rfl, by kernel_rfl⟩
theorem row50 (q : Nat) : aX Try.prog (cC q) 50 (.slice tV3) := ⟨Try.t50, _, by kernel_rfl, Try.underlying50, by kernel_rfl, by decide, by kernel_rfl, by kernel_rfl⟩
theorem row52 (q : Nat) : aX Try.prog (cC q) 52 (tVSt) := ⟨Try.t52, _, by kernel_rfl, Try.underlying52, by kernel_rfl, by decide, by kernel_rfl, by kernel_rfl⟩
theorem row57 (q : Nat) : aX Try.prog (cC q) 57 (.slice (.int .u8)) := ⟨Try.t57, _, by kernel_rfl, Try.underlying57, by kernel_rfl, by decide, by kernel_rfl, by kernel_rfl⟩
theorem row59 (q : Nat) : aX Try.prog (cC q) 59 (.abs .clo) := ⟨Try.t59, _, by kernel_rfl, Try.underlying59, by kernel_rfl, by decide, by kernel_rfl, by kernel_rfl⟩
theorem row60 (q : Nat) : aX Try.prog (cC q) 60 (.slice (.slice tMsg)) := ⟨Try.t60, _, by kernel_rfl, Try.underlying60, by kernel_rfl, by decide, by kernel_rfl, by kernel_rfl⟩
theorem row61 (q : Nat) : aX Try.prog (cC q) 61 (.slice (.slice tI)) := ⟨Try.t61, _, by kernel_rfl, Try.underlying61, by kernel_rfl, by decide, by kernel_rfl, by kernel_rfl⟩
theorem row63 (q : Nat) : aX Try.prog (cC q) 63 (tRSt) := ⟨Try.t63, _, by kernel_rfl, Try.underlying63, by kernel_rfl, by decide, by kernel_rfl, by kernel_rfl⟩
theorem row65 (q : Nat) : aX Try.prog (cC q) 65 (tRun) := ⟨Try.t65, _, by kernel_rfl, Try.underlying65, by kernel_rfl, by decide, by kernel_rfl, by kernel_rfl⟩
theorem row71 (q : Nat) : aX Try.prog (cC q) 71 (.slice tLEv) := ⟨Try.t71, _, by kernel_rfl, Try.underlying71, by kernel_rfl, by decide, by kernel_rfl, by kernel_rfl⟩
theorem row73 (q : Nat) : aX Try.prog (cC q) 73 (tGr) := ⟨Try.t73, _, by kernel_rfl, Try.underlying73, by kernel_rfl, by decide, by kernel_rfl, by kernel_rfl⟩
theorem row82 (q : Nat) : aX Try.prog (cC q) 82 (tLEv) := ⟨Try.t82, _, by kernel_rfl, Try.underlying82, by kernel_rfl, by decide, by kernel_rfl, by kernel_rfl⟩
theorem row88 (q : Nat) : aX Try.prog (cC q) 88 (.arr 4 (.int .u8)) := ⟨Try.t88, _, by kernel_rfl, Try.underlying88, by kernel_rfl, by decide, by kernel_rfl, by kernel_rfl⟩
theorem row97 (q : Nat) : aX Try.prog (cC q) 97 (tMsg) := ⟨Try.t97, _, by kernel_rfl, Try.underlying97, by kernel_rfl, by decide, by kernel_rfl, by kernel_rfl⟩
theorem row102 (q : Nat) : aX Try.prog (cC q) 102 (.slice tCho) := ⟨Try.t102, _, by kernel_rfl, Try.underlying102, by kernel_rfl, by decide, by kernel_rfl, by kernel_rfl⟩
theorem row106 (q : Nat) : aX Try.prog (cC q) 106 (tCho) := ⟨Try.t106, _, by kernel_rfl, Try.underlying106, by kernel_rfl, by decide, by kernel_rfl, by kernel_rfl⟩
theorem row107 (q : Nat) : aX Try.prog (cC q) 107 (tMsg) := ⟨Try.t107, _, by kernel_rfl, Try.underlying107, by kernel_rfl, by decide, by kernel_rfl, by kernel_rfl⟩
theorem row108 (q : Nat) : aX Try.prog (cC q) 108 (.slice tMsg) := ⟨Try.t108, _, by kernel_rfl, Try.underlying108, by kernel_rfl, by decide, by kernel_rfl, by kernel_rfl⟩
theorem row111 (q : Nat) : aX Try.prog (cC q) 111 (.slice tCho) := ⟨Try.t111, _, by kernel_rfl, Try.underlying111, by kernel_rfl, by decide, by kernel_rfl, by kernel_rfl⟩
theorem row115 (q : Nat) : aX Try.prog (cC q) 115 (tCho) := ⟨Try.t115, _, by kernel_rfl, Try.underlying115, by kernel_rfl, by decide, by kernel_rfl, by kernel_rfl⟩
theorem row117 (q : Nat) : aX Try.prog (cC q) 117 (.abs .clo) := ⟨Try.t117, _, by kernel_rfl, Try.underlying117, by kernel_rfl, by decide, by kernel_rfl, by kernel_rfl⟩
theorem row120 (q : Nat) : aX Try.prog (cC q) 120 (tRow) := ⟨Try.t120, _, by kernel_rfl, Try.underlying120, by kernel_rfl, by decide, by kernel_rfl, by kernel_rfl⟩
theorem row122 (q : Nat) : aX Try.prog (cC q) 122 (tRel) := ⟨Try.t122, _, by kernel_rfl, Try.underlying122, by kernel_rfl, by decide, by kernel_rfl, by kernel_rfl⟩
theorem row125 (q : Nat) : aX Try.prog (cC q) 125 (tPl) := ⟨Try.t125, _, by kernel_rfl, Try.underlying125, by kernel_rfl, by decide, by kernel_rfl, by kernel_rfl⟩
theorem row129 (q : Nat) : aX Try.prog (cC q) 129 (.abs .kno) := ⟨Try.t129, _, by kernel_rfl, Try.underlying129, by kernel_rfl, by decide, by kernel_rfl, by kernel_rfl⟩
theorem row136 (q : Nat) : aX Try.prog (cC q) 136 (.int .u64) := ⟨Try.t136, _, by kernel_rfl, Try.underlying136, by kernel_rfl, by decide, by kernel_rfl, by kernel_rfl⟩
theorem row148 (q : Nat) : aX Try.prog (cC q) 148 (.slice .bool) := ⟨Try.t148, _, by kernel_rfl, Try.underlying148, by kernel_rfl, by decide, by kernel_rfl, by kernel_rfl⟩
theorem tysQ_ok (q : Nat) : ∀ T τ, Lf.look (cC q) T = some τ -> aX Try.prog (cC q) T τ := by
 refine rows_all (cC q) ?_
 intro x hx
 simp only [cC, List.mem_cons, List.not_mem_nil, or_false] at hx
 rcases hx with rfl | rfl | rfl | rfl | rfl | rfl | rfl | rfl | rfl | rfl | rfl | rfl | rfl | rfl | rfl | rfl | rfl | rfl | rfl | rfl | rfl | rfl | rfl | rfl | rfl | rfl | rfl | rfl | rfl | rfl | rfl | rfl | rfl | rfl | rfl | rfl | rfl | rfl | rfl | rfl | rfl | rfl | rfl | rfl
 ·exact row3 q
 ·exact row4 q
 ·exact row5 q
 ·exact row22 q
 ·exact row23 q
 ·exact row25 q
 ·exact row27 q
 ·exact row29 q
 ·exact row30 q
 ·exact row32 q
 ·exact row35 q
 ·exact row39 q
 ·exact row40 q
 ·exact row44 q
 ·exact row46 q
 ·exact row47 q
 ·exact row48 q
 ·exact row49 q
 ·exact row50 q
 ·exact row52 q
 ·exact row57 q
 ·exact row59 q
 ·exact row60 q
 ·exact row61 q
 ·exact row63 q
 ·exact row65 q
 ·exact row71 q
 ·exact row73 q
 ·exact row82 q
 ·exact row88 q
 ·exact row97 q
 ·exact row102 q
 ·exact row106 q
 ·exact row107 q
 ·exact row108 q
 ·exact row111 q
 ·exact row115 q
 ·exact row117 q
 ·exact row120 q
 ·exact row122 q
 ·exact row125 q
 ·exact row129 q
 ·exact row136 q
 ·exact row148 q
theorem look_flat (q : Nat) {T : TypeId} {τ : Ty} (h : Lf.look (cC q) T = some τ) (h3 : T = 3) : τ.isAgg = false := by
 rcases h3 with rfl
 ·have e : Lf.look (cC q) 3 = some (tI) := by kernel_rfl
  rw [e] at h;injection h with h;rw [<- h]; rfl
theorem eqs_ok (q : Nat) : ∀ T, T ∈ eqs -> EqRow Try.prog (cC q) eqs T := by
 have key : ∀ fs : List Field, (∀ f ∈ fs, f.name ≠ "_" /\ ((f.type = 3) ∨ f.type ∈ eqs)) -> ∀ f ∈ fs, f.name ≠ "_" /\ ∀ τ, Lf.look (cC q) f.type = some τ -> τ.isAgg = true -> f.type ∈ eqs := by
  intro fs h f hf;refine ⟨(h f hf).1, fun τ h1 h2 => ?_⟩
  rcases (h f hf).2 with h3 | h3
  ·rw [look_flat q h1 h3] at h2; cases h2
  ·exact h3
 intro T hT
 simp only [eqs, List.mem_cons, List.not_mem_nil, or_false] at hT
 rcases hT with rfl | rfl
 ·refine ⟨by kernel_rfl, by kernel_rfl, ?_⟩
  rw [Try.underlying44];exact key _ (by decide)
 ·refine ⟨by kernel_rfl, by kernel_rfl, ?_⟩
  rw [Try.underlying82];exact key _ (by decide)
theorem mixed_ok : Try.prog.follows .mixedOrders = true := by kernel_rfl
theorem ctx_okQ {C : Ctx} (q : Nat) (h1 : C.tys = cC q) (h2 : C.eqs = eqs) (h3 : ∀ f s, Lf.look C.fns f = some s -> FOk Try.prog f s)
  (h4 : ∀ f s, Lf.look C.ptrs f = some s -> ∃ o, POk Try.prog f s o /\ ∀ q, o = some q -> C.pin.isSome = true /\ q = C.q) (h5 : ∀ t, C.thk = some t -> TOk Try.prog C.q t) (h6 : ∀ t, C.clo = some t -> ClOk Try.prog t)
  (h7 : ∀ f s, Lf.look C.ins f = some s -> IOk Try.prog f s) (h8 : ∀ t, C.kno = some t -> KnOK Try.prog C.q t) : aJ Try.prog C :=
 ⟨by rw [h1]; exact tysQ_ok q, h3, mixed_ok, by rw [h1, h2]; exact eqs_ok q, h4, h5, h6, h7, h8⟩
theorem ins_nil {P : Program} : ∀ f s, Lf.look ([] : List (FuncId × ISpec)) f = some s -> IOk P f s := fun _ _ h => by cases h
theorem ptrs_nil {P : Program} {C : Ctx} : ∀ f s, Lf.look ([] : List (FuncId × PSpec)) f = some s -> ∃ o, POk P f s o /\ ∀ q, o = some q -> C.pin.isSome = true /\ q = C.q := fun _ _ h => by cases h
theorem fns_nil {P : Program} : ∀ f s, Lf.look ([] : List (FuncId × aU)) f = some s -> FOk P f s := fun _ _ h => by cases h
theorem aG {P : Program} {g : FuncId} {t : aU} {l : List (FuncId × aU)} (h : FOk P g t) (hl : ∀ f s, Lf.look l f = some s -> FOk P f s) : ∀ f s, Lf.look ((g, t) :: l) f = some s -> FOk P f s := by
 intro f s hs
 simp only [Lf.look] at hs
 cases hb : Nat.beq g f
 ·rw [hb] at hs; exact hl f s hs
 ·rw [hb] at hs
  have := Nat.eq_of_beq_eq_true hb
  simp only [cond_true, Option.some.injEq] at hs;rw [<- this, <- hs]; exact h
theorem ptr_cons {P : Program} {C : Ctx} {g : FuncId} {t : PSpec} {l : List (FuncId × PSpec)} (h : POk P g t) (hl : ∀ f s, Lf.look l f = some s -> ∃ o, POk P f s o /\ ∀ q, o = some q -> C.pin.isSome = true /\ q = C.q) :
  ∀ f s, Lf.look ((g, t) :: l) f = some s -> ∃ o, POk P f s o /\ ∀ q, o = some q -> C.pin.isSome = true /\ q = C.q := by
 intro f s hs
 simp only [Lf.look] at hs
 cases hb : Nat.beq g f
 ·rw [hb] at hs; exact hl f s hs
 ·rw [hb] at hs
  have := Nat.eq_of_beq_eq_true hb
  simp only [cond_true, Option.some.injEq] at hs;rw [<- this, <- hs]; exact ⟨none, h, fun q hq => by cases hq⟩
theorem okC {C : Ctx} (h : ∀ f s, Lf.look C.fns f = some s -> FOk Try.prog f s) (h1 : C.tys = cC 0) (h2 : C.eqs = eqs) (h3 : C.ptrs = []) (h4 : C.thk = none) (h5 : C.clo = none) (h6 : C.ins = []) (h7 : C.kno = none) : aJ Try.prog C :=
 ctx_okQ 0 h1 h2 h (by rw [h3]; exact ptrs_nil) (fun _ h => by rw [h4] at h; cases h) (fun _ h => by rw [h5] at h; cases h) (by rw [h6]; exact ins_nil) (fun _ h => by rw [h7] at h; cases h)
def mkC (n : Nat) (fns : List (FuncId × aU)) : Ctx := { N := n, tys := cC 0, fns := fns, eqs := eqs }
theorem okA {n : Nat} {fns : List (FuncId × aU)} (h : ∀ f s, Lf.look fns f = some s -> FOk Try.prog f s) : aJ Try.prog (mkC n fns) := okC h rfl rfl rfl rfl rfl rfl rfl
theorem lim_eq : lim = 140737488355328 := rfl
theorem maxNew_eq : aN = 2147483648 := rfl
theorem inK_of {z : Int} (h1 : -9223372036854775808 <= z) (h2 : z <= 9223372036854775807) : inK .i64 z := ⟨h1, h2⟩
theorem bE {z : Int} (h0 : -1000000000 <= z) (h1 : z <= 1000000000) : inK .i64 z := inK_of (by omega) (by omega)
theorem inK_succ {i n : Nat} (h : (i : Int) < (n : Int)) (hn : n <= lim) : inK .i64 ((i : Int) + 1) := by rw [lim_eq] at hn; exact inK_of (by omega) (by omega)
theorem inN_of {i n : Nat} (h : (i : Int) < (n : Int)) : inN (i : Int) n := ⟨by omega, h⟩
end Go.User
namespace Go.Proofs.Ythhclebbpbkgdaa
theorem Try.own : ownKnob Try.prog.godebug = none := by kernel_rfl
theorem Try.laidOut : laidOutB Try.prog = true := by kernel_rfl
end Go.Proofs.Ythhclebbpbkgdaa
namespace Sp
def op0 : LOp := (0, 0, 0, ())
def msg0 : Msg := (0, 0, false, ())
def findM (p : Msg -> Bool) (l : List Msg) : Int := match l.findIdx? p with
 | some i => i
 | none => -1
def findO (p : LOp -> Bool) (l : List LOp) : Int := match l.findIdx? p with
 | some i => i
 | none => -1
def plc (l : List Msg) (e : Int) : Int := findM (fun m => decide (m.1 = e)) l
def usual (o : LOp) : Bool :=
 if o.1 = 1 then decide (0 <= o.2.1) && decide (o.2.1 < 3) && decide (o.2.2.1 = 0)
 else if o.1 = 2 ∨ o.1 = 3 then decide (0 <= o.2.1) && decide (o.2.1 < 3) && decide (-100 <= o.2.2.1) && decide (o.2.2.1 <= 100)
 else decide (o.1 = 4) && decide (o.2.1 = 0) && decide (o.2.2.1 = 0)
def cmp3 (x y : Int) : Int := if x < y then -1 else if y < x then 1 else 0
def cmpI : List Int -> List Int -> Int
 | [], [] => 0
 | [], _ :: _ => -1
 | _ :: _, [] => 1
 | x :: a, y :: b => if x < y then -1 else if y < x then 1 else cmpI a b
def cmpO (a b : Out) : Int := if cmpI a.1 b.1 = 0 then cmpI a.2.1 b.2.1 else cmpI a.1 b.1
def cmpR : List Int -> List Int -> Int
 | [], b => 0 - (b.length : Int)
 | x :: a, [] => ((x :: a).length : Int) - 0
 | x :: a, y :: b => if x = y then cmpR a b else Go.IntKind.wrap .i64 (x - y)
def orI (l : List Int) : Int := (l.find? (fun x => decide (x ≠ 0))).getD 0
def out0 : Out := ([], [], ())
def below (l : List Out) (t : Out) : Nat := l.countP fun e => decide (cmpO e t < 0)
def foundO (l : List Out) (t : Out) : Bool := decide (below l t < l.length) && decide (cmpO (l.getD (below l t) out0) t = 0)
def sortedO (l : List Out) : Prop := ∀ i j, i < j -> j < l.length -> cmpO (l.getD i out0) (l.getD j out0) < 0
def cmpQ (a b : Out) : Int := if cmpR a.1 b.1 ≠ 0 then cmpR a.1 b.1 else cmpR a.2.1 b.2.1
def firstN (l : List Out) (t : Out) : Nat := (l.takeWhile fun e => decide (cmpQ e t < 0)).length
def added (l : List Out) (t : Out) : List Out :=
 if firstN l t < l.length /\ cmpQ (l.getD (firstN l t) out0) t = 0 then l else l.take (firstN l t) ++ [t] ++ l.drop (firstN l t)
instance iLOp : DecidableEq LOp := inferInstance
instance iLEv : DecidableEq LEv := inferInstance
instance iGr2 : DecidableEq (List (List Int) × List Int × Unit) := inferInstance
instance iGr1 : DecidableEq (List Int × List (List Int) × List Int × Unit) := inferInstance
instance iGr : DecidableEq Gr := inferInstance
def sameI (a b : List Int) : Bool := decide (a = b)
def rds (l : List Out) (a b : Int) : Bool := l.any fun o => decide (o.1 = [a, b])
def aB (p : List (List LOp)) : Nat := (p.map List.length).sum
end Sp
namespace Go.User
open Go.Lf
def S83 : aU := { args := [.val (.slice tI)], multi := false, res := .slice tI, mode := .own .shr, pre := fun x => List.length x.1 <= 1000000, fn := fun x => x.1 }
def C83 : Ctx := mkC 8 []
def L83 (x : aO S83.args) : List aS := []
def S86 : aU := { args := [.val (.slice tV3)], multi := false, res := .slice tV3, mode := .own .shr, pre := fun x => List.length x.1 <= 1000000, fn := fun x => x.1 }
def C86 : Ctx := mkC 8 []
def L86 (x : aO S86.args) : List aS := []
def S98 : aU := { args := [.val tMsg, .sptr tI], multi := false, res := .bool, mode := .shr, pre := fun _ => True, fn := fun x => decide (x.1.1 = x.2.1) }
def C98 : Ctx := mkC 8 []
def L98 (x : aO S98.args) : List aS := []
def S97 : aU := { args := [.val (.slice tMsg), .fn [tMsg] .bool], multi := false, res := tI, mode := .shr, pre := fun x => ∀ e, x.2.1.pre (e, ()), fn := fun x => Sp.findM (fun e => x.2.1.fn (e, ())) x.1 }
def C97 : Ctx := mkC 19 []
def L97 (x : aO S97.args) : List aS := [
 {ι := Nat, inv := fun i => i <= List.length x.1 /\ ∀ e ∈ List.take i x.1, x.2.1.fn (e, ()) = false, dec := fun i => List.length x.1 - i, ovr := fun i => [(8, .shr tI (i : Int))], keep := [0, 1, 7] }]
def S84 : aU := { args := [.val (.slice tMsg), .val tI], multi := false, res := tI, mode := .shr, pre := fun _ => True, fn := fun x => Sp.plc x.1 x.2.1 }
def C84 : Ctx := mkC 8 [(98, S98), (97, S97)]
def L84 (x : aO S84.args) : List aS := []
def S75 : aU := { args := [.val a9], multi := false, res := .bool, mode := .shr, pre := fun _ => True, fn := fun x => Sp.usual x.1 }
def C75 : Ctx := mkC 44 []
def L75 (x : aO S75.args) : List aS := []
def tVal : CSpec := { A := [a9], R := .bool, pre := fun z _ => z = (75, []), fn := fun _ x => Sp.usual x.1 }
def S76 : aU := { args := [.val a9, .sptr (.abs .clo)], multi := false, res := .bool, mode := .shr, pre := fun x => x.2.1 = some (75, []), fn := fun x => !Sp.usual x.1 }
def C76 : Ctx := { mkC 8 [] with clo := some tVal }
def L76 (x : aO S76.args) : List aS := []
def S94 : aU := { args := [.val (.slice a9), .fn [a9] .bool], multi := false, res := tI, mode := .shr, pre := fun x => ∀ e, x.2.1.pre (e, ()), fn := fun x => Sp.findO (fun e => x.2.1.fn (e, ())) x.1 }
def C94 : Ctx := mkC 19 []
def L94 (x : aO S94.args) : List aS := [
 {ι := Nat, inv := fun i => i <= List.length x.1 /\ ∀ e ∈ List.take i x.1, x.2.1.fn (e, ()) = false, dec := fun i => List.length x.1 - i, ovr := fun i => [(8, .shr tI (i : Int))], keep := [0, 1, 7] }]
def S77 : aU := { args := [.val (.slice a9), .fn [a9] .bool], multi := false, res := .bool, mode := .shr, pre := fun x => ∀ e, x.2.1.pre (e, ()), fn := fun x => List.any x.1 (fun e => x.2.1.fn (e, ())) }
def C77 : Ctx := mkC 9 [(94, S94)]
def L77 (x : aO S77.args) : List aS := []
def S100 : aU := { args := [.val tI], multi := false, res := .bool, mode := .shr, pre := fun _ => True, fn := fun _ => false }
def C100 : Ctx := mkC 6 []
def L100 (x : aO S100.args) : List aS := []
def S91 : aU := { args := [.val tI, .val tI], multi := false, res := tI, mode := .shr, pre := fun _ => True, fn := fun x => Sp.cmp3 x.1 x.2.1 }
def C91 : Ctx := mkC 20 [(100, S100)]
def L91 (x : aO S91.args) : List aS := []
def S70 : aU := { args := [.val (.slice tI), .val (.slice tI)], multi := false, res := tI, mode := .shr, pre := fun _ => True, fn := fun x => Sp.cmpI x.1 x.2.1 }
def C70 : Ctx := mkC 36 [(91, S91)]
def L70 (x : aO S70.args) : List aS := [
 {ι := Nat, inv := fun i => i <= List.length x.1 /\ i <= List.length x.2.1 /\ Sp.cmpI (List.drop i x.1) (List.drop i x.2.1) = Sp.cmpI x.1 x.2.1, dec := fun i => List.length x.1 - i, ovr := fun i => [(11, .shr tI (i : Int))], keep := [0, 1, 9, 10] }]
def S69 : aU := { args := [.val (.slice tI)], multi := false, res := tI, mode := .shr, pre := fun _ => True, fn := fun x => Sp.orI x.1 }
def C69 : Ctx := mkC 18 []
def L69 (x : aO S69.args) : List aS := [
 {ι := Nat, inv := fun i => i <= List.length x.1 /\ Sp.orI (List.drop i x.1) = Sp.orI x.1, dec := fun i => List.length x.1 - i, ovr := fun i => [(8, .shr tI (i : Int))], keep := [0, 3, 6, 7] }]
def S68 : aU := { args := [.val bO, .val bO], multi := false, res := tI, mode := .shr, pre := fun _ => True, fn := fun x => Sp.cmpO x.1 x.2.1 }
def C68 : Ctx := mkC 17 [(70, S70), (69, S69)]
def L68 (x : aO S68.args) : List aS := []
def tCmp : CSpec := { A := [bO, bO], R := tI, pre := fun z _ => z = (68, []), fn := fun _ x => Sp.cmpO x.1 x.2.1 }
def S73 : aU := { args := [.val (.slice bO), .val bO, .val (.abs .clo)], multi := true, res := .prod tI (.prod .bool .unit), mode := .shr, pre := fun x => x.2.2.1 = some (68, []) /\ List.length x.1 <= 500000000 /\ Sp.sortedO x.1, fn := fun x => ((Sp.below x.1 x.2.1 : Int), Sp.foundO x.1 x.2.1, ()) }
def C73 : Ctx := { mkC 49 [] with clo := some tCmp }
def L73 (x : aO S73.args) : List aS := [
 {ι := Nat × Nat, inv := fun i => i.1 <= i.2 /\ i.2 <= List.length x.1 /\ (∀ k, k < i.1 -> Sp.cmpO (List.getD x.1 k Sp.out0) x.2.1 < 0) /\ (∀ k, i.2 <= k -> k < List.length x.1 -> ¬ Sp.cmpO (List.getD x.1 k Sp.out0) x.2.1 < 0), dec := fun i => i.2 - i.1,
  ovr := fun i => [(9, .shr tI (i.1 : Int)), (10, .shr tI (i.2 : Int))], keep := [0, 2, 4, 8] }]
def S80 : aU := { args := [.val (.slice tMsg), .val tI], multi := false, res := tI, mode := .shr, pre := fun _ => True, fn := fun x => Sp.plc x.1 x.2.1 }
def C80 : Ctx := mkC 20 []
def L80 (x : aO S80.args) : List aS := [
 {ι := Nat, inv := fun i => i <= List.length x.1 /\ ∀ e ∈ List.take i x.1, decide (e.1 = x.2.1) = false, dec := fun i => List.length x.1 - i, ovr := fun i => [(5, .shr tI (i : Int))], keep := [0, 1] }]
def S18 : aU := { args := [.val tLit], multi := false, res := tI, mode := .shr, pre := fun x => Sp.aB x.1.1 <= 1000000, fn := fun x => (Sp.aB x.1.1 : Int) }
def C18 : Ctx := mkC 21 []
def L18 (x : aO S18.args) : List aS := [
 {ι := Nat, inv := fun i => i <= List.length x.1.1, dec := fun i => List.length x.1.1 - i, ovr := fun i => [(4, .shr tI (i : Int)), (3, .shr tI (Sp.aB (List.take i x.1.1) : Int))], keep := [1] }]
def S49 : aU := { args := [.val (.slice tI), .val (.slice tI)], multi := false, res := tI, mode := .shr, pre := fun _ => True, fn := fun x => Sp.cmpR x.1 x.2.1 }
def C49 : Ctx := { mkC 41 [] with wrp := [35] }
def L49 (x : aO S49.args) : List aS := [
 {ι := Nat, inv := fun i => i <= List.length x.1 /\ i <= List.length x.2.1 /\ List.take i x.1 = List.take i x.2.1, dec := fun i => List.length x.1 - i, ovr := fun i => [(5, .shr tI (i : Int))], keep := [0, 1] }]
def S41 : aU := { args := [.val (.slice tI), .val (.slice tI)], multi := false, res := .bool, mode := .shr, pre := fun _ => True, fn := fun x => Sp.sameI x.1 x.2.1 }
def C41 : Ctx := mkC 16 [(49, S49)]
def L41 (x : aO S41.args) : List aS := []
def S38 : aU := { args := [.val (.slice bO), .val tI, .val tI], multi := false, res := .bool, mode := .shr, pre := fun _ => True, fn := fun x => Sp.rds x.1 x.2.1 x.2.2.1 }
def C38 : Ctx := { mkC 23 [(41, S41)] with frz := [21] }
def L38 (x : aO S38.args) : List aS := [
 {ι := Nat, inv := fun i => i <= List.length x.1 /\ Sp.rds (List.take i x.1) x.2.1 x.2.2.1 = false, dec := fun i => List.length x.1 - i, ovr := fun i => [(7, .shr tI (i : Int))], keep := [0, 1, 2] }]
end Go.User
