/- Small facts under short names. -/
import Derived.Test.YtdcbiadlojcaoaaLfg
import Derived.ProofKit
import Derived.SizedLaws
import Derived.Deep.Slices
import Derived.OpenShut
set_option linter.unusedVariables false
set_option linter.unusedSimpArgs false
namespace Go.Lf

structure Taken where
 τ : Ty
 m : Md
 x : τ.den
 t : Nat

def takeE (v : aK) : Option Taken :=
 match v.e with
 | .own τ m x => match v.s with
  | some t => some ⟨τ, m, x, t⟩
  | none => none
 | .pend r _ e me x => some ⟨.slice e, .own me, x, r⟩
 | .sub r [] => match v.r with
  | .own τ m x => some ⟨τ, m, x, r⟩
  | _ => none
 | _ => none

def isSub : Ent -> Bool
 | .sub _ _ => true
 | _ => false

def ownA (C : Ctx) (d : Nat) (st : St) (v : aK) : Option (Prop × St) :=
 bif isSub v.e && isNone (look C.mds d) then none else match takeE v with
 | some k => some (True, put (drop st k.t) d (mkE C d k.τ k.m k.x))
 | none => none

def pureStp (C : Ctx) (st : St) (o : Oper) : Option (Prop × St) :=
 match o.dst, opE C o (bR st) with
 | some d, some (c, e, l) => some (c, put (dropAll st l) d e)
 | _, _ => none

def appC (C : Ctx) (st : St) (o : Oper) (q : Call) : Option (Prop × St) :=
 match q.callee, q.args.toList, q.argTypes.toList, o.dst with
 | .builtin .append, [x, y], [T, T2], some d => bif wrB C d then appE C d st T T2 (bR st x) (bR st y) else none
 | _, _, _, _ => none

def mvT (C : Ctx) (st : St) (o : Oper) (x : Operand) : Option (Prop × St) :=
 match x, o.dst with
 | .tmp t, some d => match st t with
  | .tup τ m x => bif wrB C d then some (True, put (drop st t) d (.tup τ m x)) else none
  | _ => none
 | _, _ => none

def stp (C : Ctx) (st : St) (o : Oper) : Option (Prop × St) :=
 match o.op with
 | .move x => match mvT C st o x with
  | some r => some r
  | none => pureStp C st o
 | .store T x v => bif isNone o.dst then storeE C st T (bR st x) (bR st v) else none
 | .assign x => match o.dst with
  | some d => match (bif wrB C d then ownA C d st (bR st x) else none) with
   | some r => some r
   | none => pureStp C st o
  | none => none
 | .panic _ => some (False, st)
 | .call q => match appC C st o q with
  | some r => some r
  | none => pureStp C st o
 | _ => pureStp C st o

section
variable {P : Program} {C : Ctx} {N : NP} {w0 : World} {F0 H : aA} {env : St} {a : Act} {w : World} {F : aA} {S : Nat -> aA} {d : Nat}

theorem pend_ok (hi : aM P N w0 F0 H env a w F S) {v : Value} {vw : aK} (hv : aU P F w env (fun t => a.tmps.getD t undef) S v vw) {r : Nat} {p : cD} {e : Ty} {me : Md} {x : List e.den} (he : vw.e = .pend r p e me x) :
  ∃ τ m z pl S0 cs y pl' S' Sp, eP F w (S r) (a.tmps.getD r undef) (env r) τ m z pl S0 cs /\ Plug F w τ m S0 pl z p (.slice e) (.own me) pl' S' /\
   bE p τ m = some (.own me) /\ inR p τ z /\ aJ p τ z = some ⟨.slice e, y⟩ /\ aP F w (.slice e) (.own me) Sp v x /\ Sub Sp (S r) /\ (∀ k, Sp k -> ¬ (S0 k /\ ¬ S' k) /\ ¬ pl.isB k) := by
 have h1 := hv.ent (by rw [he]; rfl) (r + 1) (by rw [he]; simp [Ent.root])
 rw [he] at h1
 simp only [aC, if_true] at h1
 obtain ⟨τ0, m0, x0, pl, S0, cs, y, pl', S', Sp, cp, g1, g2, g3, g4, g5, g6, g7, g8, g9⟩ := h1
 simp only [show ¬ (r = r + 1) from by omega, if_false] at g1
 exact ⟨τ0, m0, x0, pl, S0, cs, y, pl', S', Sp, g1, g2, g3, g4, g5, ⟨cp, g6, g7⟩, g8, g9⟩

theorem takeE_ok (hi : aM P N w0 F0 H env a w F S) {v : Value} {vw : aK} (hv : aU P F w env (fun t => a.tmps.getD t undef) S v vw) {k : Taken} (h : takeE vw = some k) :
  ∃ Sd, Sub Sd (S k.t) /\ aP F w k.τ k.m Sd v k.x := by
 unfold takeE at h
 split at h
 ·rename_i τ m x he
  split at h
  ·rename_i t hs
   simp only [Option.some.injEq] at h;subst h;obtain ⟨t', g1, g2, rfl⟩ := hv.own (by rw [he]; rfl);rw [hs] at g1; injection g1 with g1; subst g1;have h3 := hi.ent t;rw [g2, he] at h3;obtain ⟨pl, S0, cs, h3⟩ := h3;obtain ⟨_, _, e3, e4, e5⟩ := h3.own_inj;subst e4;exact ⟨_, fun _ h => h, cs, e5, h3.2.2⟩
  ·cases h
 ·rename_i r p e me x he
  simp only [Option.some.injEq] at h;subst h;obtain ⟨τ, m, z, pl, S0, cs, y, pl', S', Sp, g1, g2, g3, g4, g5, g6, g7, g8⟩ := pend_ok hi hv he;exact ⟨Sp, g7, g6⟩
 ·rename_i r he
  split at h
  ·rename_i τ m x hr
   simp only [Option.some.injEq] at h;subst h;have h2 := hv.ent (by rw [he]; rfl) (r + 1) (by rw [he]; simp [Ent.root]);rw [he] at h2;simp only [aC, if_true] at h2;obtain ⟨τ0, m0, x0, pl, S0, cs, σ', μ, pl', cs', g1, g2, g3, g4, g5, g6, g7⟩ := h2;simp only [show ¬ (r = r + 1) from by omega, if_false] at g1
   have hroot := hv.root
   rw [he] at hroot;simp only [rootE, Ent.root] at hroot;rw [<- hroot, hr] at g1;obtain ⟨e1, e2, e3, e4, e5⟩ := g1.own_inj;injection e1 with e6 e7;subst e6; cases e7; subst e2; subst e3; subst e4;simp only [loc, Option.some.injEq, Prod.mk.injEq] at g2;obtain ⟨rfl, rfl⟩ := g2;simp only [aD.read, Option.some.injEq] at g3;subst g3;exact ⟨_, fun _ h => h, cs, g4, g1.2.2⟩
  ·cases h
 ·cases h

theorem aM.takeOver (hi : aM P N w0 F0 H env a w F S) {t : Nat} {τ : Ty} {m : Md} {x : τ.den} {v : Value} {Sd : aA} (hd : Wr N d) (hs : Sub Sd (S t)) (hv : aP F w τ m Sd v x) :
  ∃ F2 S2, aM P N w0 F0 H (Go.Lf.put (Go.Lf.drop env t) d (mkE C d τ m x)) (a.put (some d) v) w F2 S2 := by
 refine (hi.drop t).putNew hd (RowKit.Below.refl _ _) (fun _ h => h) hi.fb (fun b h1 h2 => absurd h1 h2) ?_ hv
 intro b hb
 obtain ⟨h1, h2, h3⟩ := hi.sb t b (hs b hb)
 refine ⟨h1, h2, h3, fun u hu => ?_⟩
 by_cases h : u = t
 ·simp [h] at hu; exact hu
 ·simp only [h, if_false] at hu
  exact hi.sd u t h b hu (hs b hb)

theorem ownA_ok (hi : aM P C.np w0 F0 H env a w F S) (hd : Wr C.np d) {v : Value} {vw : aK} (hv : aU P F w env (fun t => a.tmps.getD t undef) S v vw) {c : Prop} {st' : St} (h : ownA C d env vw = some (c, st')) :
  Inv P C.np w0 F0 H st' (a.put (some d) v) w := by
 unfold ownA at h
 cases hb : (isSub vw.e && isNone (look C.mds d))
 ·rw [hb] at h
  simp only [cond_false] at h;split at h
  ·rename_i k hk
   simp only [Option.some.injEq, Prod.mk.injEq] at h;obtain ⟨_, rfl⟩ := h;obtain ⟨Sd, g1, g2⟩ := takeE_ok hi hv hk;exact hi.takeOver hd g1 g2
  ·cases h
 ·rw [hb] at h; cases h

theorem valS_ok (hi : aM P N w0 F0 H env a w F S) {v : Value} {vw : aK} (hv : aU P F w env (fun t => a.tmps.getD t undef) S v vw) {σ : Ty} {μ μ' : Md} {l : Al} {y : σ.den} {u : List Nat}
  (h : valS σ μ l vw = some (y, μ', u, false)) : (u = [] /\ aP F w σ μ' none' v y) ∨ ∃ t, u = [t] /\ aP F w σ μ' (S t) v y := by
 have hsh : ∀ {y : σ.den}, vw.shrAs σ = some y -> aP F w σ (bif σ.flat then μ else .shr) none' v y := by
  intro y hy;have := eQ hi hv hy;cases hf : σ.flat
  ·exact this
  ·exact aP.flat hf this
 unfold valS at h
 split at h
 ·rename_i he
  split at h
  ·rename_i z hz
   simp only [Option.some.injEq, Prod.mk.injEq] at h;obtain ⟨rfl, rfl, rfl, _⟩ := h;have := fZ (e := σ) (m := μ) (x := z) (l := []) hi hv (by unfold aK.ownAs; rw [he]; simp [hz]);rcases this with ⟨_, h⟩ | ⟨t, h, _⟩
   ·exact .inl ⟨rfl, h⟩
   ·cases h
  ·split at h
   ·rename_i z hz
    simp only [Option.some.injEq, Prod.mk.injEq] at h;obtain ⟨rfl, rfl, rfl, _⟩ := h;exact .inl ⟨rfl, eQ hi hv (by unfold aK.shrAs; rw [he]; exact hz)⟩
   ·cases h
 ·split at h
  ·rename_i z u' hz
   simp only [Option.some.injEq, Prod.mk.injEq] at h;obtain ⟨rfl, rfl, rfl, _⟩ := h;exact fZ hi hv hz
  ·cases h
 ·rename_i r he
  split at h
  ·split at h
   ·rename_i z hz
    simp only [Option.some.injEq, Prod.mk.injEq] at h;obtain ⟨rfl, rfl, rfl, _⟩ := h;have hfl : σ.flat = true := by
     unfold aK.shrAs at hz;rw [he] at hz;simp only [] at hz;cases hf : σ.flat
     ·rw [hf] at hz; cases hz
     ·rfl
    exact .inl ⟨rfl, aP.flat hfl (eQ hi hv hz)⟩
   ·split at h
    ·rename_i z u' hz
     simp only [Option.some.injEq, Prod.mk.injEq] at h;obtain ⟨rfl, rfl, rfl, _⟩ := h;exact ownR_ok hi hv hz
    ·cases h
  ·split at h
   ·rename_i z hz
    simp only [Option.some.injEq, Prod.mk.injEq] at h;obtain ⟨rfl, rfl, rfl, _⟩ := h;have hfl : σ.flat = true := by
     unfold aK.shrAs at hz;rw [he] at hz;simp only [] at hz;cases hf : σ.flat
     ·rw [hf] at hz; cases hz
     ·rfl
    exact .inl ⟨rfl, aP.flat hfl (eQ hi hv hz)⟩
   ·split at h
    ·rename_i z u' hz
     simp only [Option.some.injEq, Prod.mk.injEq] at h;obtain ⟨rfl, rfl, rfl, _⟩ := h;exact ownR_ok hi hv hz
    ·cases h
  ·split at h
   ·rename_i z hz
    simp only [Option.some.injEq, Prod.mk.injEq] at h;obtain ⟨rfl, rfl, rfl, _⟩ := h;exact .inl ⟨rfl, hsh hz⟩
   ·cases h
 ·rename_i r p e me x he
  cases hb : (Nat.beq r l.r && decide (μ = .own me))
  ·rw [hb] at h; cases h
  ·rw [hb] at h
   simp only [cond_true] at h;split at h
   ·simp only [Option.some.injEq, Prod.mk.injEq] at h
    obtain ⟨_, _, _, h⟩ := h;cases h
   ·cases h
 ·split at h
  ·rename_i z hz
   simp only [Option.some.injEq, Prod.mk.injEq] at h;obtain ⟨rfl, rfl, rfl, _⟩ := h;exact .inl ⟨rfl, hsh hz⟩
  ·cases h

theorem valS_pend {vw : aK} {σ : Ty} {μ μ' : Md} {l : Al} {y : σ.den} {u : List Nat} (h : valS σ μ l vw = some (y, μ', u, true)) :
  ∃ p e me x, vw.e = .pend l.r p e me x /\ μ = .own me /\ μ' = μ /\ u = [] /\ (⟨.slice e, x⟩ : Σ τ : Ty, τ.den) = ⟨σ, y⟩ := by
 unfold valS at h
 split at h
 ·split at h
  ·simp only [Option.some.injEq, Prod.mk.injEq] at h; obtain ⟨_, _, _, h⟩ := h; cases h
  ·split at h
   ·simp only [Option.some.injEq, Prod.mk.injEq] at h; obtain ⟨_, _, _, h⟩ := h; cases h
   ·cases h
 ·split at h
  ·simp only [Option.some.injEq, Prod.mk.injEq] at h; obtain ⟨_, _, _, h⟩ := h; cases h
  ·cases h
 ·split at h
  ·split at h
   ·simp only [Option.some.injEq, Prod.mk.injEq] at h; obtain ⟨_, _, _, h⟩ := h; cases h
   ·split at h
    ·simp only [Option.some.injEq, Prod.mk.injEq] at h; obtain ⟨_, _, _, h⟩ := h; cases h
    ·cases h
  ·split at h
   ·simp only [Option.some.injEq, Prod.mk.injEq] at h; obtain ⟨_, _, _, h⟩ := h; cases h
   ·split at h
    ·simp only [Option.some.injEq, Prod.mk.injEq] at h; obtain ⟨_, _, _, h⟩ := h; cases h
    ·cases h
  ·split at h
   ·simp only [Option.some.injEq, Prod.mk.injEq] at h; obtain ⟨_, _, _, h⟩ := h; cases h
   ·cases h
 ·rename_i r p e me x he
  cases hb : (Nat.beq r l.r && decide (μ = .own me))
  ·rw [hb] at h; cases h
  ·rw [hb] at h
   simp only [cond_true] at h;simp only [Bool.and_eq_true, aX, decide_eq_true_eq] at hb;obtain ⟨h1, h3⟩ := hb;split at h
   ·rename_i z hz
    simp only [Option.some.injEq, Prod.mk.injEq] at h;obtain ⟨rfl, rfl, rfl, _⟩ := h;exact ⟨p, e, me, x, by rw [he, h1], h3, rfl, rfl, aT hz⟩
   ·cases h
 ·split at h
  ·simp only [Option.some.injEq, Prod.mk.injEq] at h; obtain ⟨_, _, _, h⟩ := h; cases h
  ·cases h

theorem storeE_ok (hC : aF P C) (hi : aM P N w0 F0 H env a w F S) {T : TypeId} {x z : Operand} {o : Oper} (ho : o.op = .store T x z) (hod : o.dst = none) {vx vz : aK}
  (hx : aU P F w env (fun t => a.tmps.getD t undef) S (a.eval x) vx) (hz : aU P F w env (fun t => a.tmps.getD t undef) S (a.eval z) vz)
  {c : Prop} {st' : St} (h : storeE C env T vx vz = some (c, st')) (hc : c) {K : Act -> World -> Prop} {Q : Exit -> Act -> World -> Prop} (hK : ∀ a' w', Inv P N w0 F0 H st' a' w' -> K a' w') : o.wp P a w K Q := by
 unfold storeE at h
 split at h
 ·rename_i l hl
  obtain ⟨σ, y0, μ, pl, S0, cs, b, off, hA, hv⟩ := fI hi hx hl;rw [hA.get, hA.mode] at h;simp only [] at h;cases hT : decide (look C.tys T = some σ)
  ·rw [hT] at h; cases h
  have hT' := of_decide_eq_true hT
  rw [hT] at h;simp only [cond_true] at h;split at h
  ·rename_i y μ' used isP hvs
   split at h
   ·rename_i x' m' hset hmode
    cases hn : bK (l.r :: used)
    ·rw [hn] at h; cases h
    rw [hn] at h;simp only [cond_true, Option.some.injEq, Prod.mk.injEq] at h;obtain ⟨rfl, rfl⟩ := h;have hm : μ' = μ /\ m' = l.m ∨ fB l.p l.τ l.m μ' = some m' := by
     unfold modeS at hmode;cases hd : decide (μ' = μ)
     ·rw [hd] at hmode; exact .inr hmode
     ·rw [hd] at hmode
      simp only [cond_true, Option.some.injEq] at hmode;exact .inl ⟨of_decide_eq_true hd, hmode.symm⟩
    obtain ⟨cs2, S', f⟩ := hA.focus (fun b hb => (hi.sb _ b hb).2.2)
    obtain ⟨q1, q2, row, T0, q3, q4, q5⟩ := f.ok;have fin : ∀ w', (storeVar T ⟨b, off, none⟩ (a.eval z)).run P w = .ok () w' -> (execOp a.eval o).run P w = .ok .skip w' := by
     intro w' hw';simp [execOp, ho, Instr.storeAt, hv, Instr.sureAddr, hw']
    cases hfl : flatS σ μ μ' used with
    | true =>
     rw [hfl] at hK;simp only [cond_true] at hK;unfold flatS at hfl;simp only [Bool.and_eq_true, decide_eq_true_eq, List.isEmpty_iff] at hfl;obtain ⟨⟨hs, rfl⟩, rfl⟩ := hfl;have hm' : m' = l.m := by
      unfold modeS at hmode;rw [decide_eq_true rfl] at hmode;simp only [cond_true, Option.some.injEq] at hmode; exact hmode.symm
     subst hm';cases isP with
     | true =>
      obtain ⟨pp, e, me, xs, he, h1, h2, h3, h4⟩ := valS_pend hvs;injection h4 with h5 _;subst h5; cases hs
     | false =>
      have hval := valS_ok hi hz hvs
      have hown : ∃ S1, aP F w σ μ' S1 (a.eval z) y := by
       rcases hval with ⟨_, h⟩ | ⟨t, h0, h⟩
       ·exact ⟨none', h⟩
       ·cases h0
      obtain ⟨S1, k2⟩ := hown;obtain ⟨w', g1, g2⟩ := store_scal hC hi hT' hA.root f hs k2 hset;unfold Oper.wp;rw [fin w' g1, Oper.upon_skip, hod];exact hK a w' g2
    | false =>
    rw [hfl] at hK;simp only [cond_false] at hK;have goal : ∀ w', (storeVar T ⟨b, off, none⟩ (a.eval z)).run P w = .ok () w' -> Inv P N w0 F0 H (upd (keepAS (dropAll env used) l.r l.p) l.r (dF (env l.r) l.τ m' x')) a w' -> o.wp P a w K Q := by
     intro w' hw' hinv;unfold Oper.wp;rw [fin w' hw', Oper.upon_skip, hod];exact hK a w' hinv
    have hbS : S l.r b := (f.blk b rfl).elim (hA.root.sub b) hA.root.isB
    cases isP with
    | false =>
     have hval := valS_ok hi hz hvs
     have hown : ∃ S1, Sub S1 (SL S used) /\ aP F w σ μ' S1 (a.eval z) y := by
      rcases hval with ⟨rfl, h⟩ | ⟨t, rfl, h⟩
      ·exact ⟨none', fun _ h => h.elim, h⟩
      ·exact ⟨S t, fun b hb => ⟨t, by simp, hb⟩, h⟩
     obtain ⟨S1, k1, k2⟩ := hown;obtain ⟨hnr, _⟩ := nodup_cons hn;have hdis : ∀ k, S1 k -> ¬ S l.r k := by
      intro k hk hr;obtain ⟨t, ht, hk⟩ := k1 k hk;exact hi.sd t l.r (fun e => hnr (e ▸ ht)) k hk hr
     obtain ⟨w', g1, g2⟩ := store_core hC hi hT' hA.root f.toPlug ⟨row, T0, q3, q4⟩ k2 hn (fun k hk => ⟨fun h => hdis k hk (hA.root.sub k h.1), fun h => hdis k hk (hA.root.isB h), .inr (k1 k hk), fun e => hdis k hk (e ▸ hbS)⟩) hset hm hA.get hA.mode hA.inr
     exact goal w' g1 g2
    | true =>
     obtain ⟨pp, e, me, xs, he, h1, h2, h3, h4⟩ := valS_pend hvs;have hpp : pp = l.p := by
      have := hc
      unfold pendC at this;rw [he] at this; exact this
     subst hpp;subst h2; subst h3;obtain ⟨τ, m, z0, pl2, S02, cs3, y2, pl3, S3, Sp, g1, g2, g3, g4, g5, g6, g7, g8⟩ := pend_ok hi hz he;obtain ⟨e1, e2, e3, e4⟩ := g1.uniq hA.root;injection e1 with e5 e6;subst e5; cases e6; subst e2; subst e3; subst e4;injection h4 with h5 h6;subst h5; cases h6; subst h1;have hpl : pl3 = .mem b off := by
      have := g2.loc.symm.trans hA.loc
      simp only [Option.some.injEq, Prod.mk.injEq, true_and] at this;exact this
     subst hpl;obtain ⟨w', k1, k2⟩ := store_core hC hi hT' g1 g2 ⟨row, T0, q3, q4⟩ g6 hn (fun k hk => ⟨(g8 k hk).1, (g8 k hk).2, .inl (g7 k hk), fun e => by
      subst e;have h1 := g2.out k rfl;rcases g2.blk k rfl with h | h
      ·exact (g8 k hk).1 ⟨h, h1⟩
      ·exact (g8 k hk).2 h⟩) hset hm hA.get hA.mode hA.inr
     exact goal w' k1 k2
   ·cases h
  ·cases h
 ·cases h

theorem pureStp_ok (hC : aF P C) (hi : aM P C.np w0 F0 H env a w F S) {o : Oper} {c : Prop} {st' : St} (h : pureStp C env o = some (c, st')) (hc : c) {K : Act -> World -> Prop} {Q : Exit -> Act -> World -> Prop}
  (hK : ∀ a' w', Inv P C.np w0 F0 H st' a' w' -> K a' w') : o.wp P a w K Q := by
 unfold pureStp at h
 split at h
 ·rename_i d c' e l hd ho
  simp only [Option.some.injEq, Prod.mk.injEq] at h;obtain ⟨rfl, rfl⟩ := h;have hv : VOK P F w env a S o.op (bR env) := by
   unfold VOK;split
   ·exact ⟨bA hi _, fun _ _ _ => bA hi _, fun _ _ _ => bA hi _⟩
   ·exact fun z _ => bA hi z
  obtain ⟨d', h1, _, h2⟩ := opE_ok hC hi hv ho hc;rw [hd] at h1; injection h1 with h1; subst h1;exact h2 K Q (fun v w' F2 S2 h => hK _ _ ⟨F2, S2, h⟩)
 ·cases h

theorem appC_ok (hC : aF P C) (hi : aM P C.np w0 F0 H env a w F S) {o : Oper} {q : Call} (ho : o.op = .call q) {c : Prop} {st' : St} (h : appC C env o q = some (c, st')) (hc : c) {K : Act -> World -> Prop} {Q : Exit -> Act -> World -> Prop}
  (hK : ∀ a' w', Inv P C.np w0 F0 H st' a' w' -> K a' w') : o.wp P a w K Q := by
 obtain ⟨callee, args, ts⟩ := q
 unfold appC at h
 split at h
 ·rename_i x y T T2 d hcal hargs hts hd
  simp only [] at hcal hargs hts;cases hb : wrB C d
  ·rw [hb] at h; cases h
  rw [hb] at h;simp only [cond_true] at h;have e1 : args = #[x, y] := by apply Array.ext'; simpa using hargs
  have e2 : ts = #[T, T2] := by apply Array.ext'; simpa using hts
  subst e1; subst e2; subst hcal;have hx := bA hi x;have hy := bA hi y;unfold appE at h;split at h
  ·rename_i e e2 r p al hT hT2 he hs
   obtain ⟨σ, z, μ, pl, S0, cs, pl', cs', hA, hrd, hv⟩ := sub?_ok hi hx hs;split at h
   ·rename_i e' xs' me hg hm
    split at h
    ·rename_i xs ys l hcast hsrc
     cases hn : (bK (al.r :: l) && !Nat.beq d al.r)
     ·rw [hn] at h; cases h
     rw [hn] at h;simp only [cond_true, Option.some.injEq, Prod.mk.injEq] at h;obtain ⟨rfl, rfl⟩ := h;simp only [Bool.and_eq_true, Bool.not_eq_true'] at hn;have hdr : d ≠ al.r := fun h => by rw [aX.2 h] at hn; exact absurd hn.2 (by simp)
     obtain ⟨rfl, rfl⟩ := dO hcast;have e3 := hA.get.symm.trans hg;simp only [Option.some.injEq, Sigma.mk.injEq] at e3;obtain ⟨rfl, e3⟩ := e3; cases e3;have e4 := hA.mode.symm.trans hm;simp only [Option.some.injEq] at e4; subst e4;obtain ⟨ao2, n2, cap2, cs2, Si2, me', q2, hm2⟩ := srcE_ok hi hy hsrc;obtain ⟨v, w', F2, S2, k1, k2⟩ := appE_core (ty := o.type) hC hi (d6 hb) hT hT2 hA hrd (q2.fix hm2) hn.1 hdr (by simpa using hc);unfold Oper.wp;have hrun : (execOp a.eval o).run P w = .ok (.value v) w' := by
      simp only [execOp, ho, resolve, invoke, builtin, Sem.run_bind, Sem.run_pure, Result.andThen, List.map_toArray, List.map_cons, List.map_nil];rw [hv, k1]
     rw [hrun, Oper.upon_value, hd];exact hK _ _ ⟨F2, S2, k2⟩
    ·cases h
   ·cases h
  ·cases h
 ·cases h

theorem mvT_ok (hi : aM P C.np w0 F0 H env a w F S) {o : Oper} {x : Operand} (ho : o.op = .move x) {c : Prop} {env' : St} (h : mvT C env o x = some (c, env')) {K : Act -> World -> Prop} {Q : Exit -> Act -> World -> Prop}
  (hK : ∀ a' w', Inv P C.np w0 F0 H env' a' w' -> K a' w') : o.wp P a w K Q := by
 unfold mvT at h
 split at h
 ·rename_i t d hd
  split at h
  ·rename_i τ m y he
   cases hb : wrB C d
   ·rw [hb] at h; cases h
   rw [hb] at h;simp only [cond_true, Option.some.injEq, Prod.mk.injEq] at h;obtain ⟨_, rfl⟩ := h;have h1 := hi.ent t;rw [he] at h1;obtain ⟨vs, h2, h3⟩ := h1;have hd' := d6 hb;have hVd : (a.put (some d) (a.eval (.tmp t))).tmps.getD d undef = a.eval (.tmp t) := by rw [Act.getD_put (by rw [hi.slots.size]; exact hd'.1), if_pos rfl]
   unfold Oper.wp;have hrun : (execOp a.eval o).run P w = .ok (.value (a.eval (.tmp t))) w := by simp [execOp, ho]
   rw [hrun, Oper.upon_value, hd];refine hK _ _ ⟨F, _, (hi.drop t).put (Sd := S t) hd' (RowKit.Below.refl _ _) (fun _ h => h) hi.fb (fun b h1 h2 => absurd h1 h2) ?_ ?_⟩
   ·intro b hb
    obtain ⟨g1, g2, g3⟩ := hi.sb t b hb;refine ⟨g1, g2, g3, fun u _ hu => ?_⟩
    by_cases h : u = t
    ·simp [h] at hu; exact hu
    ·simp only [h, if_false] at hu
     exact hi.sd u t h b hu hb
   ·simp only [aC, if_true, hVd]
    exact ⟨vs, h2, h3⟩
  ·cases h
 ·cases h

theorem stp_ok (hC : aF P C) : eD P C (stp C) := by
 intro w0 F0 H env env' a w o c hi h hc K Q hK
 obtain ⟨F, S, hi⟩ := hi
 unfold stp at h
 split at h
 ·rename_i x hop
  split at h
  ·rename_i r hr
   simp only [Option.some.injEq] at h;subst h;exact mvT_ok hi hop hr hK
  ·exact pureStp_ok hC hi h hc hK
 ·rename_i T x v hop
  cases hd : isNone o.dst
  ·rw [hd] at h; cases h
  ·rw [hd] at h
   exact storeE_ok hC hi hop (eG.1 hd) (bA hi x) (bA hi v) h hc hK
 ·rename_i x hop
  split at h
  ·rename_i d hd
   split at h
   ·rename_i r hr
    cases hb : wrB C d
    ·rw [hb] at hr; cases hr
    ·rw [hb] at hr
     simp only [cond_true] at hr;simp only [Option.some.injEq] at h;subst h;have := ownA_ok hi (d6 hb) (bA hi x) hr;unfold Oper.wp;have hrun : (execOp a.eval o).run P w = .ok (.value (a.eval x)) w := by simp [execOp, hop]
     rw [hrun, Oper.upon_value, hd];exact hK _ _ this
   ·exact pureStp_ok hC hi h hc hK
  ·cases h
 ·simp only [Option.some.injEq, Prod.mk.injEq] at h
  obtain ⟨rfl, _⟩ := h;exact hc.elim
 ·rename_i q hop
  split at h
  ·rename_i r hr
   simp only [Option.some.injEq] at h;subst h;exact appC_ok hC hi hop hr hc hK
  ·exact pureStp_ok hC hi h hc hK
 ·exact pureStp_ok hC hi h hc hK
end
end Go.Lf
namespace Go.Lf
open Go.ChangeShapes Go.WideShapes Go.ChangeAt Go.RowKit

section
variable {P : Program} {H : Type} {enc : TypeId × Value -> H}

end
section
variable {F : aA} {w : World}
end
end Go.Lf
namespace Go.Lf
open Go.ChangeShapes Go.WideShapes Go.ChangeAt Go.RowKit
def tyM (P : Program) : Ty -> (TypeId -> Bool) × (List Field -> Nat -> Bool)
 | .int k => (fun t => match P.underlying t with | some (.int k') => decide (k' = k) | _ => false, fun _ _ => false)
 | .bool => (fun t => match P.underlying t with | some .bool => true | _ => false, fun _ _ => false)
 | .str => (fun t => match P.underlying t with | some .string => true | _ => false, fun _ _ => false)
 | .unit => (fun t => match P.underlying t with | some (.struct fs) => decide (P.cellsOf t = 0) && fs.toList.isEmpty | _ => false, fun fs _ => fs.isEmpty)
 | .prod a b => (fun t => match P.underlying t with
   | some (.struct fs) => decide (P.cellsOf t = a.size + b.size) && (match fs.toList with
    | [] => false
    | f :: fs => decide (f.offset = 0) && decide (P.cellsOf f.type = a.size) && (tyM P a).1 f.type && (tyM P b).2 fs (0 + a.size))
   | _ => false,
  fun fs off => match fs with
   | [] => false
   | f :: fs => decide (f.offset = off) && decide (P.cellsOf f.type = a.size) && (tyM P a).1 f.type && (tyM P b).2 fs (off + a.size))
 | .slice e => (fun t => match P.underlying t with
   | some (.slice u) => decide (P.cellsOf u = e.size) && decide (0 < e.size) && decide (0 < P.bytesOf u) && (tyM P e).1 u
   | _ => false, fun _ _ => false)
 | .arr n e => (fun t => match P.underlying t with
   | some (.array n' u) => decide (n' = n) && decide (P.cellsOf t = n * e.size) && decide (P.cellsOf u = e.size) && (tyM P e).1 u
   | _ => false, fun _ _ => false)
 | .abs _ => (fun _ => false, fun _ _ => false)
section
variable {P : Program} {H : Type} {enc : TypeId × Value -> H} {W : World}
theorem mem_all : ∀ {ds : List (DataW H)} {e : TypeId} {i : Nat} {d : DataW H}, ds[i]? = some d -> ∀ n ∈ d.weights P e, n ∈ DataW.weightsAll P e ds
 | [], _, _, _, h, _, _ => by simp at h
 | d0 :: ds, e, 0, d, h, n, hn => by
  simp only [List.getElem?_cons_zero, Option.some.injEq] at h;subst h;simp only [DataW.weightsAll, List.mem_append];exact .inl hn
 | d0 :: ds, e, i + 1, d, h, n, hn => by
  simp only [List.getElem?_cons_succ] at h;simp only [DataW.weightsAll, List.mem_append];exact .inr (mem_all h n hn)
abbrev FW (W : World) : aA := fun b => b < W.heap.size
theorem own_of_trod : ∀ (τ : Ty),
  (∀ (t : TypeId) (fuel : Nat) (cs : List Value) (x : DataW H × List MemPlace), (tyM P τ).1 t = true -> DataW.trod enc P W 0 (fun _ => true) true fuel t cs = some x ->
   (∀ n ∈ x.1.weights P t, n <= reachBytes) -> (∀ p ∈ x.2, p.block < W.heap.size) -> ∃ v : τ.den, Own (FW W) W τ .shr none' cs v) /\
  (∀ (fs : List Field) (off : Nat) (cs : List Value), (tyM P τ).2 fs off = true ->
   (∀ f ∈ fs, ∃ (fuel : Nat) (x : DataW H × List MemPlace), DataW.trod enc P W 0 (fun _ => true) true fuel f.type ((cs.drop f.offset).take (P.cellsOf f.type)) = some x /\ (∀ n ∈ x.1.weights P f.type, n <= reachBytes) /\ (∀ p ∈ x.2, p.block < W.heap.size)) ->
   ∃ v : τ.den, Own (FW W) W τ .shr none' ((cs.drop off).take τ.size) v)
 | .int k => by
  refine ⟨fun t fuel cs x ht h _ _ => ?_, fun fs off cs h => by simp [tyM] at h⟩
  simp only [tyM] at ht;split at ht
  ·rename_i k' hu
   have := of_decide_eq_true ht
   subst this;obtain ⟨n, rfl, _, hw⟩ := DataW.trod_int hu h;simp only [Lit.wf, Bool.and_eq_true, decide_eq_true_eq] at hw;exact ⟨n, rfl, hw.1, hw.2⟩
  ·cases ht
 | .bool => by
  refine ⟨fun t fuel cs x ht h _ _ => ?_, fun fs off cs h => by simp [tyM] at h⟩
  simp only [tyM] at ht;split at ht
  ·rename_i hu
   obtain ⟨b, rfl, _⟩ := DataW.trod_bool hu h;exact ⟨b, rfl⟩
  ·cases ht
 | .str => by
  refine ⟨fun t fuel cs x ht h hw _ => ?_, fun fs off cs h => by simp [tyM] at h⟩
  simp only [tyM] at ht;split at ht
  ·rename_i hu
   obtain ⟨s, rfl, rfl, _⟩ := DataW.trod_string hu h;have := hw s.data.toList.length (by simp [DataW.weights]);refine ⟨s.data.toList, ?_, ?_⟩
   ·simp
   ·simp only [reachBytes] at this
    unfold lim; omega
  ·cases ht
 | .unit => by
  refine ⟨fun t fuel cs x ht h _ _ => ?_, fun fs off cs h _ => ⟨(), by simp [Own, Ty.size]⟩⟩
  simp only [tyM] at ht;split at ht
  ·rename_i fs hu
   rw [Bool.and_eq_true] at ht;have hc := of_decide_eq_true ht.1;obtain ⟨xs, k, _, _, hl, _, _⟩ := DataW.trod_struct hu h;refine ⟨(), ?_⟩;show cs = [];exact List.eq_nil_of_length_eq_zero (by omega)
  ·cases ht
 | .prod a b => by
  have hF : ∀ (fs : List Field) (off : Nat) (cs : List Value), (tyM P (.prod a b)).2 fs off = true ->
   (∀ f ∈ fs, ∃ (fuel : Nat) (x : DataW H × List MemPlace), DataW.trod enc P W 0 (fun _ => true) true fuel f.type ((cs.drop f.offset).take (P.cellsOf f.type)) = some x /\ (∀ n ∈ x.1.weights P f.type, n <= reachBytes) /\ (∀ p ∈ x.2, p.block < W.heap.size)) ->
   ∃ v : (Ty.prod a b).den, Own (FW W) W (.prod a b) .shr none' ((cs.drop off).take (Ty.prod a b).size) v := by
   intro fs off cs h hx;simp only [tyM] at h
   match fs, h, hx with
   | f :: fs, h, hx =>
    simp only [Bool.and_eq_true, decide_eq_true_eq] at h;obtain ⟨⟨⟨h1, h2⟩, h3⟩, h4⟩ := h;obtain ⟨fuel, x, g1, g2, g3⟩ := hx f (by simp);rw [h1, h2] at g1;obtain ⟨v1, hv1⟩ := (own_of_trod a).1 _ _ _ _ h3 g1 g2 g3;obtain ⟨v2, hv2⟩ := (own_of_trod b).2 _ _ cs h4 (fun g hg => hx g (by simp [hg]))
    refine ⟨(v1, v2), (cs.drop off).take a.size, (cs.drop (off + a.size)).take b.size, none', none', ?_, fun _ h => h, fun _ h => h, fun _ h _ => h, hv1, hv2⟩
    rw [<- List.drop_drop, <- List.take_add]
    rfl
  refine ⟨fun t fuel cs x ht h hw hp => ?_, hF⟩
  have ht0 := ht
  simp only [tyM] at ht;split at ht
  ·rename_i fs hu
   rw [Bool.and_eq_true] at ht;have hc := of_decide_eq_true ht.1;obtain ⟨xs, k, _, rfl, hl, hxl, hfl⟩ := DataW.trod_struct hu h;have := hF fs.toList 0 cs (by simpa only [tyM] using ht.2) (fun f hf => by
    obtain ⟨i, hi⟩ := List.getElem?_of_mem hf;have hx := hfl i f (by simpa using hi);have hil : i < xs.length := by
     have : i < fs.toList.length := by
      rcases Nat.lt_or_ge i fs.toList.length with h | h
      ·exact h
      ·rw [List.getElem?_eq_none h] at hi; cases hi
     simp only [Array.length_toList] at this;omega
    rw [List.getElem?_eq_getElem hil] at hx;refine ⟨k, _, hx, fun n hn => hw n ?_, fun p hp' => hp p ?_⟩
    ·simp only [DataW.weights, hu]
     exact DataW.weights_mem_each (j := i) (t := f.type) (d := (xs[i]).1) (by simp [hi]) (by simp [List.getElem?_eq_getElem hil]) n hn
    ·exact List.mem_flatMap.2 ⟨_, List.getElem_mem hil, hp'⟩)
   rw [List.drop_zero, List.take_of_length_le (by rw [hl, hc]; exact Nat.le_refl _)] at this;exact this
  ·cases ht
 | .slice e => by
  refine ⟨fun t fuel cs x ht h hw hlt => ?_, fun fs off cs h => by simp [tyM] at h⟩
  simp only [tyM] at ht;split at ht
  ·rename_i u hu
   simp only [Bool.and_eq_true, decide_eq_true_eq] at ht;obtain ⟨⟨⟨hc, hpos⟩, hby⟩, he⟩ := ht;rcases Deep.open_slice hu h with ⟨rfl, _⟩ | ⟨a, len, m, m', n, D, Pl, rfl, _, hl, hm, hmm, rfl, hel⟩
   ·exact ⟨[], none, 0, rfl, Nat.le_refl _, Nat.zero_le _, .inl rfl⟩
   ·simp only [if_true] at hmm
    subst hmm;have hlim : len <= lim := by
     have := hw ((((List.range len).map D).length + ((List.range (m' - len)).map fun j => D (len + j)).length) * P.bytesOf u) (by simp [DataW.weights, hu])
     simp only [List.length_map, List.length_range] at this;have h3 : len <= (len + (m' - len)) * P.bytesOf u := Nat.le_trans (by omega) (Nat.le_mul_of_pos_right _ hby);have h4 : reachBytes <= lim := by unfold lim; decide
     omega
    by_cases hl0 : len = 0
    ·subst hl0
     exact ⟨[], some a, m', rfl, by simp, by simp, .inl rfl⟩
    ·have each : ∀ i, i < len -> ∃ x : e.den, ∃ cs', W.cells? 0 (a.add (i * P.cellsOf u)) (P.cellsOf u) = some cs' /\ Own (FW W) W e .shr none' cs' x := by
      intro i hi;obtain ⟨cs', h1, h2⟩ := hel i (by omega);obtain ⟨v, hv⟩ := (own_of_trod e).1 u n cs' _ he h2 (fun k hk => hw k (by
        simp only [DataW.weights, hu];refine List.mem_cons_of_mem _ (List.mem_append_left _ (mem_all (i := i) (d := D i) (by simp [hi]) k hk)))) (fun p hp => hlt p (List.mem_append_right _ (List.mem_flatMap.2 ⟨i, by simp; omega, hp⟩)))
      exact ⟨v, cs', h1, hv⟩
     haveI : Inhabited e.den := ⟨e.dflt⟩
     obtain ⟨g, hg⟩ := Deep.choose_lt each;obtain ⟨b, off, spot⟩ := a;have cells : ∀ i, i < len -> ∀ j, j < P.cellsOf u -> ∃ cs', W.cells? 0 ((⟨b, off, spot⟩ : Addr).add (i * P.cellsOf u)) (P.cellsOf u) = some cs' /\ W.cell? ((⟨b, off, spot⟩ : Addr).add (i * P.cellsOf u + j)) = cs'[j]? /\ Own (FW W) W e .shr none' cs' (g i) := by
      intro i hi j hj;obtain ⟨cs', h1, h2⟩ := hg i hi;obtain ⟨_, hlen, hcell⟩ := World.cells?_some h1;have := hcell j hj;rw [Deep.add_add] at this;exact ⟨cs', h1, this, h2⟩
     obtain ⟨cs0, h00, h0, _⟩ := cells 0 (by omega) 0 (by omega);obtain ⟨_, hlen0, _⟩ := World.cells?_some h00;have h0' : W.cell? ((⟨b, off, spot⟩ : Addr).add 0) = some (cs0[0]'(by omega)) := by
      rw [List.getElem?_eq_getElem (by omega)] at h0
      simpa using h0
     have hspot : spot = none := by simpa [Addr.add] using World.cell?_spot h0'
     subst hspot;have hb : b < W.heap.size := hlt (.cell b off) (List.mem_append_left _ (MemPlace.mem_row.2 ⟨0, Nat.mul_pos (by omega) (by omega), by simp⟩))
     rw [add_mk] at h0';simp only [World.cell?] at h0';split at h0'
     ·rename_i row T fr hr
      have hcl : ∀ i, i < len -> ∃ cs', cs'.length = P.cellsOf u /\ (∀ j, j < P.cellsOf u -> row[off + (i * P.cellsOf u + j)]? = cs'[j]?) /\ Own (FW W) W e .shr none' cs' (g i) := by
       intro i hi;obtain ⟨cs', h1, h2⟩ := hg i hi;obtain ⟨_, hlen, hcell⟩ := World.cells?_some h1;refine ⟨cs', hlen, fun j hj => ?_, h2⟩
       have := hcell j hj
       rw [Deep.add_add, add_mk] at this
       simpa [World.cell?, hr] using this
      refine ⟨(List.range len).map g, some ⟨b, off, none⟩, m', by simp, by simpa using hl, by simpa using hlim, .inr ⟨b, off, row, T, fr, rfl, hb, hr, ?_, ?_⟩⟩
      ·obtain ⟨cs', hlen, hcell, _⟩ := hcl (len - 1) (by omega)
       have := hcell (P.cellsOf u - 1) (by omega)
       rw [List.getElem?_eq_getElem (by omega)] at this;have h1 : off + ((len - 1) * P.cellsOf u + (P.cellsOf u - 1)) < row.size := by
        rcases Nat.lt_or_ge (off + ((len - 1) * P.cellsOf u + (P.cellsOf u - 1))) row.size with h | h
        ·exact h
        ·rw [Array.getElem?_eq_none h] at this; cases this
       have h2 : (len - 1) * P.cellsOf u + P.cellsOf u = len * P.cellsOf u := by
        rw [<- Nat.succ_mul]; congr 1; omega
       simp only [List.length_map, List.length_range];rw [<- hc];omega
      ·intro i x hx
       have hi : i < len := by
        rcases Nat.lt_or_ge i len with h | h
        ·exact h
        ·rw [List.getElem?_eq_none (by simpa using h)] at hx; cases hx
       have hxg : g i = x := by simpa [hi] using hx
       obtain ⟨cs', hlen, hcell, hown⟩ := hcl i hi;rw [hxg] at hown;have : seg row.toList (off + i * e.size) e.size = cs' := by
        rw [<- hc]
        apply List.ext_getElem?
        intro j;unfold seg;rw [List.getElem?_take];split
        ·rename_i hj
         rw [List.getElem?_drop, Array.getElem?_toList, Nat.add_assoc];exact hcell j hj
        ·rw [List.getElem?_eq_none (by omega)]
       rw [this]; exact hown
     ·cases h0'
  ·cases ht
 | .arr n e => by
  refine ⟨fun t fuel cs x ht h hw hlt => ?_, fun fs off cs h => by simp [tyM] at h⟩
  simp only [tyM] at ht;split at ht
  ·rename_i n' u hu
   simp only [Bool.and_eq_true, decide_eq_true_eq] at ht;obtain ⟨⟨⟨rfl, hct⟩, hc⟩, he⟩ := ht;obtain ⟨xs, m, _, rfl, hl, hxl, hel⟩ := DataW.trod_array hu h;have each : ∀ i, i < n' -> ∃ x : e.den, Own (FW W) W e .shr none' (seg cs (i * e.size) e.size) x := by
    intro i hi;have h2 := hel i hi;rw [List.getElem?_eq_getElem (by omega), hc] at h2;exact (own_of_trod e).1 u m _ _ he h2 (fun k hk => hw k (by
     simp only [DataW.weights, hu];exact mem_all (i := i) (d := (xs[i]'(by omega)).1) (by simp [List.getElem?_eq_getElem (show i < xs.length by omega)]) k hk)) (fun p hp => hlt p (List.mem_flatMap.2 ⟨_, List.getElem_mem (by omega), hp⟩))
   haveI : Inhabited e.den := ⟨e.dflt⟩
   obtain ⟨g, hg⟩ := Deep.choose_lt each;refine ⟨(List.range n').map g, by simp, by rw [hl, hct], fun _ => none', fun _ _ h => h, fun _ _ _ _ h _ => h, fun i x hx => ?_⟩
   have hi : i < n' := by
    rcases Nat.lt_or_ge i n' with h | h
    ·exact h
    ·rw [List.getElem?_eq_none (by simpa using h)] at hx; cases hx
   have hxg : g i = x := by simpa [hi] using hx
   rw [<- hxg]; exact hg i hi
  ·cases ht
 | .abs _ => ⟨fun t fuel cs x ht => by simp [tyM] at ht, fun fs off cs h => by simp [tyM] at h⟩
theorem arg_of {base : Nat} {τ : Ty} {t : TypeId} {v : Value} {d : DataW H} {p : List MemPlace} (hm : (tyM P τ).1 t = true)
  (hval : Value.okWide P W .any base t v) (h : DataW.Trod enc P W 0 (fun _ => true) true t v d p) (hlt : ∀ x ∈ p, x.block < W.heap.size) (hsz : ∀ n ∈ d.weights P t, n <= reachBytes) :
  ∃ x : τ.den, aP (fun b => b < W.heap.size) W τ .shr none' v x := by
 obtain ⟨fuel, hf⟩ := h
 obtain ⟨x, hx⟩ := (own_of_trod τ).1 t fuel _ _ hm hf hsz hlt
 refine ⟨x, v.cells.toList, ?_, hx⟩
 unfold bL
 have one : (∀ cs, v ≠ .agg cs) -> v = v.cells.toList.headD undef := by
  intro hn;cases v <;> first | rfl | exact absurd rfl (hn _)
 have agg : (∃ cs, v = .agg cs) -> v = .agg v.cells.toList.toArray := by
  rintro ⟨cs, rfl⟩; rfl
 match τ, hm with
 | .int k, hm => 
  rw [if_neg (by simp [Ty.isAgg])];simp only [tyM] at hm;split at hm
  ·rename_i k' hu
   obtain ⟨n, rfl⟩ := okWide_int hu hval
   rfl
  ·cases hm
 | .bool, hm => 
  rw [if_neg (by simp [Ty.isAgg])];simp only [tyM] at hm;split at hm
  ·rename_i hu
   obtain ⟨n, rfl⟩ := okWide_bool hu hval
   rfl
  ·cases hm
 | .str, hm => 
  rw [if_neg (by simp [Ty.isAgg])];simp only [tyM] at hm;split at hm
  ·rename_i hu
   refine one fun cs e => ?_
   subst e;simp [Value.okWide, hu, Cell.okWide, Cell.ok] at hval
  ·cases hm
 | .slice e, hm => 
  rw [if_neg (by simp [Ty.isAgg])];simp only [tyM] at hm;split at hm
  ·rename_i hu
   obtain ⟨a1, len, cap, rfl⟩ := okWide_slice hu hval
   rfl
  ·cases hm
 | .unit, hm => 
  rw [if_pos (by simp [Ty.isAgg])];simp only [tyM] at hm;split at hm
  ·rename_i hu
   simp only [Value.okWide, hu] at hval;exact agg (by obtain ⟨cs, h, _⟩ := hval; exact ⟨cs, h⟩)
  ·cases hm
 | .prod a b, hm => 
  rw [if_pos (by simp [Ty.isAgg])];simp only [tyM] at hm;split at hm
  ·rename_i hu
   simp only [Value.okWide, hu] at hval;exact agg (by obtain ⟨cs, h, _⟩ := hval; exact ⟨cs, h⟩)
  ·cases hm
 | .arr n e, hm => 
  rw [if_pos (by simp [Ty.isAgg])];simp only [tyM] at hm;split at hm
  ·rename_i hu
   simp only [Value.okWide, hu] at hval;exact agg (by obtain ⟨cs, h, _⟩ := hval; exact ⟨cs, h⟩)
  ·cases hm
theorem sz_of {ts : List TypeId} {ds : List (DataW H)} (hsz : (DataW.weightsEach P ts ds).all (· <= reachBytes) = true) {j : Nat} {t : TypeId} (h1 : ts[j]? = some t) {d : DataW H} (h2 : ds[j]? = some d) : ∀ n ∈ d.weights P t, n <= reachBytes :=
 fun n hn => by simpa using List.all_eq_true.1 hsz n (DataW.weights_mem_each h1 h2 n hn)
end
end Go.Lf
namespace Go.Lf

def pinB (C : Ctx) (r : Nat) : Bool := match C.pin with
 | some t => Nat.beq t r
 | none => true
def flatT : Ty -> Bool
 | .prod a b => a.flat && b.flat
 | _ => false
def mkP (C : Ctx) (d : Nat) (s : cX) (z : s.res.den) : Ent := bif s.multi then (bif flatT s.res && dN s.rm then .stup s.res z else .dead) else mkE C d s.res s.rm z

def statP : cD -> Bool
 | [] => true
 | .fst :: p => statP p
 | .snd :: p => statP p
 | _ => false
theorem statP_loc {w w' : World} : ∀ {p : cD} {τ : Ty} {pl : aD}, statP p = true -> loc w p τ pl = loc w' p τ pl
 | [], _, _, _ => rfl
 | .fst :: p, .prod a b, pl, h => statP_loc (p := p) (τ := a) (pl := pl.part 0 a.size) h
 | .snd :: p, .prod a b, pl, h => statP_loc (p := p) (τ := b) (pl := pl.part a.size b.size) h
 | .fst :: _, .int _, _, _ => rfl
 | .fst :: _, .bool, _, _ => rfl
 | .fst :: _, .str, _, _ => rfl
 | .fst :: _, .unit, _, _ => rfl
 | .fst :: _, .slice _, _, _ => rfl
 | .fst :: _, .arr _ _, _, _ => rfl
 | .fst :: _, .abs _, _, _ => rfl
 | .snd :: _, .int _, _, _ => rfl
 | .snd :: _, .bool, _, _ => rfl
 | .snd :: _, .str, _, _ => rfl
 | .snd :: _, .unit, _, _ => rfl
 | .snd :: _, .slice _, _, _ => rfl
 | .snd :: _, .arr _ _, _, _ => rfl
 | .snd :: _, .abs _, _, _ => rfl
 | .idx _ :: _, _, _, h => by cases h
theorem statP_getP : ∀ {p : cD} {τ : Ty} {x x2 : τ.den}, statP p = true -> (aJ p τ x).isSome = true -> (aJ p τ x2).isSome = true /\ inR p τ x2
 | [], _, _, _, _, _ => ⟨rfl, trivial⟩
 | .fst :: p, .prod a b, x, x2, h, g => statP_getP (p := p) (τ := a) (x := x.1) (x2 := x2.1) h g
 | .snd :: p, .prod a b, x, x2, h, g => statP_getP (p := p) (τ := b) (x := x.2) (x2 := x2.2) h g
 | .fst :: _, .int _, _, _, _, g => by cases g
 | .fst :: _, .bool, _, _, _, g => by cases g
 | .fst :: _, .str, _, _, _, g => by cases g
 | .fst :: _, .unit, _, _, _, g => by cases g
 | .fst :: _, .slice _, _, _, _, g => by cases g
 | .fst :: _, .arr _ _, _, _, _, g => by cases g
 | .fst :: _, .abs _, _, _, _, g => by cases g
 | .snd :: _, .int _, _, _, _, g => by cases g
 | .snd :: _, .bool, _, _, _, g => by cases g
 | .snd :: _, .str, _, _, _, g => by cases g
 | .snd :: _, .unit, _, _, _, g => by cases g
 | .snd :: _, .slice _, _, _, _, g => by cases g
 | .snd :: _, .arr _ _, _, _, _, g => by cases g
 | .snd :: _, .abs _, _, _, _, g => by cases g
 | .idx _ :: _, _, _, _, h, _ => by cases h

def restS (st : St) (r d : Nat) (st' : St) : St := bif Nat.beq d r then st' else fun t => match st t with
 | .addr r' p => bif Nat.beq r' r && !Nat.beq t d && !Nat.beq t r && statP p then .addr r' p else st' t
 | _ => st' t

def ptrE (C : Ctx) (d : Nat) (st : St) (s : cX) (v : aK) (vs : List aK) : Option (Prop × St) :=
 match v.addr? with
 | some l => match l.p with
  | [] => bif pinB C l.r && (s.τ.flat || decide (l.m = s.m)) then (match bU (τ := l.τ) (σ := s.τ) l.x, argsE s.args vs with
   | some x, some (y, true) => match bU (τ := s.τ) (σ := l.τ) (s.fn x y) with
    | some x' => some (s.pre x y, restS st l.r d (put (upd (cJ st l.r) l.r (dF (st l.r) l.τ l.m x')) d (mkP C d s (s.out x y))))
    | none => none
   | _, _ => none) else none
  | _ => none
 | none => none

def ptrC (C : Ctx) (st : St) (o : Oper) (q : Call) : Option (Prop × St) :=
 match q.callee, q.args.toList, o.dst with
 | .value (.func f), z :: zs, some d => match look C.ptrs f with
  | some s => bif wrB C d then ptrE C d st s (bR st z) (zs.map (bR st)) else none
  | none => none
 | _, _, _ => none

def thkC (C : Ctx) (st : St) (o : Oper) (q : Call) : Option (Prop × St) :=
 match q.callee, q.args.toList, o.dst, C.thk, C.pin with
 | .value (.tmp t), [], some d, some ts, some s => bif wrB C d then (match st t, st s with
  | .shr (.abs .thk) z, .box τ m x => bif decide (m = ts.m) then (match bU (τ := τ) (σ := ts.τ) x with
   | some x1 => match bU (τ := ts.τ) (σ := τ) (ts.fn (Option.getD z (0, 0, [])).2 x1) with
    | some x' => some (Option.isSome z = true /\ (Option.getD z (0, 0, [])).1 = C.q /\ ts.pre (Option.getD z (0, 0, [])).2 x1, restS st s d (put (upd (cJ st s) s (dF (st s) τ m x')) d .dead))
    | none => none
   | none => none) else none
  | _, _ => none) else none
 | _, _, _, _, _ => none

def frz1 (st : St) : Operand -> St
 | .tmp t => match st t with
  | .box τ _ x => upd (cJ st t) t (.saddr τ x)
  | _ => st
 | _ => st
def frzL (st : St) : List Operand -> St
 | [] => st
 | z :: l => frzL (frz1 st z) l

def stpP (C : Ctx) (st : St) (o : Oper) : Option (Prop × St) :=
 match o.op with
 | .call q => match ptrC C st o q with
  | some r => some r
  | none => match thkC C st o q with
   | some r => some r
   | none => stp C st o
 | .makeFunc _ _ caps => pureStp C (frzL st caps.toList) o
 | _ => stp C st o

section
variable {P : Program} {C : Ctx} {N : NP} {w0 : World} {F0 H : aA} {env : St} {a : Act} {w : World} {F : aA} {S : Nat -> aA} {d : Nat}

theorem aM.setRootF (hi : aM P N w0 F0 H env a w F S) {r : Nat} (hr : (env r).isOwner = true) {w' : World} {F' Sr : aA} {E : Ent} (hE : E.isOwner = true)
  (h1 : w'.os = w.os) (h2 : w'.tape = w.tape) (h3 : w'.output = w.output) (h4 : w.heap.size <= w'.heap.size) (h6 : ∀ k, k < w0.heap.size -> ¬ H k -> w'.heap[k]? = w.heap[k]?)
  (hFF : Sub F F') (hFb : ∀ b, F' b -> b < w'.heap.size) (hFn : ∀ b, F' b -> ¬ F b -> (w0.heap.size <= b ∨ H b) /\ ∀ t, t ≠ r -> ¬ S t b)
  (h5 : ∀ b, F b ∨ (∃ t, t ≠ r /\ S t b) -> w'.heap[b]? = w.heap[b]?) (hS : ∀ b, Sr b -> (w0.heap.size <= b ∨ H b) /\ b < w'.heap.size /\ ¬ F' b /\ ∀ t, t ≠ r -> ¬ S t b)
  (he : aC P F' w' (upd (cJ env r) r E) (fun t => a.tmps.getD t undef) (fun t => if t = r then Sr else S t) r E) :
  aM P N w0 F0 H (upd (cJ env r) r E) a w' F' (fun t => if t = r then Sr else S t) := by
 refine ⟨h1.trans hi.os, h2.trans hi.tape, h3.trans hi.output, Nat.le_trans hi.size h4, fun k hk hH => (h6 k hk hH).trans (hi.block k hk hH), hFb, fun b hb => hFF b (hi.f0 b hb), ?_, ?_, ?_, ?_, hi.defers, hi.slots⟩
 ·intro b hb h0
  by_cases hF : F b
  ·exact hi.fn b hF h0
  ·exact (hFn b hb hF).1
 ·intro t b ht
  by_cases h : t = r
  ·simp only [h, if_true] at ht
   exact ⟨(hS b ht).1, (hS b ht).2.1, (hS b ht).2.2.1⟩
  ·simp only [h, if_false] at ht
   obtain ⟨g1, g2, g3⟩ := hi.sb t b ht;exact ⟨g1, Nat.lt_of_lt_of_le g2 h4, fun hF => (hFn b hF g3).2 t h ht⟩
 ·intro t u htu b hb1 hb2
  by_cases h : t = r
  ·simp only [h, if_true] at hb1
   by_cases h' : u = r
   ·exact htu (h.trans h'.symm)
   ·simp only [h', if_false] at hb2
    exact (hS b hb1).2.2.2 u h' hb2
  ·simp only [h, if_false] at hb1
   by_cases h' : u = r
   ·simp only [h', if_true] at hb2
    exact (hS b hb2).2.2.2 t h hb1
   ·simp only [h', if_false] at hb2
    exact hi.sd t u htu b hb1 hb2
 ·intro t
  by_cases h : t = r
  ·subst h
   rw [bZ]; exact he
  ·rw [bN _ _ h]
   rcases c8 env r t with h' | ⟨h', hne⟩
   ·rw [h']; trivial
   ·rw [h']
    refine aC.keep hFF (fun b hb => h5 b (.inl hb)) rfl ?_ ?_ (hi.ent t)
    ·intro q hq
     have hqr : q ≠ r := fun e => hne (e ▸ hq)
     refine ⟨fun ho => ?_, fun _ => rfl, by simp [hqr], fun b hb => h5 b (.inr ⟨q, hqr, hb⟩), fun b h1 h2 => (hFn b h1 h2).2 q hqr, fun b hb => (hi.sb q b hb).2.2⟩
     rw [bN _ _ hqr]; unfold cJ d8; rw [Ent.owner_root ho]
    ·intro _
     exact ⟨by simp [h], fun b hb => h5 b (.inr ⟨t, h, hb⟩), fun b h1 h2 => (hFn b h1 h2).2 t h⟩

theorem aM.putPtr (hi : aM P N w0 F0 H env a w F S) (hd : Wr N d) {s : cX} {r b : Nat} {lm : Md} {x : s.τ.den} {y : aN s.args} {S0 : aA}
  (hbox : env r = .box s.τ lm x) (hval : a.tmps.getD r undef = .pointer (some ⟨b, 0, none⟩)) (hS0 : S0 = fun k => S r k /\ k ≠ b) (hsb : S r b)
  (hm : s.τ.flat = true ∨ lm = s.m) {e : Ending} {w' : World} (hp : PPost F S0 w b s x y e w') :
  ∃ v F2 S2, e = .returned v /\ aM P N w0 F0 H (Go.Lf.put (upd (cJ env r) r (dF (env r) s.τ lm (s.fn x y))) d (mkP C d s (s.out x y))) (a.put (some d) v) w' F2 S2 := by
 obtain ⟨v, F', S', Sr, cs', q0, q1, q2, q3, q4, q5, q6, q7, q8, q9, q10, q11, q12, q13⟩ := hp
 have hb := hi.sb r b hsb
 have hsub : ∀ k, S0 k -> S r k := by rw [hS0]; exact fun k hk => hk.1
 have hnb : ∀ k, S r k -> ¬ S0 k -> k = b := by
  intro k h1 h2;rw [hS0] at h2;by_cases hk : k = b
  ·exact hk
  ·exact absurd ⟨h1, hk⟩ h2
 have h1 : ∀ k, (w.heap.size <= k ∨ S0 k) -> (w0.heap.size <= k ∨ H k) /\ ∀ t, t ≠ r -> ¬ S t k := by
  rintro k (hk | hk)
  ·exact ⟨.inl (Nat.le_trans hi.size hk), fun t _ ht => by have := (hi.sb t k ht).2.1; omega⟩
  ·exact ⟨(hi.sb r k (hsub k hk)).1, fun t ht h => hi.sd t r ht k h (hsub k hk)⟩
 have hb' : ¬ F' b := q11.2.1
 have hset : aM P N w0 F0 H (upd (cJ env r) r (dF (env r) s.τ lm (s.fn x y))) a w' F' (fun t => if t = r then (fun k => S' k ∨ k = b) else S t) := by
  refine hi.setRootF (by rw [hbox]; rfl) (by rw [hbox]; rfl) q1 q2 q3 q4 ?_ q6 (fun k hk => q8 k (.inl hk)) ?_ ?_ ?_ ?_
  ·intro k hk hH
   refine q5 k (Nat.lt_of_lt_of_le hk hi.size) ?_ ?_
   ·rintro rfl
    rcases hb.1 with h | h
    ·omega
    ·exact hH h
   ·intro h
    rcases (hi.sb r k (hsub k h)).1 with h | h
    ·omega
    ·exact hH h
  ·intro k hk hF
   exact h1 k (q7 k hk hF)
  ·rintro k (hk | ⟨t, g1, g2⟩)
   ·exact q5 k (hi.fb k hk) (fun e => hb.2.2 (e ▸ hk)) (fun h => (hi.sb r k (hsub k h)).2.2 hk)
   ·exact q5 k (hi.sb t k g2).2.1 (fun e => hi.sd t r g1 k g2 (e ▸ hsb)) (fun h => hi.sd t r g1 k g2 (hsub k h))
  ·rintro k (hk | rfl)
   ·obtain ⟨g1, g2⟩ := q9 k hk
    exact ⟨(h1 k g1).1, q8 k (.inr (.inl hk)), g2, (h1 k g1).2⟩
   ·exact ⟨hb.1, Nat.lt_of_lt_of_le hb.2.1 q4, hb', fun t ht h => hi.sd t r ht k h hsb⟩
  ·rw [hbox]
   have hSb : ¬ S' b := q11.1
   refine ⟨.mem b 0, S', cs', .inr ⟨rfl, b, rfl, ?_, hval, ?_⟩, q11, ?_⟩
   ·simp only [if_true]
    funext k
    by_cases hk : k = b
    ·subst hk; simp [hSb]
    ·simp [hk]
   ·simp
   ·rcases hm with hm | hm
    ·exact q12.flat hm
    ·rw [hm]; exact q12
 unfold mkP
 cases hmu : s.multi
 ·rw [hmu] at q13
  have q13 : aP F' w' s.res s.rm Sr v (s.out x y) := q13
  have hSr : ∀ k, Sr k -> (w0.heap.size <= k ∨ H k) /\ k < w'.heap.size /\ ¬ F' k /\ ∀ t, ¬ (if t = r then (fun k => S' k ∨ k = b) else S t) k := by
   intro k hk;obtain ⟨g1, g2, g3, g4⟩ := q10 k hk;refine ⟨(h1 k g1).1, q8 k (.inr (.inr hk)), g2, fun t ht => ?_⟩
   split at ht
   ·rcases ht with h | h
    ·exact g3 h
    ·exact g4 h
   ·rename_i hne
    exact (h1 k g1).2 t hne ht
  obtain ⟨F2, S2, hh⟩ := hset.putNew (C := C) (d := d) hd (RowKit.Below.refl _ _) (fun _ h => h) (fun k hk => q8 k (.inl hk)) (fun k g1 g2 => absurd g1 g2) hSr q13
  exact ⟨v, F2, S2, q0, hh⟩
 ·cases hfl : (flatT s.res && dN s.rm)
  ·exact ⟨v, _, _, q0, hset.putSimple hd rfl (by simp [Ent.root]) trivial⟩
  ·rw [hmu] at q13
   obtain ⟨vs, rfl, q13⟩ : ∃ vs : List Value, v = .tuple vs.toArray /\ cV F' w' s.res s.rm Sr vs (s.out x y) := q13;simp only [Bool.and_eq_true] at hfl;have hm' : s.rm = .shr := by
    have := hfl.2
    cases hmm : s.rm <;> first | rfl | (rw [hmm] at this; cases this)
   rw [hm'] at q13;obtain ⟨F2, S2, hh⟩ := hset.putSTup (d := d) hd (RowKit.Below.refl _ _) (fun _ h => h) (fun k hk => q8 k (.inl hk)) (fun k g1 g2 => absurd g1 g2) q13
   exact ⟨_, F2, S2, q0, hh⟩

theorem kill_addr {st : St} {r t : Nat} {p : cD} (h : st t = .addr r p) : cJ st r t = .dead := by
 unfold cJ d8
 rw [h]
 simp [Ent.root]
theorem put_other {st : St} {d t : Nat} {e : Ent} (h : t ≠ d) : put st d e t = st t ∨ put st d e t = .dead := by
 unfold put
 cases (st d).isOwner
 ·left; simp only [cond_false]; rw [bN _ _ h]
 ·simp only [cond_true]
  rw [bN _ _ h];rcases c8 st d t with h' | ⟨h', _⟩
  ·exact .inr h'
  ·exact .inl h'
theorem statP_blk {w : World} {b b1 off : Nat} {σ : Ty} : ∀ {p : cD} {τ : Ty} {o : Nat}, statP p = true -> loc w p τ (.mem b o) = some (σ, .mem b1 off) -> b1 = b
 | [], _, _, _, h => by simp only [loc, Option.some.injEq, Prod.mk.injEq, aD.mem.injEq] at h; exact h.2.1.symm
 | .fst :: p, .prod a c, o, h, g => statP_blk (p := p) (τ := a) (o := o + 0) h g
 | .snd :: p, .prod a c, o, h, g => statP_blk (p := p) (τ := c) (o := o + a.size) h g
 | .fst :: _, .int _, _, _, g => by cases g
 | .fst :: _, .bool, _, _, g => by cases g
 | .fst :: _, .str, _, _, g => by cases g
 | .fst :: _, .unit, _, _, g => by cases g
 | .fst :: _, .slice _, _, _, g => by cases g
 | .fst :: _, .arr _ _, _, _, g => by cases g
 | .fst :: _, .abs _, _, _, g => by cases g
 | .snd :: _, .int _, _, _, g => by cases g
 | .snd :: _, .bool, _, _, g => by cases g
 | .snd :: _, .str, _, _, g => by cases g
 | .snd :: _, .unit, _, _, g => by cases g
 | .snd :: _, .slice _, _, _, g => by cases g
 | .snd :: _, .arr _ _, _, _, g => by cases g
 | .snd :: _, .abs _, _, _, g => by cases g
 | .idx _ :: _, _, _, h, _ => by cases h
theorem aM.restore {a' : Act} {w' : World} {F2 : aA} {S2 : Nat -> aA} {st : St} {r d b : Nat} (hi : aM P N w0 F0 H env a w F S) (hst : env = st) {E : Ent} {e : Ent} (h' : aM P N w0 F0 H (Go.Lf.put (upd (cJ st r) r E) d e) a' w' F2 S2)
  {τ : Ty} {m : Md} {x : τ.den} (hr : st r = .box τ m x) (hv : a.tmps.getD r undef = .pointer (some ⟨b, 0, none⟩)) {x2 : τ.den} (hE : E = .box τ m x2)
  (hsame : ∀ t, t ≠ d -> a'.tmps.getD t undef = a.tmps.getD t undef) : aM P N w0 F0 H (restS st r d (Go.Lf.put (upd (cJ st r) r E) d e)) a' w' F2 S2 := by
 subst hst
 unfold restS
 cases hdr : Nat.beq d r
 ·simp only [cond_false]
  have hdr : d ≠ r := fun e => by rw [aX.2 e] at hdr; cases hdr
  have hpr : Go.Lf.put (upd (cJ env r) r E) d e r = E ∨ Go.Lf.put (upd (cJ env r) r E) d e r = .dead := by
   rcases put_other (st := upd (cJ env r) r E) (e := e) (Ne.symm hdr) with h | h
   ·left; rw [h, bZ]
   ·exact .inr h
  have hpr : Go.Lf.put (upd (cJ env r) r E) d e r = E := by
   unfold Go.Lf.put;cases (upd (cJ env r) r E d).isOwner
   ·simp only [cond_false]; rw [bN _ _ (Ne.symm hdr), bZ]
   ·simp only [cond_true]
    rw [bN _ _ (Ne.symm hdr)];unfold cJ d8;rw [bZ, hE]
    rfl
  have key : ∀ t p, env t = .addr r p -> statP p = true -> t ≠ d -> t ≠ r -> ∃ σ μ off, loc w' p τ (.mem b 0) = some (σ, .mem b off) /\ a'.tmps.getD t undef = .pointer (some ⟨b, off, none⟩) /\ (aJ p τ x2).isSome = true /\ bE p τ m = some μ /\ inR p τ x2 := by
   intro t p ht hp htd htr;rw [hsame t htd];have h1 := hi.ent t;rw [ht] at h1;obtain ⟨τ1, m1, x1, pl, S0, cs, σ, μ, b1, off, g1, g2, g3, g4, g5, g6⟩ := h1;rw [hr] at g1;obtain ⟨e1, e2, b2, hpl, _, hv2, _⟩ := g1.box_inj;subst hpl;injection e1 with e1 e3;subst e1; subst e2;have hv2 : a.tmps.getD r undef = .pointer (some ⟨b2, 0, none⟩) := hv2;rw [hv] at hv2;injection hv2 with hv2; injection hv2 with hv2; injection hv2 with hv2;subst hv2;have hb1 : b1 = b := statP_blk hp g2;subst hb1;obtain ⟨g7, g8⟩ := statP_getP (x2 := x2) hp g4;exact ⟨σ, μ, off, by rw [<- g2]; exact statP_loc hp, g3, g7, g5, g8⟩
  have hroot := h'.ent r
  rw [hpr, hE] at hroot;obtain ⟨plr, S0r, csr, hroot⟩ := hroot;obtain ⟨_, _, br, hplr, hS0r, hvr, _⟩ := hroot.box_inj;have hvr : a'.tmps.getD r undef = .pointer (some ⟨br, 0, none⟩) := hvr;have hbr : br = b := by
   rw [hsame r (Ne.symm hdr), hv] at hvr;injection hvr with hvr; injection hvr with hvr; injection hvr with hvr;exact hvr.symm
  subst hbr;refine { h' with ent := ?_ };intro t;have hnew : ∀ q, (Go.Lf.put (upd (cJ env r) r E) d e q).isOwner = true -> (match env q with | .addr r' p => bif Nat.beq r' r && !Nat.beq q d && !Nat.beq q r && statP p then Ent.addr r' p else Go.Lf.put (upd (cJ env r) r E) d e q | _ => Go.Lf.put (upd (cJ env r) r E) d e q) = Go.Lf.put (upd (cJ env r) r E) d e q := by
   intro q hq;split
   ·rename_i r' p hq2
    cases hc : (Nat.beq r' r && !Nat.beq q d && !Nat.beq q r && statP p)
    ·rfl
    ·simp only [Bool.and_eq_true, Bool.not_eq_true'] at hc
     obtain ⟨⟨⟨c1, c2⟩, c3⟩, c4⟩ := hc;have c1 := aX.1 c1;subst c1;have c2 : q ≠ d := fun e => by rw [aX.2 e] at c2; cases c2
     have c3 : q ≠ r' := fun e => by rw [aX.2 e] at c3; cases c3
     exfalso
     rcases put_other (st := upd (cJ env r') r' E) (e := e) c2 with h | h
     ·rw [h, bN _ _ c3, kill_addr hq2] at hq; cases hq
     ·rw [h] at hq; cases hq
   ·rfl
  have keep : aC P F2 w' (fun q => match env q with | .addr r' p => bif Nat.beq r' r && !Nat.beq q d && !Nat.beq q r && statP p then Ent.addr r' p else Go.Lf.put (upd (cJ env r) r E) d e q | _ => Go.Lf.put (upd (cJ env r) r E) d e q) (fun t => a'.tmps.getD t undef) S2 t (Go.Lf.put (upd (cJ env r) r E) d e t) := by
   refine aC.keep (fun _ h => h) (fun _ _ => rfl) rfl ?_ (fun _ => ⟨rfl, fun _ _ => rfl, fun b h1 h2 => absurd h1 h2⟩) (h'.ent t)
   intro q hq;exact ⟨fun ho => hnew q ho, fun _ => rfl, rfl, fun _ _ => rfl, fun b h1 h2 => absurd h1 h2, fun b hb => (h'.sb q b hb).2.2⟩
  show aC _ _ _ _ _ _ t (match env t with | .addr r' p => bif Nat.beq r' r && !Nat.beq t d && !Nat.beq t r && statP p then Ent.addr r' p else Go.Lf.put (upd (cJ env r) r E) d e t | _ => Go.Lf.put (upd (cJ env r) r E) d e t)
  split
  ·rename_i r' p ht
   cases hc : (Nat.beq r' r && !Nat.beq t d && !Nat.beq t r && statP p)
   ·exact keep
   ·simp only [Bool.and_eq_true, Bool.not_eq_true'] at hc
    obtain ⟨⟨⟨c1, c2⟩, c3⟩, c4⟩ := hc;have c1 := aX.1 c1;subst c1;have c2 : t ≠ d := fun e => by rw [aX.2 e] at c2; cases c2
    have c3 : t ≠ r' := fun e => by rw [aX.2 e] at c3; cases c3
    simp only [cond_true, aC];rw [hnew r' (by rw [hpr, hE]; rfl), hpr, hE];obtain ⟨σ, μ, off, k1, k2, k3, k4, k5⟩ := key t p ht c4 c2 c3;exact ⟨τ, m, x2, plr, S0r, csr, σ, μ, br, off, hroot, by rw [hplr]; exact k1, k2, k3, k4, k5⟩
  ·exact keep
 ·exact h'

theorem ptrE_ok (hC : aF P C) (hi : aM P C.np w0 F0 H env a w F S) (hd : Wr C.np d) {f : FuncId} {s : cX} (hs : look C.ptrs f = some s) {z : Operand} {zs : List Operand} {args : Array Operand} (hargs : args.toList = z :: zs) {ts : Array TypeId} {o : Oper}
  (ho : o.op = .call { callee := .value (.func f), args, argTypes := ts }) (hod : o.dst = some d)
  {c : Prop} {env' : St} (h : ptrE C d env s (bR env z) (zs.map (bR env)) = some (c, env')) (hc : c) {K : Act -> World -> Prop} {Q : Exit -> Act -> World -> Prop} (hK : ∀ a' w', Inv P C.np w0 F0 H env' a' w' -> K a' w') : o.wp P a w K Q := by
 have hv := bA hi z
 unfold ptrE at h
 split at h
 ·rename_i l hl
  split at h
  ·rename_i hp
   cases hf : (pinB C l.r && (s.τ.flat || decide (l.m = s.m)))
   ·rw [hf] at h; cases h
   rw [hf] at h;simp only [cond_true] at h;simp only [Bool.and_eq_true, Bool.or_eq_true, decide_eq_true_eq] at hf;obtain ⟨hpin, hf⟩ := hf;split at h
   ·rename_i x y hx hy
    have := aT hx
    obtain ⟨σ, y0, μ, pl, S0, cs, b, off, hA, hval⟩ := fI hi hv hl;obtain ⟨lr, lp, lτ, lm, lx⟩ := l;simp only at hp hx this h hf hpin;subst hp;injection this with e1 e2;subst e1; cases e2;split at h
    ·rename_i y' hy'
     have hy' := aT hy'
     injection hy' with _ e3;cases e3;simp only [Option.some.injEq, Prod.mk.injEq] at h;obtain ⟨rfl, rfl⟩ := h;have hroot := hA.root;have hloc := hA.loc;simp only [Go.Lf.loc, Option.some.injEq, Prod.mk.injEq] at hloc;obtain ⟨rfl, hpl⟩ := hloc;subst hpl;simp only at hroot;have hsb : S lr b := hroot.isB rfl;obtain ⟨hbox, hS0, hvr⟩ : env lr = .box s.τ lm x /\ S0 = (fun k => S lr k /\ k ≠ b) /\ off = 0 /\ a.tmps.getD lr undef = .pointer (some ⟨b, 0, none⟩) := by
      rcases hroot.1 with ⟨_, h, _⟩ | ⟨h, b', h2, h3, h4, _⟩
      ·cases h
      ·injection h2 with h2 h5
       subst h2;exact ⟨h, h3, h5, h4⟩
     obtain ⟨rfl, hvr⟩ := hvr;have hb := hi.sb lr b hsb;have hsh : cO P F w s.args (zs.map a.eval) y := argsE_ok hi (gF (f := bR env) (fun z' _ => bA hi z')) hy
     obtain ⟨on, ⟨k1, k2⟩, k3⟩ := hC.ptrs f s hs;have hone : ∀ q, on = some q -> b = q := by
      intro q hq;obtain ⟨g1, g2⟩ := k3 q hq;subst g2;obtain ⟨t, ht⟩ := Option.isSome_iff_exists.1 g1;unfold pinB at hpin;rw [ht] at hpin;have := aX.1 hpin;subst this;have h4 := hi.slots.pin t ht;rw [hvr] at h4;injection h4 with h4; injection h4 with h4; injection h4
     have hown : Own F w s.τ s.m S0 cs x := by
      rcases hf with hf | hf
      ·exact hroot.2.2.flat hf
      ·rw [<- hf]; exact hroot.2.2
     have hcall := k2 w F S0 b cs x _ y hone hb.2.1 hi.fb (fun k hk => by
      rw [hS0] at hk;exact ⟨(hi.sb lr k hk.1).2.1, (hi.sb lr k hk.1).2.2⟩) hroot.2.1 hown hsh hc
     have hrun : (execOp a.eval o).run P w = .ok (.enter f (.pointer (some ⟨b, 0, none⟩) :: zs.map a.eval).toArray) w := by
      simp only [execOp, ho, resolve, Sem.run_bind, Act.eval, Deferred.ofValue, Sem.run_pure, Result.andThen, invoke];have := k1 ((.pointer (some ⟨b, 0, none⟩) :: zs.map a.eval).toArray) w;rw [<- this]
      congr 1
      congr 1
      apply Array.ext'
      simp [hargs, <- hval]
     unfold Oper.wp;rw [hrun, Oper.upon_enter];refine hcall.mono ?_;intro e w' hpost;obtain ⟨v, F2, S2, rfl, hh⟩ := hi.putPtr (C := C) hd hbox hvr hS0 hsb hf hpost;rw [hod];exact hK _ _ ⟨F2, S2, hi.restore rfl hh hbox hvr (by rw [hbox]; rfl) (fun t ht => by rw [Act.getD_put (by rw [hi.slots.size]; exact hd.1), if_neg ht])⟩
    ·cases h
   ·cases h
  ·cases h
 ·cases h

theorem thkC_ok (hC : aF P C) (hi : aM P C.np w0 F0 H env a w F S) {q : Call} {o : Oper} (ho : o.op = .call q) {c : Prop} {env' : St} (h : thkC C env o q = some (c, env')) (hc : c) {K : Act -> World -> Prop} {Q : Exit -> Act -> World -> Prop}
  (hK : ∀ a' w', Inv P C.np w0 F0 H env' a' w' -> K a' w') : o.wp P a w K Q := by
 obtain ⟨callee, args, tys⟩ := q
 unfold thkC at h
 simp only at h
 split at h
 ·rename_i t d ts s h2 h3 h4 h5
  cases hb : wrB C d
  ·rw [hb] at h; cases h
  rw [hb] at h;simp only [cond_true] at h;split at h
  ·rename_i z τ m x ht hs
   cases hf : decide (m = ts.m)
   ·rw [hf] at h; cases h
   rw [hf] at h;simp only [cond_true] at h;have hm := of_decide_eq_true hf;split at h
   ·rename_i x1 hx
    have := aT hx
    injection this with e1 e2;subst e1; cases e2;split at h
    ·rename_i x' hx'
     have := aT hx'
     injection this with _ e3;cases e3;simp only [Option.some.injEq, Prod.mk.injEq] at h;obtain ⟨rfl, rfl⟩ := h;obtain ⟨hz, hzq, hpre⟩ := hc;obtain ⟨z1, rfl⟩ := Option.isSome_iff_exists.1 hz;simp only [Option.getD_some] at hzq hpre hK;obtain ⟨zq, z1⟩ := z1;simp only at hzq hpre hK;subst hzq;have ht1 := hi.ent t;rw [ht] at ht1;obtain ⟨cs1, hv1, caps, hcs, hcap⟩ := ht1;have hvt : a.tmps.getD t undef = .func (.func z1.1) #[] caps := by
      have hv1 : a.tmps.getD t undef = _ := hv1
      rw [hv1, hcs]; rfl
     have hs1 := hi.ent s
     rw [hs] at hs1;obtain ⟨pl, S0, cs, hr⟩ := hs1;obtain ⟨_, _, b, rfl, hS0, hvs, hsb⟩ := hr.box_inj;have hvs : a.tmps.getD s undef = .pointer (some ⟨b, 0, none⟩) := hvs;have hpin := hi.slots.pin s h5;have hbb : b = C.q := by
      rw [hvs] at hpin;injection hpin with hpin; injection hpin with hpin; injection hpin
     subst hbb;have hb' := hi.sb s _ hsb;obtain ⟨k1, k2⟩ := hC.thk ts h4 z1 w F S0 cs x1 caps.toList hb'.2.1 hi.fb (fun k hk => by
      rw [hS0] at hk;exact ⟨(hi.sb s k hk.1).2.1, (hi.sb s k hk.1).2.2⟩) hr.2.1 (by rw [<- hm]; exact hr.2.2) hcap hpre
     have e0 : args = #[] := by apply Array.ext'; simpa using h2
     subst e0;have hrun : (execOp a.eval o).run P w = .ok (.enter z1.1 caps.toList.toArray) w := by
      simp only [execOp, ho, resolve, Sem.run_bind, Act.eval, hvt, Deferred.ofValue, Sem.run_pure, Result.andThen, invoke];have := k1 caps.toList.toArray w;rw [<- this]
      congr 1
      congr 1
      apply Array.ext'
      simp
     unfold Oper.wp;rw [hrun, Oper.upon_enter];refine k2.mono ?_;intro e w' hpost;obtain ⟨v, F2, S2, rfl, hh⟩ := hi.putPtr (C := C) (s := ts.at z1) (y := ()) (d6 hb) hs hvs hS0 hsb (.inr hm) hpost;rw [h3];exact hK _ _ ⟨F2, S2, hi.restore rfl hh hs hvs (by rw [hs]; rfl) (fun t ht => by rw [Act.getD_put (by rw [hi.slots.size]; exact (d6 hb).1), if_neg ht])⟩
    ·cases h
   ·cases h
  ·cases h
 ·cases h

theorem aM.freeze (hi : aM P N w0 F0 H env a w F S) {r : Nat} {τ : Ty} {m : Md} {x : τ.den} (hr : env r = .box τ m x) :
  aM P N w0 F0 H (upd (cJ env r) r (.saddr τ x)) a w (fun b => F b ∨ S r b) (fun t => if t = r then none' else S t) := by
 have hap : ∀ t b, t ≠ r -> S t b -> ¬ S r b := fun t b h h1 h2 => hi.sd t r h b h1 h2
 refine ⟨hi.os, hi.tape, hi.output, hi.size, hi.block, ?_, fun b hb => .inl (hi.f0 b hb), ?_, ?_, ?_, ?_, hi.defers, hi.slots⟩
 ·rintro b (hb | hb)
  ·exact hi.fb b hb
  ·exact (hi.sb r b hb).2.1
 ·rintro b (hb | hb) hn
  ·exact hi.fn b hb hn
  ·exact (hi.sb r b hb).1
 ·intro t b ht
  by_cases h : t = r
  ·simp only [h, if_true] at ht; exact ht.elim
  ·simp only [h, if_false] at ht
   obtain ⟨g1, g2, g3⟩ := hi.sb t b ht;exact ⟨g1, g2, fun hF => hF.elim g3 (hap t b h ht)⟩
 ·intro t u htu b h1 h2
  by_cases h : t = r
  ·simp only [h, if_true] at h1; exact h1
  ·simp only [h, if_false] at h1
   by_cases h' : u = r
   ·simp only [h', if_true] at h2; exact h2
   ·simp only [h', if_false] at h2
    exact hi.sd t u htu b h1 h2
 ·intro t
  by_cases h : t = r
  ·subst h
   rw [bZ];have h1 := hi.ent t;rw [hr] at h1;obtain ⟨pl, S0, cs, h1⟩ := h1;obtain ⟨_, _, b, rfl, hS0, hval, hsb⟩ := h1.box_inj;obtain ⟨q1, q2, row, T0, q3, q4, q5⟩ := h1.2.1;refine ⟨b, 0, row, T0, (0, 0), hval, .inr hsb, q3, q4, ?_⟩;rw [q5];exact (Own.freeze (S' := none') h1.2.2).mono (fun k hk => hk.imp id (fun hk => h1.sub k hk)) (fun _ h => h)
  ·rw [bN _ _ h]
   rcases c8 env r t with h' | ⟨h', hne⟩
   ·rw [h']; trivial
   ·rw [h']
    refine aC.keep (fun b hb => .inl hb) (fun _ _ => rfl) rfl ?_ ?_ (hi.ent t)
    ·intro q hq
     have hqr : q ≠ r := fun e => hne (e ▸ hq)
     refine ⟨fun ho => ?_, fun _ => rfl, by simp [hqr], fun _ _ => rfl, ?_, fun b hb => (hi.sb q b hb).2.2⟩
     ·rw [bN _ _ hqr]; unfold cJ d8; rw [Ent.owner_root ho]
     ·rintro b (h1 | h1) h2
      ·exact absurd h1 h2
      ·exact fun h3 => hap q b hqr h3 h1
    ·intro _
     refine ⟨by simp [h], fun _ _ => rfl, ?_⟩
     rintro b (h1 | h1) h2
     ·exact absurd h1 h2
     ·exact fun h3 => hap t b h h3 h1

theorem frzL_ok : ∀ {l : List Operand} {env : St}, Inv P N w0 F0 H env a w -> Inv P N w0 F0 H (frzL env l) a w
 | [], _, h => h
 | z :: l, env, h => by
  refine frzL_ok (l := l) ?_
  unfold frz1;split
  ·rename_i t
   split
   ·rename_i τ m x hr
    obtain ⟨F, S, hi⟩ := h;exact ⟨_, _, hi.freeze hr⟩
   ·exact h
  ·exact h

theorem stpP_ok (hC : aF P C) : eD P C (stpP C) := by
 intro w0 F0 H env env' a w o c hi h hc K Q hK
 unfold stpP at h
 split at h
 ·rename_i q hop
  split at h
  ·rename_i r hr
   simp only [Option.some.injEq] at h;subst h;obtain ⟨F, S, hi⟩ := hi;unfold ptrC at hr;split at hr
   ·rename_i f z zs d h1 h2 h3
    split at hr
    ·rename_i s hs
     cases hb : wrB C d
     ·rw [hb] at hr; cases hr
     rw [hb] at hr;obtain ⟨callee, args, ts⟩ := q;simp only at h1 h2;subst h1;exact ptrE_ok hC hi (d6 hb) hs h2 hop h3 hr hc hK
    ·cases hr
   ·cases hr
  ·split at h
   ·rename_i r hr
    simp only [Option.some.injEq] at h;subst h;obtain ⟨F, S, hi⟩ := hi;exact thkC_ok hC hi hop hr hc hK
   ·exact stp_ok hC hi h hc K Q hK
 ·rename_i fn first caps hop
  obtain ⟨F, S, hi'⟩ := frzL_ok (l := caps.toList) hi;exact pureStp_ok hC hi' h hc hK
 ·exact stp_ok hC hi h hc K Q hK

end
end Go.Lf
namespace Go.Lf

def leftP (s : cX) (x' : s.τ.den) (st : St) : Prop := match st 0 with
 | .box σ m z => bif s.τ.flat || decide (m = s.m) then (match bU (τ := σ) (σ := s.τ) z with
  | some z => z = x'
  | none => False) else False
 | _ => False
def backP (C : Ctx) (s : cX) (rs : List ResultVar) (y' : s.res.den) (st : St) : Prop := bif s.multi then (match rs with
 | _ :: _ :: _ => bif flatT s.res && dN s.rm then (match fL C st s.res rs with
  | some z => z = y'
  | none => False) else False
 | _ => rs = [] /\ s.res = .unit) else match rs with
 | [.tmp t] => (match ownR s.res s.rm (bR st (.tmp t)) with
  | some (z, l) => z = y' /\ dQ l 0 = false
  | none => False)
 | [.cell t T] => bif s.res.flat then (match cellOf st T C t s.res with
  | some z => z = y'
  | none => False) else False
 | _ => False
def retPP (C : Ctx) (s : cX) (rs : List ResultVar) (x' : s.τ.den) (y' : s.res.den) (st : St) : Prop := leftP s x' st /\ backP C s rs y' st

def funP (C : Ctx) (stp : St -> Oper -> Option (Prop × St)) (s : cX) (L : s.τ.den -> aN s.args -> List aW) (fn : Func) : Prop :=
 match fn.body with
 | some c => ∀ x y, s.pre x y -> aB s.τ x -> factsK s.args y -> wpI C stp (L x y) c 0 (ofL ((0, .box s.τ s.m x) :: dK s.args y 1)) (retPP C s fn.results.toList (s.fn x y) (s.out x y)) (fun _ _ => False) (retPP C s fn.results.toList (s.fn x y) (s.out x y))
 | none => False

section
variable {P : Program} {C : Ctx} {N : NP} {w0 : World} {F0 H : aA} {env : St} {a : Act} {w : World} {F : aA} {S : Nat -> aA} {d : Nat}

theorem aM.startP {s : cX} {vs : List Value} {y : aN s.args} {cs : List Value} {x : s.τ.den} {b n : Nat} {S0 : aA} (hb : b < w.heap.size) (hF : ∀ k, F k -> k < w.heap.size) (hS0 : ∀ k, S0 k -> k < w.heap.size /\ ¬ F k)
  (h1 : eU F S0 w (.mem b 0) s.τ.size cs) (h2 : Own F w s.τ s.m S0 cs x) (ha : cO P F w s.args vs y) (hn : vs.length + 1 <= n) :
  aM P ⟨n, some 0, b, 0⟩ w F (fun k => S0 k ∨ k = b) (ofL ((0, .box s.τ s.m x) :: dK s.args y 1)) { tmps := (.pointer (some ⟨b, 0, none⟩) :: vs).toArray ++ Array.replicate (n - (vs.length + 1)) undef, defers := [] } w F
   (fun t k => t = 0 /\ (S0 k ∨ k = b)) := by
 have hget : ∀ i v, (.pointer (some ⟨b, 0, none⟩) :: vs)[i]? = some v -> ((.pointer (some ⟨b, 0, none⟩) :: vs).toArray ++ Array.replicate (n - (vs.length + 1)) undef).getD i undef = v := by
  intro i v hv;have hi : i < (Value.pointer (some ⟨b, 0, none⟩) :: vs).length := by
   rcases Nat.lt_or_ge i (Value.pointer (some ⟨b, 0, none⟩) :: vs).length with h | h
   ·exact h
   ·rw [List.getElem?_eq_none h] at hv; cases hv
  rw [Array.getD_eq_getD_getElem?, Array.getElem?_append_left (by simpa using hi)];simp only [List.getElem?_toArray, hv, Option.getD_some]
 have hV := hget 0 _ rfl
 have he := argsEnt_ok (env := ofL ((0, .box s.τ s.m x) :: dK s.args y 1)) (S := fun t k => t = 0 /\ (S0 k ∨ k = b)) (V := fun t => ((.pointer (some ⟨b, 0, none⟩) :: vs).toArray ++ Array.replicate (n - (vs.length + 1)) undef).getD t undef) (n := 1) ha
  (fun i v hv => hget (1 + i) v (by rw [Nat.add_comm]; simpa using hv))
 refine ⟨rfl, rfl, rfl, Nat.le_refl _, fun _ _ _ => rfl, hF, fun _ h => h, fun b h1 h2 => absurd h1 h2, ?_, ?_, ?_, rfl, ⟨by simp; omega, ?_, fun b o h => by cases h⟩⟩
 ·rintro t k ⟨rfl, hk | rfl⟩
  ·exact ⟨.inr (.inl hk), (hS0 k hk).1, (hS0 k hk).2⟩
  ·exact ⟨.inr (.inr rfl), hb, h1.2.1⟩
 ·rintro t u htu k ⟨rfl, _⟩ ⟨rfl, _⟩
  exact htu rfl
 ·intro t
  show aC P F w (ofL ((0, .box s.τ s.m x) :: dK s.args y 1)) _ _ t (match look ((0, .box s.τ s.m x) :: dK s.args y 1) t with | some e => e | none => .dead)
  cases t with
  | zero =>
   refine ⟨.mem b 0, S0, cs, .inr ⟨rfl, b, rfl, ?_, hV, ⟨rfl, .inr rfl⟩⟩, h1, h2⟩
   funext k
   by_cases hk : k = b
   ·subst hk; simp [h1.1]
   ·simp [hk]
  | succ t =>
   have e1 : look ((0, Ent.box s.τ s.m x) :: dK s.args y 1) (t + 1) = look (dK s.args y 1) (t + 1) := rfl
   rw [e1];cases hl : look (dK s.args y 1) (t + 1) with
   | none => trivial
   | some e => exact (he.2 _ e hl).2.2
 ·intro s' hs'
  injection hs' with hs';subst hs';exact hV

theorem cV.empty {τ : Ty} {m : Md} (h : τ = .unit) (x : τ.den) : cV F w τ m none' [] x := by subst h; rfl

theorem cV.flatT {F F' : aA} {w w' : World} : ∀ {τ : Ty} {m m' : Md} {S : aA} {vs : List Value} {x : τ.den}, τ.flat = true -> cV F w τ m S vs x -> cV F' w' τ m' none' vs x
 | .unit, _, _, _, _, _, _, h => h
 | .prod a b, m, m', S, vs, x, hf, h => by
  obtain ⟨v, r, S1, S2, h0, s1, s2, d, ⟨cs, h1, h2⟩, h3⟩ := h;simp only [Ty.flat, Bool.and_eq_true] at hf;exact ⟨v, r, none', none', h0, fun _ h => h, fun _ h => h, fun _ h => h.elim, ⟨cs, h1, h2.flat hf.1⟩, cV.flatT hf.2 h3⟩
 | .int _, _, _, _, _, _, _, h => h.elim
 | .bool, _, _, _, _, _, _, h => h.elim
 | .str, _, _, _, _, _, _, h => h.elim
 | .abs _, _, _, _, _, _, _, h => h.elim
 | .slice _, _, _, _, _, _, _, h => h.elim
 | .arr _ _, _, _, _, _, _, _, h => h.elim
theorem flatT_flat {τ : Ty} (h : Go.Lf.flatT τ = true) : τ.flat = true := by
 cases τ <;> first | exact h | cases h

theorem retPP_ok (hC : aF P C) (hN : N.p = some 0) {s : cX} {x : s.τ.den} {y : aN s.args} {fn : Func} {S0 : aA} (hH : H = fun k => S0 k ∨ k = N.q) (hq : retPP C s fn.results.toList (s.fn x y) (s.out x y) env) (hi : Inv P N w0 F0 H env a w) :
  bodyPost P fn (PPost F0 S0 w0 N.q s x y) .normal a w := by
 obtain ⟨F, S, hi⟩ := hi
 obtain ⟨hl, hb⟩ := hq
 unfold leftP at hl
 split at hl
 ·rename_i σ m z hz
  cases hf : (s.τ.flat || decide (m = s.m))
  ·rw [hf] at hl; cases hl
  rw [hf] at hl;simp only [cond_true] at hl;simp only [Bool.or_eq_true, decide_eq_true_eq] at hf;split at hl
  ·rename_i z' hz'
   have := aT hz'
   injection this with e1 e2;subst e1; cases e2;subst hl;have h0 := hi.ent 0;rw [hz] at h0;obtain ⟨pl, S1, cs, hr⟩ := h0;obtain ⟨_, _, b, rfl, hS1, hv, hsb⟩ := hr.box_inj;have hpin := hi.slots.pin 0 hN;have hv : a.tmps.getD 0 undef = .pointer (some ⟨b, 0, none⟩) := hv;rw [hv] at hpin;have hbb : b = N.q := by injection hpin with h; injection h with h; injection h
   subst hbb;have hown : Own F w s.τ s.m S1 cs (s.fn x y) := by
    rcases hf with hf | hf
    ·exact hr.2.2.flat hf
    ·rw [<- hf]; exact hr.2.2
   have hout : ∀ k, (w0.heap.size <= k ∨ H k) -> k ≠ N.q -> (w0.heap.size <= k ∨ S0 k) := by
    rintro k (hk | hk) hne
    ·exact .inl hk
    ·rw [hH] at hk
     exact hk.elim .inr (fun h => absurd h hne)
   have hfin : ∀ (v : Value) (Sr : aA), (∀ k, Sr k -> (∃ u, u ≠ 0 /\ S u k)) -> RetV F w s.multi s.res s.rm Sr v (s.out x y) -> PPost F0 S0 w0 N.q s x y (.returned v) w := by
    intro v Sr hSr hret;refine ⟨v, F, S1, Sr, cs, rfl, hi.os, hi.tape, hi.output, hi.size, ?_, hi.f0, ?_, ?_, ?_, ?_, hr.2.1, hown, hret⟩
    ·intro k hk hne hS
     exact hi.block k hk (by rw [hH]; rintro (h | h); exact hS h; exact hne h)
    ·intro k hk hF
     refine hout k (hi.fn k hk hF) ?_
     rintro rfl
     exact (hi.sb 0 _ hsb).2.2 hk
    ·rintro k (hk | hk | hk)
     ·exact hi.fb k hk
     ·exact (hi.sb 0 k (hr.sub k hk)).2.1
     ·obtain ⟨u, _, hu⟩ := hSr k hk; exact (hi.sb u k hu).2.1
    ·intro k hk
     have h1 := hi.sb 0 k (hr.sub k hk)
     refine ⟨hout k h1.1 ?_, h1.2.2⟩
     rintro rfl
     rw [hS1] at hk; exact hk.2 rfl
    ·intro k hk
     obtain ⟨u, hu0, hu⟩ := hSr k hk;have h1 := hi.sb u k hu;have hne : k ≠ N.q := by
      rintro rfl; exact hi.sd u 0 hu0 _ hu hsb
     exact ⟨hout k h1.1 hne, h1.2.2, fun h => hi.sd u 0 hu0 _ hu (hr.sub k h), hne⟩
   unfold backP at hb;cases hmu : s.multi
   ·rw [hmu] at hb hfin
    simp only [cond_false] at hb;split at hb
    ·rename_i t hrs
     have hrun := eC (P := P) (w := w) (a := a) (fn := fn) (vs := [a.tmps.getD t undef]) (by rw [hrs]; simp [resG, Sem.run_bind, Sem.run_pure, Result.andThen])
     refine ⟨hi.defers, _, hrun, ?_⟩
     simp only [List.size_toArray, List.length_cons, List.length_nil, Nat.zero_add, dite_true];show PPost F0 S0 w0 N.q s x y (.returned (a.tmps.getD t undef)) w;split at hb
     ·rename_i z l hz2
      obtain ⟨rfl, hl0⟩ := hb;rcases ownR_ok hi (bA hi (.tmp t)) hz2 with ⟨rfl, h⟩ | ⟨u, rfl, h⟩
      ·exact hfin _ none' (fun _ h => h.elim) h
      ·refine hfin _ (S u) (fun k hk => ⟨u, ?_, hk⟩) h
       rintro rfl
       simp [dQ] at hl0
     ·cases hb
    ·rename_i t T hrs
     cases hfl : s.res.flat
     ·rw [hfl] at hb; cases hb
     rw [hfl] at hb;simp only [cond_true] at hb;split at hb
     ·rename_i z hz2
      subst hb;obtain ⟨v, k1, cs2, k2, k3⟩ := cellOf_ok hC hi hz2;have hrun := eC (P := P) (w := w) (a := a) (fn := fn) (vs := [v]) (by
       rw [hrs];simp only [List.mapM_cons, List.mapM_nil, Sem.run_bind, Sem.run_pure, Result.andThen, k1])
      refine ⟨hi.defers, _, hrun, ?_⟩
      simp only [List.size_toArray, List.length_cons, List.length_nil, Nat.zero_add, dite_true];exact hfin v none' (fun _ h => h.elim) ⟨cs2, k2, k3.flat hfl⟩
     ·cases hb
    ·cases hb
   ·rw [hmu] at hb hfin
    simp only [cond_true] at hb;split at hb
    ·rename_i r1 r2 rr hrs
     cases hfl : (flatT s.res && dN s.rm)
     ·rw [hfl] at hb; cases hb
     rw [hfl] at hb;simp only [cond_true] at hb;simp only [Bool.and_eq_true] at hfl;split at hb
     ·rename_i z hz2
      subst hb;obtain ⟨vs, k1, k2, k3⟩ := readCs_ok hC hi hz2;have hrun := eC (P := P) (w := w) (a := a) (fn := fn) (vs := vs) k1;have hne : ¬ vs.toArray.size = 1 := by rw [List.size_toArray, k2, hrs]; simp
      rw [dif_neg hne] at hrun;refine ⟨hi.defers, _, hrun, ?_⟩;exact hfin _ none' (fun _ h => h.elim) ⟨vs, rfl, cV.flatT (flatT_flat hfl.1) k3⟩
     ·cases hb
    rename_i hno;obtain ⟨hrs, hres⟩ := hb;have hrs' : fn.results = #[] := by apply Array.ext'; simpa using hrs
    refine ⟨hi.defers, .tuple #[], by simp [results, hrs'], hfin _ none' (fun _ h => h.elim) ⟨[], rfl, cV.empty hres _⟩⟩
  ·cases hl
 ·cases hl

theorem POk.introQ {q : Nat} (hC : aF P C) {stp : St -> Oper -> Option (Prop × St)} (hstp : eD P C stp) {f : FuncId} {s : cX} {fn : Func} (hdef : FnDef P f) (hf : P.funcs[f]? = some fn)
  (hN : C.np = ⟨fn.ntmps, some 0, q, 0⟩) (hlen : Nat.ble (s.args.length + 1) fn.ntmps = true) (L : s.τ.den -> aN s.args -> List aW) (h : funP C stp s L fn) : POk P f s (some q) := by
 refine ⟨hdef, ?_⟩
 intro w F S0 b cs x vs y hq hb hF hS0 h1 h2 ha hpre
 have hq := hq q rfl
 subst hq
 unfold funP at h
 split at h
 ·rename_i c hbd
  have hl := cO.len ha
  have hlen' : s.args.length + 1 <= fn.ntmps := Nat.le_of_ble_eq_true hlen
  have hst := aM.startP (P := P) (n := fn.ntmps) hb hF hS0 h1 h2 ha (by omega)
  rw [<- hN] at hst;refine calls_of_wp hf hbd ?_;have hend : ∀ st a w', retPP C s fn.results.toList (s.fn x y) (s.out x y) st -> Inv P C.np w F (fun k => S0 k ∨ k = b) st a w' -> bodyPost P fn (PPost F S0 w b s x y) .normal a w' := by
   intro st a w' hq hi;have hqq : C.np.q = b := by rw [hN]
   have := retPP_ok (N := C.np) hC (by rw [hN]) (x := x) (y := y) (S0 := S0) (by rw [hqq]) hq hi
   rwa [hqq] at this
  refine cH hC hstp c (h x y hpre h2.fact (factsK_ok ha)) ⟨F, _, by simpa using hst⟩ ?_ (fun _ _ _ _ h => h.elim) ?_
  ·intro st a w' hq hi
   exact hend st a w' hq hi
  ·intro st a w' hq hi
   exact hend st a w' hq hi
 ·cases h

theorem POk.all {f : FuncId} {s : cX} (h : ∀ q, POk P f s (some q)) : POk P f s :=
 ⟨(h 0).1, fun w F S0 b cs x vs y _ hb hF hS0 h1 h2 ha hp => (h b).2 w F S0 b cs x vs y (fun q hq => by injection hq) hb hF hS0 h1 h2 ha hp⟩

theorem POk.intro {C : Nat -> Ctx} (hC : ∀ q, aF P (C q)) {stp : Nat -> St -> Oper -> Option (Prop × St)} (hstp : ∀ q, eD P (C q) (stp q)) {f : FuncId} {s : cX} {fn : Func} (hdef : FnDef P f) (hf : P.funcs[f]? = some fn)
  (hN : ∀ q, (C q).np = ⟨fn.ntmps, some 0, q, 0⟩) (hlen : Nat.ble (s.args.length + 1) fn.ntmps = true) (L : Nat -> s.τ.den -> aN s.args -> List aW) (h : ∀ q, funP (C q) (stp q) s (L q) fn) : POk P f s :=
 POk.all fun q => POk.introQ (hC q) (hstp q) hdef hf (hN q) hlen (L q) (h q)
end
end Go.Lf
namespace Go.Lf

section
variable {P : Program} {C : Ctx} {N : NP} {w0 : World} {F0 H : aA} {env : St} {a : Act} {w : World} {F : aA} {S : Nat -> aA} {d : Nat}

end
end Go.Lf
namespace Go.Lf

def inC (C : Ctx) (st : St) (o : Oper) (q : Call) : Option (Prop × St) :=
 match q.callee, q.args.toList, o.dst with
 | .value (.func f), .tmp t :: zs, some d => match look C.ins f, st t with
  | some s, .own τ m x => bif wrB C d && decide (m = s.m) then (match bU (τ := τ) (σ := s.τ) x, argsE s.args (zs.map (bR (drop st t))) with
   | some x, some (y, true) => some (s.pre x y, put (drop st t) d (mkE C d s.res s.rm (s.out x y)))
   | _, _ => none) else none
  | _, _ => none
 | _, _, _ => none

section
variable {P : Program} {C : Ctx} {N : NP} {w0 : World} {F0 H : aA} {env : St} {a : Act} {w : World} {F : aA} {S : Nat -> aA} {d : Nat}

theorem aM.worldZ (hi : aM P N w0 F0 H env a w F S) {w' : World} {F' Z : aA}
  (h1 : w'.os = w.os) (h2 : w'.tape = w.tape) (h3 : w'.output = w.output) (h4 : w.heap.size <= w'.heap.size) (h5 : ∀ k, k < w.heap.size -> ¬ Z k -> w'.heap[k]? = w.heap[k]?)
  (hZ : ∀ k, Z k -> (w0.heap.size <= k ∨ H k) /\ ¬ F k /\ ∀ t, ¬ S t k)
  (hFF : Sub F F') (hFb : ∀ b, F' b -> b < w'.heap.size) (hFn : ∀ b, F' b -> ¬ F b -> w.heap.size <= b ∨ Z b) :
  aM P N w0 F0 H env a w' F' S := by
 have hFx : ∀ b, F b -> w'.heap[b]? = w.heap[b]? := fun b hb => h5 b (hi.fb b hb) fun h => (hZ b h).2.1 hb
 have hSx : ∀ t b, S t b -> w'.heap[b]? = w.heap[b]? := fun t b hb => h5 b (hi.sb t b hb).2.1 fun h => (hZ b h).2.2 t hb
 have hnF : ∀ t b, F' b -> ¬ F b -> ¬ S t b := by
  intro t b g1 g2 g3;rcases hFn b g1 g2 with h | h
  ·have := (hi.sb t b g3).2.1; omega
  ·exact (hZ b h).2.2 t g3
 refine ⟨h1.trans hi.os, h2.trans hi.tape, h3.trans hi.output, Nat.le_trans hi.size h4, ?_, hFb, fun b hb => hFF b (hi.f0 b hb), ?_, ?_, hi.sd, ?_, hi.defers, hi.slots⟩
 ·intro k hk hH
  refine (h5 k (Nat.lt_of_lt_of_le hk hi.size) fun h => ?_).trans (hi.block k hk hH)
  rcases (hZ k h).1 with h | h
  ·omega
  ·exact hH h
 ·intro b hb h0
  by_cases hF : F b
  ·exact hi.fn b hF h0
  ·rcases hFn b hb hF with h | h
   ·exact .inl (Nat.le_trans hi.size h)
   ·exact (hZ b h).1
 ·intro t b ht
  obtain ⟨g1, g2, g3⟩ := hi.sb t b ht;refine ⟨g1, Nat.lt_of_lt_of_le g2 h4, fun hF => ?_⟩
  by_cases hF' : F b
  ·exact g3 hF'
  ·exact hnF t b hF hF' ht
 ·intro t
  refine aC.keep hFF hFx rfl ?_ ?_ (hi.ent t)
  ·intro q hq
   exact ⟨fun _ => rfl, fun _ => rfl, rfl, fun b hb => hSx q b hb, fun b g1 g2 => hnF q b g1 g2, fun b hb => (hi.sb q b hb).2.2⟩
  ·intro _
   exact ⟨rfl, fun b hb => hSx t b hb, fun b g1 g2 => hnF t b g1 g2⟩

theorem inC_ok (hC : aF P C) (hi : aM P C.np w0 F0 H env a w F S) {q : Call} {o : Oper} (ho : o.op = .call q) {c : Prop} {env' : St} (h : inC C env o q = some (c, env')) (hc : c) {K : Act -> World -> Prop} {Q : Exit -> Act -> World -> Prop}
  (hK : ∀ a' w', Inv P C.np w0 F0 H env' a' w' -> K a' w') : o.wp P a w K Q := by
 obtain ⟨callee, args, tys⟩ := q
 unfold inC at h
 simp only at h
 split at h
 ·rename_i f t zs d h3 h4
  split at h
  ·rename_i s τ m x hs ht
   cases hb : (wrB C d && decide (m = s.m))
   ·rw [hb] at h; cases h
   rw [hb] at h;simp only [cond_true] at h;simp only [Bool.and_eq_true, decide_eq_true_eq] at hb;obtain ⟨hd, hm⟩ := hb;have hd := d6 hd;split at h
   ·rename_i x1 y hx hy
    have := aT hx
    injection this with e1 e2;subst e1; cases e2;simp only [Option.some.injEq, Prod.mk.injEq] at h;obtain ⟨rfl, rfl⟩ := h;have ht1 := hi.ent t;rw [ht] at ht1;obtain ⟨pl, S0, cs, hr⟩ := ht1;obtain ⟨_, _, e3, e4, e5⟩ := hr.own_inj;subst e4;have hO : aP F w s.τ m (S t) (a.tmps.getD t undef) x1 := ⟨cs, e5, hr.2.2⟩;rw [hm] at hO;have hi1 := hi.drop t;have hsh : cO P F w s.args (zs.map a.eval) y := argsE_ok hi1 (gF (f := bR (Go.Lf.drop env t)) (fun z' _ => bA hi1 z')) hy
    obtain ⟨k1, k2⟩ := hC.ins f s hs;have hcall := k2 w F (S t) (a.tmps.getD t undef) x1 _ y hi.fb (fun k hk => ⟨(hi.sb t k hk).2.1, (hi.sb t k hk).2.2⟩) hO hsh hc
    have hrun : (execOp a.eval o).run P w = .ok (.enter f (a.tmps.getD t undef :: zs.map a.eval).toArray) w := by
     simp only [execOp, ho, resolve, Sem.run_bind, Act.eval, Deferred.ofValue, Sem.run_pure, Result.andThen, invoke];have := k1 ((a.tmps.getD t undef :: zs.map a.eval).toArray) w;rw [<- this]
     congr 1
     congr 1
     apply Array.ext'
     simp [h3, Act.eval]
    unfold Oper.wp;rw [hrun, Oper.upon_enter];refine hcall.mono ?_;intro e w' hpost;obtain ⟨v, F', Sr, rfl, q1, q2, q3, q4, q5, q6, q7, q8, q9, q10⟩ := hpost;have hnt : ∀ k, S t k -> ∀ u, ¬ (fun u => if u = t then none' else S u) u k := by
     intro k hk u hu;by_cases hut : u = t
     ·simp only [hut, if_true] at hu; exact hu
     ·simp only [hut, if_false] at hu; exact hi.sd u t hut k hu hk
    have hi2 := hi1.worldZ (Z := S t) q1 q2 q3 q4 q5 (fun k hk => ⟨(hi.sb t k hk).1, (hi.sb t k hk).2.2, hnt k hk⟩) q6 (fun b hb => q8 b (.inl hb)) q7
    obtain ⟨F2, S2, hh⟩ := hi2.putNew (C := C) (d := d) hd (RowKit.Below.refl _ _) (fun _ h => h) (fun k hk => q8 k (.inl hk)) (fun k g1 g2 => absurd g1 g2) (by
     intro b hb;obtain ⟨g1, g2⟩ := q9 b hb;refine ⟨?_, q8 b (.inr hb), g2, ?_⟩
     ·rcases g1 with g1 | g1
      ·exact .inl (Nat.le_trans hi.size g1)
      ·exact (hi.sb t b g1).1
     ·intro u hu
      rcases g1 with g1 | g1
      ·have := (hi1.sb u b hu).2.1; omega
      ·exact hnt b g1 u hu) q10
    rw [h4];exact hK _ _ ⟨F2, S2, hh⟩
   ·cases h
  ·cases h
 ·cases h

def stpQ (C : Ctx) (st : St) (o : Oper) : Option (Prop × St) :=
 match o.op with
 | .call q => match inC C st o q with
  | some r => some r
  | none => stpP C st o
 | _ => stpP C st o

theorem stpQ_ok (hC : aF P C) : eD P C (stpQ C) := by
 intro w0 F0 H env env' a w o c hi h hc K Q hK
 unfold stpQ at h
 split at h
 ·rename_i q hop
  split at h
  ·rename_i r hr
   simp only [Option.some.injEq] at h;subst h;obtain ⟨F, S, hi⟩ := hi;exact inC_ok hC hi hop hr hc hK
  ·exact stpP_ok hC hi h hc K Q hK
 ·exact stpP_ok hC hi h hc K Q hK
end
end Go.Lf
namespace Go.Lf

def storeO (C : Ctx) (st : St) (T : TypeId) (va vv : aK) : Option (Prop × St) :=
 match va.e, vv.e, vv.s with
 | .addr r [.idx i], .own σ μ' y, some t => (match st r with
  | .own (.slice e) (.own _) xs => (match bU (τ := σ) (σ := e) y with
   | some y => bif decide (look C.tys T = some e) && !Nat.beq t r then some (List.length xs = 1, upd (cJ (drop st t) r) r (.own (.slice e) (.own μ') [y])) else none
   | none => none)
  | _ => none)
 | _, _, _ => none

def storeT (C : Ctx) (st : St) (T : TypeId) (va vv : aK) : Option (Prop × St) :=
 match vv.sub?, va.addr? with
 | some al, some l => match aJ al.p al.τ al.x, bE al.p al.τ al.m, aJ l.p l.τ l.x, bE l.p l.τ l.m with
  | some ⟨σ', y⟩, some μ', some ⟨σ, _⟩, some μ => (match bU (τ := σ') (σ := σ) y with
   | some y => bif decide (look C.tys T = some σ) && dQ C.take al.r && bK [l.r, al.r] then (match dU l.p l.τ l.x σ y, modeS l μ μ' with
    | some x', some m' => some (True, upd (keepAS (dropAll st [al.r]) l.r l.p) l.r (dF (st l.r) l.τ m' x'))
    | _, _ => none) else none
   | none => none)
  | _, _, _, _ => none
 | _, _ => none

section
variable {P : Program} {C : Ctx} {N : NP} {w0 : World} {F0 H : aA} {env : St} {a : Act} {w : World} {F : aA} {S : Nat -> aA} {d : Nat}

theorem storeO_ok (hC : aF P C) (hi : aM P C.np w0 F0 H env a w F S) {T : TypeId} {x z : Operand} {o : Oper} (ho : o.op = .store T x z) (hod : o.dst = none)
  {c : Prop} {st' : St} (h : storeO C env T (bR env x) (bR env z) = some (c, st')) (hc : c) {K : Act -> World -> Prop} {Q : Exit -> Act -> World -> Prop} (hK : ∀ a' w', Inv P C.np w0 F0 H st' a' w' -> K a' w') : o.wp P a w K Q := by
 have hx := bA hi x
 have hz := bA hi z
 unfold storeO at h
 split at h
 ·rename_i r i σ μ' y t hxe hze hzs
  split at h
  ·rename_i e μ0 xs hr
   split at h
   ·rename_i y' hcast
    cases hb : (decide (look C.tys T = some e) && !Nat.beq t r)
    ·rw [hb] at h; cases h
    rw [hb] at h;simp only [cond_true, Option.some.injEq, Prod.mk.injEq] at h;obtain ⟨rfl, rfl⟩ := h;simp only [Bool.and_eq_true, decide_eq_true_eq, Bool.not_eq_true'] at hb;obtain ⟨hT, htr⟩ := hb;have htr : t ≠ r := fun e => by rw [aX.2 e] at htr; cases htr
    have hcd := aT hcast
    injection hcd with e1 e2;subst e1; cases e2;have hown := fZ (e := σ) (m := μ') (x := y) (l := [t]) hi hz (by unfold aK.ownAs; rw [hze, hzs]; simp [bU]);rcases hown with ⟨h, _⟩ | ⟨t', h, hown⟩
    ·cases h
    injection h with h _;subst h;have hroot : (bR env x).r = env r := by rw [hx.root, hxe]; rfl
    obtain ⟨σ1, y1, μ1, pl, S0, cs, b, off, hA, hv⟩ := fI (l := ⟨r, [.idx i], .slice σ, .own μ0, xs⟩) hi hx (by unfold aK.addr?; rw [hxe, hroot, hr]; rfl);have hR := hA.root;simp only at hR;rw [hr] at hR;obtain ⟨_, _, hpl, hS0, hV⟩ := hR.own_inj;subst hS0; subst hpl;have hO := hR.2.2;obtain ⟨ao, cap, hcs, hcap, hlim, hm⟩ := hO;have hir := hA.inr;simp only [inR] at hir;have hi0 : i = 0 := by have := hir.1; omega
    subst hi0;rcases hm with ⟨_, h⟩ | ⟨b1, off1, row, T1, Si, rfl, hb1, hrow, hsz, s, nb, dd, he⟩
    ·omega
    have hloc := hA.loc
    rw [hcs] at hloc;simp only [loc, aD.read] at hloc;rw [if_pos (by omega)] at hloc;simp only [Option.some.injEq, Prod.mk.injEq, aD.mem.injEq] at hloc;obtain ⟨rfl, rfl, rfl⟩ := hloc;obtain ⟨c', hc', hvo⟩ := hown;have hsize : off1 + 0 * σ.size + σ.size <= row.size := by
     have : 1 * σ.size <= cap * σ.size := Nat.mul_le_mul_right _ (by omega)
     omega
    obtain ⟨w', k1, k2, k3, k4, k5, k6, k7⟩ := (hC.types T _ hT).storeVar (P := P) hrow hsize hvo.len hvo.one;have hF : ∀ k, F k -> w'.heap[k]? = w.heap[k]? := fun k hk => k3 k (fun e => (hi.sb r b1 hb1).2.2 (e ▸ hk))
    have hSt : ∀ u, u ≠ r -> ∀ k, S u k -> w'.heap[k]? = w.heap[k]? := fun u hu k hk => k3 k (fun e => hi.sd u r hu k hk (e ▸ hb1))
    have hvo' : Own F w' σ μ' (S t) c' y := hvo.congr hF (hSt t htr)
    have hi2 := hi.drop t
    have hdr : Go.Lf.drop env t r = env r := by
     unfold Go.Lf.drop;rw [bN _ _ (fun e => htr e.symm)]
     unfold cJ d8;rw [hr]; rfl
    have hnew : Own F w' (.slice σ) (.own μ') (fun k => k = b1 ∨ S t k) [.slice (some ⟨b1, off1, none⟩) 1 cap] [y] := by
     obtain ⟨g1, row0, row1, T0, g2, g3, g4, g5⟩ := k2;rw [hrow] at g2;injection g2 with g2;injection g2 with g2 _ _;subst g2;refine ⟨_, cap, rfl, by rw [hc] at hcap; exact hcap, by simp [lim], .inr ⟨b1, off1, row1, T0, fun i => if i = 0 then S t else none', rfl, .inl rfl, g3, ?_, ?_, ?_, ?_, ?_⟩⟩
     ·have : row1.size = row.size := by
       have := congrArg List.length g5
       simp only [Array.length_toList, List.length_append, List.length_take, List.length_drop, g1] at this;omega
      rw [this]; exact hsz
     ·intro i b hb
      by_cases h : i = 0
      ·rw [if_pos h] at hb; exact .inr hb
      ·rw [if_neg h] at hb; exact hb.elim
     ·intro i hb
      by_cases h : i = 0
      ·rw [if_pos h] at hb; exact hi.sd t r htr b1 hb hb1
      ·rw [if_neg h] at hb; exact hb.elim
     ·intro i j hij b h1 h2
      by_cases h : i = 0
      ·by_cases h' : j = 0
       ·exact hij (h.trans h'.symm)
       ·rw [if_neg h'] at h2; exact h2.elim
      ·rw [if_neg h] at h1; exact h1.elim
     ·intro i x hix
      cases i with
      | succ i => simp at hix
      | zero =>
       simp only [List.getElem?_cons_zero, Option.some.injEq] at hix;subst hix;simp only [if_true];have : seg row1.toList (off1 + 0 * σ.size) σ.size = c' := by
        rw [g5];unfold seg;rw [List.append_assoc, List.drop_append, List.drop_eq_nil_of_le (by rw [List.length_take]; omega), List.nil_append, List.length_take, Array.length_toList, Nat.min_eq_left (by omega), Nat.sub_self, List.drop_zero, List.take_append, List.take_of_length_le (by omega), g1, Nat.sub_self, List.take_zero, List.append_nil]
       rw [this]; exact hvo'
    have hset2 := hi2.setRoot (r := r) (by rw [hdr, hr]; rfl) (w' := w') (Sr := fun k => k = b1 ∨ S t k) (E := .own (.slice σ) (.own μ') [y]) rfl
     k5 k6 k7 (by omega) (fun k hk hH => k3 k (fun e => by subst e; exact (hi.sb r k hb1).1.elim (fun h => by omega) hH))
     (by
      rintro k (hk | ⟨u, hu, hk⟩)
      ·exact hF k hk
      ·by_cases h : u = t
       ·simp [h] at hk; exact hk.elim
       ·simp only [h, if_false] at hk; exact hSt u hu k hk)
     (by
      intro k hk;have hk2 : ∃ u, (u = r ∨ u = t) /\ S u k := by
       rcases hk with rfl | hk
       ·exact ⟨r, .inl rfl, hb1⟩
       ·exact ⟨t, .inr rfl, hk⟩
      obtain ⟨u, hu, hk2⟩ := hk2;obtain ⟨q1, q2, q3⟩ := hi.sb u k hk2;refine ⟨q1, by omega, q3, fun v hv hk3 => ?_⟩
      by_cases h : v = t
      ·simp [h] at hk3; exact hk3
      ·simp only [h, if_false] at hk3
       exact hi.sd v u (fun e => by rcases hu with rfl | rfl <;> contradiction) k hk3 hk2)
     (by
      simp only [aC, if_true];refine ⟨.val cs, _, cs, .inl ⟨rfl, rfl, rfl, hV⟩, rfl, ?_⟩;rw [hcs, hc]; exact hnew)
    unfold Oper.wp;have fin : (execOp a.eval o).run P w = .ok .skip w' := by
     simp [execOp, ho, Instr.storeAt, hv, Instr.sureAddr]
     rw [hc', show off1 = off1 + 0 * σ.size by omega, k1]; rfl
    rw [fin, Oper.upon_skip, hod];exact hK a w' ⟨F, _, hset2⟩
   ·cases h
  ·cases h
 ·cases h

theorem storeT_ok (hC : aF P C) (hi : aM P C.np w0 F0 H env a w F S) {T : TypeId} {x z : Operand} {o : Oper} (ho : o.op = .store T x z) (hod : o.dst = none)
  {c : Prop} {st' : St} (h : storeT C env T (bR env x) (bR env z) = some (c, st')) {K : Act -> World -> Prop} {Q : Exit -> Act -> World -> Prop} (hK : ∀ a' w', Inv P C.np w0 F0 H st' a' w' -> K a' w') : o.wp P a w K Q := by
 have hx := bA hi x
 have hz := bA hi z
 unfold storeT at h
 split at h
 ·rename_i al l hal hl
  obtain ⟨σ1, y1, μ1, pl1, S1, cs1, pl1', cs1', hB, hrd, hvz⟩ := sub?_ok hi hz hal;obtain ⟨σ2, y2, μ2, pl, S0, cs, b, off, hA, hv⟩ := fI hi hx hl;rw [hB.get, hB.mode, hA.get, hA.mode] at h;simp only at h;split at h
  ·rename_i y hcast
   have hcd := aT hcast
   injection hcd with e1 e2;subst e1; cases e2;cases hb : (decide (look C.tys T = some σ1) && dQ C.take al.r && bK [l.r, al.r])
   ·rw [hb] at h; cases h
   rw [hb] at h;simp only [Bool.and_eq_true, decide_eq_true_eq] at hb;obtain ⟨⟨hT, _⟩, hn⟩ := hb;simp only [cond_true] at h;split at h
   ·rename_i x' m' hset hmode
    simp only [Option.some.injEq, Prod.mk.injEq] at h;obtain ⟨_, rfl⟩ := h;have hm : μ1 = μ2 /\ m' = l.m ∨ fB l.p l.τ l.m μ1 = some m' := by
     unfold modeS at hmode;cases hd : decide (μ1 = μ2)
     ·rw [hd] at hmode; exact .inr hmode
     ·rw [hd] at hmode
      simp only [cond_true, Option.some.injEq] at hmode;exact .inl ⟨of_decide_eq_true hd, hmode.symm⟩
    obtain ⟨cs2, S', f⟩ := hA.focus (fun b hb => (hi.sb _ b hb).2.2)
    obtain ⟨q1, q2, row, T0, q3, q4, q5⟩ := f.ok;have hbS : S l.r b := (f.blk b rfl).elim (hA.root.sub b) hA.root.isB;obtain ⟨cs3, S3, f3⟩ := hB.focus (fun b hb => (hi.sb _ b hb).2.2)
    have e3 := f3.ok.read.symm.trans hrd
    simp only [Option.some.injEq] at e3; subst e3;have hown : aP F w σ1 μ1 S3 (a.eval z) y1 := ⟨_, hvz, f3.own⟩;have hS3 : ∀ k, S3 k -> S al.r k := fun k hk => hB.root.sub k (f3.sub k hk)
    obtain ⟨hnr, _⟩ := nodup_cons hn;have hne : al.r ≠ l.r := fun e => hnr (by simp [e])
    have hdis : ∀ k, S3 k -> ¬ S l.r k := fun k hk hr => hi.sd al.r l.r hne k (hS3 k hk) hr
    obtain ⟨w', g1, g2⟩ := store_core hC hi hT hA.root f.toPlug ⟨row, T0, q3, q4⟩ hown hn (fun k hk => ⟨fun h => hdis k hk (hA.root.sub k h.1), fun h => hdis k hk (hA.root.isB h), .inr ⟨al.r, by simp, hS3 k hk⟩, fun e => hdis k hk (e ▸ hbS)⟩) hset hm hA.get hA.mode hA.inr
    unfold Oper.wp;have fin : (execOp a.eval o).run P w = .ok .skip w' := by
     simp [execOp, ho, Instr.storeAt, hv, Instr.sureAddr, g1]
    rw [fin, Oper.upon_skip, hod];exact hK a w' g2
   ·cases h
  ·cases h
 ·cases h

def stpR (C : Ctx) (st : St) (o : Oper) : Option (Prop × St) :=
 match stpQ C st o with
 | some r => some r
 | none => match o.op with
  | .store T x v => bif isNone o.dst then (match storeO C st T (bR st x) (bR st v) with
   | some r => some r
   | none => storeT C st T (bR st x) (bR st v)) else none
  | _ => none

theorem stpR_ok (hC : aF P C) : eD P C (stpR C) := by
 intro w0 F0 H env env' a w o c hi h hc K Q hK
 unfold stpR at h
 split at h
 ·rename_i r hr
  simp only [Option.some.injEq] at h;subst h;exact stpQ_ok hC hi hr hc K Q hK
 ·split at h
  ·rename_i T x v hop
   obtain ⟨F, S, hi⟩ := hi;cases hd : isNone o.dst
   ·rw [hd] at h; cases h
   ·rw [hd] at h
    simp only [cond_true] at h;split at h
    ·rename_i r hr
     simp only [Option.some.injEq] at h;subst h;exact storeO_ok hC hi hop (eG.1 hd) hr hc hK
    ·exact storeT_ok hC hi hop (eG.1 hd) h hK
  ·cases h
end
end Go.Lf
namespace Go.Lf

def mvLoad (C : Ctx) (st : St) (o : Oper) : Option (Prop × St) :=
 match o.op, o.dst with
 | .load T (.tmp r), some d => match st r with
  | .box (.slice e) (.own me) xs => bif dQ C.mvs d && wrB C d && !Nat.beq r d && decide (look C.tys T = some (.slice e)) then
    some (True, put (upd (cJ st r) r (.box (.abs .hole) .shr ())) d (.own (.slice e) (.own me) xs)) else none
  | _ => none
 | _, _ => none
def mvStore (C : Ctx) (st : St) (o : Oper) : Option (Prop × St) :=
 match o.op, o.dst with
 | .store T (.tmp r) (.tmp t), none => match st r, st t with
  | .box (.abs .hole) .shr _, .own (.slice e) μ y => bif !Nat.beq t r && decide (look C.tys T = some (.slice e)) then
    some (True, upd (cJ (drop st t) r) r (.box (.slice e) μ y)) else none
  | _, _ => none
 | _, _ => none
def knoC (C : Ctx) (st : St) (o : Oper) (q : Call) : Option (Prop × St) :=
 match q.callee, o.dst, C.kno, C.pin with
 | .value (.tmp t), some d, some ts, some s => bif wrB C d then (match st t, st s with
  | .shr (.abs .kno) z, .box τ m x => bif decide (m = ts.m) then (match bU (τ := τ) (σ := ts.τ) x, argsE ts.args (q.args.toList.map (bR st)) with
   | some x1, some (y, true) => match bU (τ := ts.τ) (σ := τ) (ts.fn x1 y) with
    | some x' => some (z = some (ts.f, ts.l) /\ ts.pre x1 y, restS st s d (put (upd (cJ st s) s (dF (st s) τ m x')) d .dead))
    | none => none
   | _, _ => none) else none
  | _, _ => none) else none
 | _, _, _, _ => none
def cN (C : Ctx) (st : St) (o : Oper) : Option (Prop × St) :=
 match mvLoad C st o with
 | some r => some r
 | none => match mvStore C st o with
  | some r => some r
  | none => match o.op with
   | .call q => match knoC C st o q with
    | some r => some r
    | none => stpR C st o
   | _ => stpR C st o

section
variable {P : Program} {C : Ctx} {N : NP} {w0 : World} {F0 H : aA} {env : St} {a : Act} {w : World} {F : aA} {S : Nat -> aA} {d : Nat}

theorem mvLoad_ok (hC : aF P C) (hi : aM P C.np w0 F0 H env a w F S) {o : Oper} {c : Prop} {env' : St} (h : mvLoad C env o = some (c, env')) {K : Act -> World -> Prop} {Q : Exit -> Act -> World -> Prop}
  (hK : ∀ a' w', Inv P C.np w0 F0 H env' a' w' -> K a' w') : o.wp P a w K Q := by
 unfold mvLoad at h
 split at h
 ·rename_i T r d hop hod
  split at h
  ·rename_i e me xs hr
   cases hb : (dQ C.mvs d && wrB C d && !Nat.beq r d && decide (look C.tys T = some (.slice e)))
   ·rw [hb] at h; cases h
   rw [hb] at h;simp only [cond_true, Option.some.injEq, Prod.mk.injEq] at h;obtain ⟨_, rfl⟩ := h;simp only [Bool.and_eq_true, decide_eq_true_eq, Bool.not_eq_true'] at hb;obtain ⟨⟨⟨_, hd⟩, hrd⟩, hT⟩ := hb;have hd := d6 hd;have hrd : r ≠ d := fun e => by rw [aX.2 e] at hrd; cases hrd
   have h1 := hi.ent r
   rw [hr] at h1;obtain ⟨pl, S0, cs, hR⟩ := h1;obtain ⟨_, _, b, rfl, hS0, hv, hsb⟩ := hR.box_inj;have hv : a.tmps.getD r undef = .pointer (some ⟨b, 0, none⟩) := hv;obtain ⟨q1, q2, row, T0, q3, q4, q5⟩ := hR.2.1;have hO := hR.2.2;have hbb := hi.sb r b hsb;have hlen : cs.length = 1 := hO.len;have hset := hi.setRoot (r := r) (by rw [hr]; rfl) (w' := w) (Sr := fun k => k = b) (E := .box (.abs .hole) .shr ()) rfl rfl rfl rfl (Nat.le_refl _) (fun _ _ _ => rfl) (fun _ _ => rfl)
    (fun k hk => by subst hk; exact ⟨hbb.1, hbb.2.1, hbb.2.2, fun t ht h => hi.sd t r ht k h hsb⟩)
    (by
     simp only [aC, if_true];refine ⟨.mem b 0, fun k => k = b /\ k ≠ b, cs, .inr ⟨rfl, b, rfl, rfl, hv, rfl⟩, ⟨fun h => h.2 rfl, q2, row, T0, q3, q4, q5⟩, ?_⟩
     match cs, hlen with
     | [v], _ => exact ⟨v, rfl, hO.one v (by simp)⟩)
   have hS0d : ∀ k, S0 k -> (w0.heap.size <= k ∨ H k) /\ k < w.heap.size /\ ¬ F k /\ ∀ t, t ≠ d -> ¬ (if t = r then (fun k => k = b) else S t) k := by
    intro k hk;rw [hS0] at hk;obtain ⟨g1, g2, g3⟩ := hi.sb r k hk.1;refine ⟨g1, g2, g3, fun t ht h => ?_⟩
    by_cases htr : t = r
    ·simp only [htr, if_true] at h; exact hk.2 h
    ·simp only [htr, if_false] at h
     exact hi.sd t r htr k h hk.1
   have hput := hset.put (d := d) (e := .own (.slice e) (.own me) xs) (v := bL (.slice e) cs) (w' := w) (F' := F) (Sd := S0) hd (RowKit.Below.refl _ _) (fun _ h => h) hi.fb (fun k h1 h2 => absurd h1 h2) hS0d (by
    simp only [aC, if_true];refine ⟨.val cs, S0, cs, .inl ⟨rfl, rfl, rfl, ?_⟩, rfl, hO⟩;rw [Act.getD_put (by rw [hi.slots.size]; exact hd.1), if_pos rfl])
   have hrun : (execOp a.eval o).run P w = .ok (.value (bL (.slice e) cs)) w := by
    have hx : a.eval (.tmp r) = .pointer (some ⟨b, 0, none⟩) := hv
    simp only [execOp, hop, hx];simp [Instr.loadAt, Instr.sureAddr, (hC.types T _ hT).loadVar q3 q4, q5]
   unfold Oper.wp;rw [hrun, Oper.upon_value, hod];exact hK _ _ ⟨F, _, hput⟩
  ·cases h
 ·cases h

theorem mvStore_ok (hC : aF P C) (hi : aM P C.np w0 F0 H env a w F S) {o : Oper} {c : Prop} {env' : St} (h : mvStore C env o = some (c, env')) {K : Act -> World -> Prop} {Q : Exit -> Act -> World -> Prop}
  (hK : ∀ a' w', Inv P C.np w0 F0 H env' a' w' -> K a' w') : o.wp P a w K Q := by
 unfold mvStore at h
 split at h
 ·rename_i T r t hop hod
  split at h
  ·rename_i u e μ y hr ht
   cases hb : (!Nat.beq t r && decide (look C.tys T = some (.slice e)))
   ·rw [hb] at h; cases h
   rw [hb] at h;simp only [cond_true, Option.some.injEq, Prod.mk.injEq] at h;obtain ⟨_, rfl⟩ := h;simp only [Bool.and_eq_true, decide_eq_true_eq, Bool.not_eq_true'] at hb;obtain ⟨htr, hT⟩ := hb;have htr : t ≠ r := fun e => by rw [aX.2 e] at htr; cases htr
   have h1 := hi.ent r
   rw [hr] at h1;obtain ⟨pl, S0, cs, hR⟩ := h1;obtain ⟨_, _, b, rfl, hS0, hv, hsb⟩ := hR.box_inj;have hv : a.tmps.getD r undef = .pointer (some ⟨b, 0, none⟩) := hv;obtain ⟨q1, q2, row, T0, q3, q4, q5⟩ := hR.2.1;have hbb := hi.sb r b hsb;have h2 := hi.ent t;rw [ht] at h2;obtain ⟨pl2, S2, cs2, hR2⟩ := h2;obtain ⟨_, _, hpl2, hS2, hV2⟩ := hR2.own_inj;have hO := hR2.2.2;subst hS2;obtain ⟨w', k1, k2, k3, k4, k5, k6, k7⟩ := (hC.types T _ hT).storeVar (P := P) q3 (show 0 + (Ty.slice e).size <= row.size from q4) hO.len hO.one;have hF : ∀ k, F k -> w'.heap[k]? = w.heap[k]? := fun k hk => k3 k (fun e => hbb.2.2 (e ▸ hk))
   have hSt : ∀ u, u ≠ r -> ∀ k, S u k -> w'.heap[k]? = w.heap[k]? := fun u hu k hk => k3 k (fun e => hi.sd u r hu k hk (e ▸ hsb))
   have hO' : Own F w' (.slice e) μ (S t) cs2 y := hO.congr hF (hSt t htr)
   have hi2 := hi.drop t
   have hdr : Go.Lf.drop env t r = env r := by
    unfold Go.Lf.drop;rw [bN _ _ (fun e => htr e.symm)]
    unfold cJ d8;rw [hr]; rfl
   have hset2 := hi2.setRoot (r := r) (by rw [hdr, hr]; rfl) (w' := w') (Sr := fun k => k = b ∨ S t k) (E := .box (.slice e) μ y) rfl
    k5 k6 k7 (by omega) (fun k hk hH => k3 k (fun e => by subst e; exact hbb.1.elim (fun h => by omega) hH))
    (by
     rintro k (hk | ⟨u, hu, hk⟩)
     ·exact hF k hk
     ·by_cases h : u = t
      ·simp [h] at hk; exact hk.elim
      ·simp only [h, if_false] at hk; exact hSt u hu k hk)
    (by
     intro k hk;have hk2 : ∃ u, (u = r ∨ u = t) /\ S u k := by
      rcases hk with rfl | hk
      ·exact ⟨r, .inl rfl, hsb⟩
      ·exact ⟨t, .inr rfl, hk⟩
     obtain ⟨u, hu, hk2⟩ := hk2;obtain ⟨g1, g2, g3⟩ := hi.sb u k hk2;refine ⟨g1, by omega, g3, fun v hv hk3 => ?_⟩
     by_cases h : v = t
     ·simp [h] at hk3; exact hk3
     ·simp only [h, if_false] at hk3
      exact hi.sd v u (fun e => by rcases hu with rfl | rfl <;> contradiction) k hk3 hk2)
    (by
     simp only [aC, if_true];obtain ⟨g1, row0, row1, T1, g2, g3, g4, g5⟩ := k2;rw [q3] at g2;injection g2 with g2;injection g2 with g2 _ _;subst g2;have hnb : ¬ S t b := fun h => hi.sd t r htr b h hsb
     have hsz : 0 + 1 <= row.size := q4
     have hl1 : row1.size = row.size := by
      have := congrArg List.length g5
      simp only [Array.length_toList, List.length_append, List.length_take, List.length_drop, g1, Ty.size] at this;omega
     refine ⟨.mem b 0, S t, cs2, .inr ⟨rfl, b, rfl, ?_, hv, .inl rfl⟩, ⟨hnb, hbb.2.2, row1, T1, g3, by rw [hl1]; exact q4, ?_⟩, hO'⟩
     ·funext k
      by_cases hk : k = b
      ·subst hk; simp [hnb]
      ·simp [hk]
     ·rw [g5]
      unfold seg;rw [List.take_zero, List.nil_append, List.drop_zero, List.take_append, List.take_of_length_le (by rw [g1]; exact Nat.le_refl _), g1, Nat.sub_self, List.take_zero, List.append_nil])
   unfold Oper.wp;have hx : a.eval (.tmp r) = .pointer (some ⟨b, 0, none⟩) := hv;have hz : a.eval (.tmp t) = bL (.slice e) cs2 := hV2;have fin : (execOp a.eval o).run P w = .ok .skip w' := by
    simp [execOp, hop, Instr.storeAt, hx, hz, Instr.sureAddr, k1]
   rw [fin, Oper.upon_skip, hod];exact hK a w' ⟨F, _, hset2⟩
  ·cases h
 ·cases h

theorem knoC_ok (hC : aF P C) (hi : aM P C.np w0 F0 H env a w F S) {q : Call} {o : Oper} (ho : o.op = .call q) {c : Prop} {env' : St} (h : knoC C env o q = some (c, env')) (hc : c) {K : Act -> World -> Prop} {Q : Exit -> Act -> World -> Prop}
  (hK : ∀ a' w', Inv P C.np w0 F0 H env' a' w' -> K a' w') : o.wp P a w K Q := by
 obtain ⟨callee, args, tys⟩ := q
 unfold knoC at h
 simp only at h
 split at h
 ·rename_i t d ts s h3 h4 h5
  cases hb : wrB C d
  ·rw [hb] at h; cases h
  rw [hb] at h;simp only [cond_true] at h;split at h
  ·rename_i z τ m x ht hs
   cases hf : decide (m = ts.m)
   ·rw [hf] at h; cases h
   rw [hf] at h;simp only [cond_true] at h;have hm := of_decide_eq_true hf;split at h
   ·rename_i x1 y hx hy
    have := aT hx
    injection this with e1 e2;subst e1; cases e2;split at h
    ·rename_i x' hx'
     have := aT hx'
     injection this with _ e3;cases e3;simp only [Option.some.injEq, Prod.mk.injEq] at h;obtain ⟨rfl, rfl⟩ := h;obtain ⟨rfl, hpre⟩ := hc;have ht1 := hi.ent t;rw [ht] at ht1;obtain ⟨cs1, hv1, caps, hcs, hcap⟩ := ht1;have hvt : a.tmps.getD t undef = .func (.func ts.f) #[] caps := by
      have hv1 : a.tmps.getD t undef = _ := hv1
      rw [hv1, hcs]; rfl
     have hs1 := hi.ent s
     rw [hs] at hs1;obtain ⟨pl, S0, cs, hr⟩ := hs1;obtain ⟨_, _, b, rfl, hS0, hvs, hsb⟩ := hr.box_inj;have hvs : a.tmps.getD s undef = .pointer (some ⟨b, 0, none⟩) := hvs;have hpin := hi.slots.pin s h5;have hbb : b = C.q := by
      rw [hvs] at hpin;injection hpin with hpin; injection hpin with hpin; injection hpin
     subst hbb;have hb' := hi.sb s _ hsb;have hsh : cO P F w ts.args (args.toList.map a.eval) y := argsE_ok hi (gF (f := bR env) (fun z' _ => bA hi z')) hy
     obtain ⟨k1, k2⟩ := hC.kno ts h4;have k2 := k2 w F S0 cs x1 caps _ y hb'.2.1 hi.fb (fun k hk => by
      rw [hS0] at hk;exact ⟨(hi.sb s k hk.1).2.1, (hi.sb s k hk.1).2.2⟩) hr.2.1 (by rw [<- hm]; exact hr.2.2) hcap hsh hpre
     have hrun : (execOp a.eval o).run P w = .ok (.enter ts.f ((args.toList.map a.eval).toArray ++ caps)) w := by
      simp only [execOp, ho, resolve, Sem.run_bind, Act.eval, hvt, Deferred.ofValue, Sem.run_pure, Result.andThen, invoke];have := k1 ((args.toList.map a.eval).toArray ++ caps) w;rw [<- this]
      congr 1
      congr 1
      apply Array.ext'
      simp [Act.eval]
     unfold Oper.wp;rw [hrun, Oper.upon_enter];refine k2.mono ?_;intro e w' hpost;obtain ⟨v, F2, S2, rfl, hh⟩ := hi.putPtr (C := C) (s := ts.p) (y := y) (d6 hb) hs hvs hS0 hsb (.inr hm) hpost;rw [h3];exact hK _ _ ⟨F2, S2, hi.restore rfl hh hs hvs (by rw [hs]; rfl) (fun t ht => by rw [Act.getD_put (by rw [hi.slots.size]; exact (d6 hb).1), if_neg ht])⟩
    ·cases h
   ·cases h
  ·cases h
 ·cases h

theorem aR (hC : aF P C) : eD P C (cN C) := by
 intro w0 F0 H env env' a w o c hi h hc K Q hK
 unfold cN at h
 split at h
 ·rename_i r hr
  simp only [Option.some.injEq] at h;subst h;obtain ⟨F, S, hi⟩ := hi;exact mvLoad_ok hC hi hr hK
 ·split at h
  ·rename_i r hr
   simp only [Option.some.injEq] at h;subst h;obtain ⟨F, S, hi⟩ := hi;exact mvStore_ok hC hi hr hK
  ·split at h
   ·rename_i q hop
    split at h
    ·rename_i r hr
     simp only [Option.some.injEq] at h;subst h;obtain ⟨F, S, hi⟩ := hi;exact knoC_ok hC hi hop hr hc hK
    ·exact stpR_ok hC hi h hc K Q hK
   ·exact stpR_ok hC hi h hc K Q hK
end
end Go.Lf
namespace Go.Lf

section
variable {P : Program} {C : Ctx} {N : NP} {w0 : World} {F0 H : aA} {env : St} {a : Act} {w : World} {F : aA} {S : Nat -> aA} {d : Nat}

end
end Go.Lf
namespace Go.Lf
theorem z1 : ∀ (p : Prop), (True /\ p) = p := @true_and
theorem z2 : ∀ (p : Prop), (p /\ True) = p := @and_true
theorem z3.{u_1} : ∀ {α : Sort u_1} (a : α), (a = a) = True := @eq_self
theorem z4.{u_1} : ∀ {b : Prop} (α : Sort u_1) [i : Nonempty α], (∀ (a : α), b) ↔ b := @forall_const
theorem z5 : ∀ {p : Prop} [inst : Decidable p], (decide p = Bool.true) = p := @decide_eq_true_eq
theorem z6 : ∀ {p : Prop} {x : Decidable p}, decide p = Bool.false ↔ ¬p := @decide_eq_false_iff_not
theorem z7 : ∀ {a b : Int}, ¬a < b ↔ b <= a := @Int.not_lt
theorem z8 : ∀ {a b : Int}, ¬a <= b ↔ b < a := @Int.not_le
theorem z9 : ∀ (a b : Bool), ((a && b) = Bool.true) = (a = Bool.true /\ b = Bool.true) := @Bool.and_eq_true
theorem z10 : ∀ (p : Prop), (True -> p) = p := @true_implies
theorem z11.{u_1} : ∀ (α : Sort u_1), (∀ (a : α), True) = True := @implies_true
theorem z12 : ∀ (b : Bool), ((!b) = Bool.true) = (b = Bool.false) := @Bool.not_eq_true'
theorem z13 : ∀ (b : Bool), ((!b) = Bool.false) = (b = Bool.true) := @Bool.not_eq_false'
theorem z14 : ∀ (p : Prop), (False -> p) = True := @false_implies
theorem z15 : (Bool.false = Bool.true) = False := @Bool.false_eq_true
theorem z16 : (Bool.true = Bool.false) = False := @Bool.true_eq_false
theorem z17 : ∀ (p : Prop), (p /\ p) = p := @and_self
theorem z18.{u_1} : ∀ {α : Type u_1} [inst : BEq α] [LawfulBEq α] {a b : α}, (a == b) = Bool.true ↔ a = b := @beq_iff_eq
theorem z19.{u_1} : ∀ {α : Type u_1} [inst : BEq α] [LawfulBEq α] {a b : α}, (a == b) = Bool.false ↔ a ≠ b := @beq_eq_false_iff_ne
theorem z20.{u_1} : ∀ {α : Sort u_1} (a b : α), (a ≠ b) = ¬a = b := @ne_eq
theorem z21 : ∀ (n : Nat), ((n : Int)).toNat = n := @Int.toNat_natCast
theorem z22 : ∀ (c t : Bool), (bif c then t else Bool.false) = (c && t) := @Bool.cond_false_right
theorem z23 : ∀ (c f : Bool), (bif c then Bool.true else f) = (c || f) := @Bool.cond_true_left
theorem z24 : ∀ {b a : Prop}, (∃ _h : a, b) ↔ a /\ b := @exists_prop
theorem z25.{u_1} : ∀ {α : Type u_1} [inst : LE α] {x y : α}, x ≥ y ↔ y <= x := @ge_iff_le
theorem z26.{u_1} : ∀ {α : Type u_1} [inst : LT α] {x y : α}, x > y ↔ y < x := @gt_iff_lt
theorem z27.{u_1} : ∀ {α : Type u_1} {a : α}, [a].length = 1 := @List.length_singleton
theorem z28.{u_1} : ∀ {α : Type u_1}, ([] : List α).length = 0 := @List.length_nil
theorem z29.{u_1} : ∀ {α : Type u_1} (l0 : List α), [] ++ l0 = l0 := @List.nil_append
theorem z30.{u_1} : ∀ {α : Type u_1} {l0 l1 : List α}, l0.append l1 = l0 ++ l1 := @List.append_eq
theorem z31 : ∀ (c f : Bool), (bif c then Bool.false else f) = (!c && f) := @Bool.cond_false_left
theorem z32 : ∀ (c t : Bool), (bif c then t else Bool.true) = (!c || t) := @Bool.cond_true_right
theorem z33 : ∀ (b : Bool), (b || Bool.false) = b := @Bool.or_false
theorem z34 : ∀ (b : Bool), (b && Bool.true) = b := @Bool.and_true
theorem z35 : ∀ {x y : Bool}, (x || y) = Bool.false ↔ x = Bool.false /\ y = Bool.false := @Bool.or_eq_false_iff
theorem z36 : ∀ (b : Bool), (¬b = Bool.true) = (b = Bool.false) := @Bool.not_eq_true
theorem z37.{u_1} : ∀ {α : Type u_1} [inst : BEq α] [LawfulBEq α] {a b : α}, (a != b) = Bool.true ↔ a ≠ b := @bne_iff_ne
theorem z38.{u_1} : ∀ {α : Type u_1} [inst : BEq α] [LawfulBEq α] {a b : α}, (a != b) = Bool.false ↔ a = b := @bne_eq_false_iff_eq
theorem zz : (∀ (p : Prop), (True /\ p) = p) /\ (∀ (p : Prop), (p /\ True) = p) /\ (∀ {p : Prop} [inst : Decidable p], (decide p = Bool.true) = p) /\ (∀ {p : Prop} {x : Decidable p}, decide p = Bool.false ↔ ¬p) /\ (∀ {a b : Int}, ¬a < b ↔ b <= a) /\ (∀ {a b : Int}, ¬a <= b ↔ b < a) /\ (∀ (a b : Bool), ((a && b) = Bool.true) = (a = Bool.true /\ b = Bool.true)) /\ (∀ (p : Prop), (True -> p) = p) /\ (∀ (b : Bool), ((!b) = Bool.true) = (b = Bool.false)) /\ (∀ (b : Bool), ((!b) = Bool.false) = (b = Bool.true)) /\ (∀ (p : Prop), (False -> p) = True) /\ ((Bool.false = Bool.true) = False) /\ ((Bool.true = Bool.false) = False) /\ (∀ (p : Prop), (p /\ p) = p) /\ (∀ (n : Nat), ((n : Int)).toNat = n) /\ (∀ (c t : Bool), (bif c then t else Bool.false) = (c && t)) /\ (∀ (c f : Bool), (bif c then Bool.true else f) = (c || f)) /\ (∀ {b a : Prop}, (∃ _h : a, b) ↔ a /\ b) /\ (∀ (c f : Bool), (bif c then Bool.false else f) = (!c && f)) /\ (∀ (c t : Bool), (bif c then t else Bool.true) = (!c || t)) /\ (∀ (b : Bool), (b || Bool.false) = b) /\ (∀ (b : Bool), (b && Bool.true) = b) /\ (∀ {x y : Bool}, (x || y) = Bool.false ↔ x = Bool.false /\ y = Bool.false) /\ (∀ (b : Bool), (¬b = Bool.true) = (b = Bool.false)) := ⟨z1,z2,z5,z6,z7,z8,z9,z10,z12,z13,z14,z15,z16,z17,z21,z22,z23,z24,z31,z32,z33,z34,z35,z36⟩
theorem zy.{u_1} : (∀ {α : Sort u_1} (a : α), (a = a) = True) /\ (∀ {b : Prop} (α : Sort u_1) [i : Nonempty α], (∀ (a : α), b) ↔ b) /\ (∀ (α : Sort u_1), (∀ (a : α), True) = True) /\ (∀ {α : Type u_1} [inst : BEq α] [LawfulBEq α] {a b : α}, (a == b) = Bool.true ↔ a = b) /\ (∀ {α : Type u_1} [inst : BEq α] [LawfulBEq α] {a b : α}, (a == b) = Bool.false ↔ a ≠ b) /\ (∀ {α : Sort u_1} (a b : α), (a ≠ b) = ¬a = b) /\ (∀ {α : Type u_1} [inst : LE α] {x y : α}, x ≥ y ↔ y <= x) /\ (∀ {α : Type u_1} [inst : LT α] {x y : α}, x > y ↔ y < x) /\ (∀ {α : Type u_1} {a : α}, [a].length = 1) /\ (∀ {α : Type u_1}, ([] : List α).length = 0) /\ (∀ {α : Type u_1} (l0 : List α), [] ++ l0 = l0) /\ (∀ {α : Type u_1} {l0 l1 : List α}, l0.append l1 = l0 ++ l1) /\ (∀ {α : Type u_1} [inst : BEq α] [LawfulBEq α] {a b : α}, (a != b) = Bool.true ↔ a ≠ b) /\ (∀ {α : Type u_1} [inst : BEq α] [LawfulBEq α] {a b : α}, (a != b) = Bool.false ↔ a = b) := ⟨z3,z4,z11,z18,z19,z20,z25,z26,z27,z28,z29,z30,z37,z38⟩
end Go.Lf
