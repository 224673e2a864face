/- append on an alias of an owned slice: the place still holds the old value. -/
import Derived.Test.YtagdgckmikcllaaLfc
set_option linter.unusedVariables false
set_option linter.unusedSimpArgs false
namespace Go.Lf

def eC:Ty->Md->Bool
 | .prod a b,m=>eC a m.fst&&eC b m.snd
 | .slice e,.own me=>eC e me
 | .slice _,_=>false
 | .arr _ e,m=>eC e m.elem
 | .abs k,_=>k.flat
 |_,_=>true

def argE:(k:AK)->aP->Option (k.den×Bool)
 | .val τ,v=>match v.shrAs τ with
  |some x=>some (x,true)
  |none=>match v.val with
   |some ⟨σ,x⟩=>(bY (τ:=σ) (σ:=τ) x).map fun y=>(y,false)
   |none=>none
 | .fn A R,v=>match v.e with
  | .fn A' R' g=>if h:A'=A/\R'=R then some (h.1▸h.2▸g,true)else none
  |_=>none
 | .sptr τ,v=>match v.e with
  | .saddr σ x=>(bY (τ:=σ) (σ:=τ) x).map fun y=>(y,true)
  | .raddr _ σ x=>(bY (τ:=σ) (σ:=τ) x).map fun y=>(y,false)
  |_=>match v.addr? with
   |some l=>match aN l.p l.τ l.x,bI l.p l.τ l.m with
    |some ⟨σ,y⟩,some _=>(bY (τ:=σ) (σ:=τ) y).map fun y=>(y,false)
    |_,_=>none
   |none=>none

def mT:(ks:List AK)->List aP->Option (aH ks×Bool)
 | [],[]=>some ((),true)
 |k::ks,v::vs=>match argE k v,mT ks vs with
  |some (x,b),some (y,c)=>some ((x,y),b&&c)
  |_,_=>none
 |_,_=>none

def mkR(C:Ctx)(d:Nat)(multi:Bool)(τ:Ty)(m:Md)(x:τ.den):Ent:=bif multi then(bif dO m then .stup τ x else .tup τ m x)else mkE C d τ m x

def callE(C:Ctx)(d:Nat)(f:FuncId)(vs:List aP):qN:=
 match look C.fns f with
 |some s=>match mT s.args vs with
  |some (x,b)=>bif (b||eC s.res s.mode)&&glbB C s.glb then some (s.pre x,mkR C d s.multi s.res s.mode (s.fn x),[])else none
  |none=>none
 |none=>none

def tN:(A:List Ty)->List aP->Option (sX A×Bool)
 | [],[]=>some ((),true)
 |t::ts,v::vs=>match argE (.val t) v,tN ts vs with
  |some (x,b),some (y,c)=>some ((x,y),b&&c)
  |_,_=>none
 |_,_=>none

def callVE(C:Ctx)(d:Nat)(vf:aP)(vs:List aP):qN:=
 match vf.e with
 | .fn A R g=>match tN A vs with
  |some (x,b)=>bif b||R.flat then some (g.pre x,.shr R (g.fn x),[])else none
  |none=>none
 |_=>none

def cloE(C:Ctx)(vf:aP)(vs:List aP):qN:=
 match vf.e,C.clo with
 | .shr (.abs .clo) z,some s=>match tN s.A vs with
  |some (x,b)=>bif b||s.R.flat then some (Option.isSome z=true/\s.pre (Option.getD z (0,[])) x,.shr s.R (s.fn (Option.getD z (0,[])) x),[])else none
  |none=>none
 |_,_=>none

section
variable {P:Program} {C:Ctx} {N:NP} {w0:World} {F0 H:aA} {env:St} {a:Act} {w:World} {F:aA} {S:Nat->aA} {d:Nat}

theorem Own.closed{G:aA}:∀ {τ:Ty} {m:Md} {S:aA} {cs:List Value} {x:τ.den},eC τ m=true->Own G w τ m S cs x->Own F w τ m S cs x
 | .int _,_,_,_,_,_,h=>by simpa[Own]using h
 | .bool,_,_,_,_,_,h=>by simpa[Own]using h
 | .str,_,_,_,_,_,h=>by simpa[Own]using h
 | .abs _,_,_,_,_,hm,h=>iI.flat hm h
 | .unit,_,_,_,_,_,h=>by simpa[Own]using h
 | .prod a b,m,S,cs,x,hm,h=>by
  obtain⟨c1,c2,S1,S2,rfl,s1,s2,d,h1,h2⟩:=h;simp only[eC,Bool.and_eq_true]at hm;exact⟨c1,c2,S1,S2,rfl,s1,s2,d,Own.closed (τ:=a) hm.1 h1,Own.closed (τ:=b) hm.2 h2⟩
 | .slice e,m,S,cs,xs,hm,h=>by
  cases m with
  |shr=>simp[eC]at hm
  |pair _ _=>simp[eC]at hm
  |own me=>
   obtain⟨ao,cap,rfl,hc,hl,h⟩:=h;refine⟨ao,cap,rfl,hc,hl,?_⟩;rcases h with h|⟨b,off,row,T,Si,ha,hb,hr,ho,s,nb,d,he⟩
   ·exact .inl h
   ·exact .inr ⟨b,off,row,T,Si,ha,hb,hr,ho,s,nb,d,fun i x hx=>Own.closed (τ:=e) (by simpa[eC]using hm) (he i x hx)⟩
 | .arr n e,m,S,cs,xs,hm,h=>by
  obtain⟨hn,hc,Si,s,d,he⟩:=h;exact⟨hn,hc,Si,s,d,fun i x hx=>Own.closed (τ:=e) (by simpa[eC]using hm) (he i x hx)⟩

theorem aT.closed{G S':aA}{τ:Ty}{m:Md}{v:Value}{x:τ.den}(hm:eC τ m=true)(h:aT G w τ m S' v x):aT F w τ m S' v x:=by
 obtain⟨cs,h1,h2⟩:=h;exact⟨cs,h1,Own.closed hm h2⟩

theorem dJ.closed{G:aA}:∀ {τ:Ty} {m:Md} {S:aA} {vs:List Value} {x:τ.den},eC τ m=true->dJ G w τ m S vs x->dJ F w τ m S vs x
 | .unit,_,_,_,_,_,h=>h
 | .prod a b,m,S,vs,x,hm,h=>by
  obtain⟨v,r,S1,S2,h0,s1,s2,d,h1,h2⟩:=h;simp only[eC,Bool.and_eq_true]at hm;exact⟨v,r,S1,S2,h0,s1,s2,d,h1.closed hm.1,dJ.closed hm.2 h2⟩
 | .int _,_,_,_,_,_,h=>h.elim
 | .bool,_,_,_,_,_,h=>h.elim
 | .str,_,_,_,_,_,h=>h.elim
 | .abs _,_,_,_,_,_,h=>h.elim
 | .slice _,_,_,_,_,_,h=>h.elim
 | .arr _ _,_,_,_,_,_,h=>h.elim

def Lvl(F:aA)(S:Nat->aA)(b:Bool):aA:=bif b then F else FA F S

theorem zE{b:Bool}:Sub F (Lvl F S b):=by
 cases b with
 |false=>exact fun _ h=> .inl h
 |true=>exact fun _ h=>h
theorem tG{b c:Bool}:Sub (Lvl F S b) (Lvl F S (b&&c))/\Sub (Lvl F S c) (Lvl F S (b&&c)):=by
 cases b<;>cases c<;>first|exact⟨fun _ h=>h,fun _ h=>h⟩|exact⟨fun _ h=> .inl h,fun _ h=>h⟩|exact⟨fun _ h=>h,fun _ h=> .inl h⟩

theorem argE_ok(hi:aJ P N w0 F0 H env a w F S){v:Value}{vw:aP}(hv:aU P F w env (fun t=>a.tmps.getD t undef) S v vw){k:AK}{x:k.den}{b:Bool}(h:argE k vw=some (x,b)):
  qP P (Lvl F S b) w k v x:=by
 cases k with
 |val τ=>
  simp only[argE]at h;split at h
  ·rename_i y hy
   simp only[Option.some.injEq,Prod.mk.injEq]at h;obtain⟨rfl,rfl⟩:=h;exact fN hi hv hy
  ·split at h
   ·rename_i σ y hy
    simp only[Option.map_eq_some_iff,Prod.mk.injEq]at h;obtain⟨z,h1,rfl,rfl⟩:=h;have:=aV h1;injection this with e1 e2;subst e1;cases e2;exact aP.val_ok hi hv hy
   ·cases h
 |fn A R=>
  simp only[argE]at h;split at h
  ·rename_i A' R' g he
   split at h
   ·rename_i hAR
    obtain⟨rfl,rfl⟩:=hAR;simp only[Option.some.injEq,Prod.mk.injEq]at h;obtain⟨rfl,rfl⟩:=h;have hsh:=hv.ent (by rw[he];rfl) 0 (by rw[he];simp[Ent.root]);rw[he]at hsh;simp only[aF,if_true]at hsh;exact hsh
   ·cases h
  ·cases h
 |sptr τ=>
  simp only[argE]at h;split at h
  ·rename_i σ y he
   simp only[Option.map_eq_some_iff,Prod.mk.injEq]at h;obtain⟨z,h1,rfl,rfl⟩:=h;have:=aV h1;injection this with e1 e2;subst e1;cases e2;have hsh:=hv.ent (by rw[he];rfl) 0 (by rw[he];simp[Ent.root]);rw[he]at hsh;simp only[aF,if_true]at hsh;exact hsh
  ·rename_i r σ y he
   simp only[Option.map_eq_some_iff,Prod.mk.injEq]at h;obtain⟨z,h1,rfl,rfl⟩:=h;have:=aV h1;injection this with e1 e2;subst e1;cases e2;have hsh:=hv.ent (by rw[he];rfl) (r+1) (by rw[he];simp[Ent.root]);rw[he]at hsh;simp only[aF,if_true]at hsh;exact gV.congr hsh.2 (fun b hb=>hb.imp id fun hb=>⟨r,hb⟩) (fun _ _=>rfl)
  ·split at h
   ·rename_i l hl
    split at h
    ·rename_i σ y μ hg hm
     simp only[Option.map_eq_some_iff,Prod.mk.injEq]at h;obtain⟨z,h1,rfl,rfl⟩:=h;have:=aV h1;injection this with e1 e2;subst e1;cases e2;obtain⟨σ',y',μ',pl,S0,cs,b,off,hA,rfl⟩:=gK hi hv hl;have e3:=hA.get.symm.trans hg;simp only[Option.some.injEq,Sigma.mk.injEq]at e3;obtain⟨rfl,e3⟩:=e3;cases e3;obtain⟨cs',S',f⟩:=hA.focus (fun b hb=>(hi.sb l.r b hb).2.2)
     obtain⟨q1,q2,row,T,q3,q4,q5⟩:=f.ok;refine⟨b,off,row,T,(0,0),rfl,?_,q3,q4,?_⟩
     ·refine .inr ⟨l.r,?_⟩
      rcases f.blk b rfl with h|h
      ·exact hA.root.sub b h
      ·exact hA.root.isB h
     ·rw[q5]
      exact(Own.freeze (S':=none') f.own).mono (fun b hb=>hb.imp id fun hb=>⟨l.r,hA.root.sub b (f.sub b hb)⟩) (fun _ h=>h)
    ·cases h
   ·cases h

theorem qP.mono{G G':aA}(hG:Sub G G'){k:AK}{v:Value}{x:k.den}(h:qP P G w k v x):qP P G' w k v x:=by
 cases k with
 |val τ=>exact aT.mono h hG (fun _ h=>h)
 |fn A R=>exact qO.congr h hG (fun _ _=>rfl)
 |sptr τ=>exact gV.congr h hG (fun _ _=>rfl)

theorem cD.mono{G G':aA}(hG:Sub G G'):∀ {ks:List AK} {vs:List Value} {x:aH ks},cD P G w ks vs x->cD P G' w ks vs x
 | [],_,_,h=>h
 |k::ks,vs,x,h=>by
  obtain⟨v,r,h1,h2,h3⟩:=h;exact⟨v,r,h1,h2.mono hG,cD.mono hG h3⟩

theorem i9(hi:aJ P N w0 F0 H env a w F S):∀ {ks:List AK} {vs:List Value} {vws:List aP} {x:aH ks} {b:Bool},
  VsOK P F w env (fun t=>a.tmps.getD t undef) S vs vws->mT ks vws=some (x,b)->cD P (Lvl F S b) w ks vs x
 | [],[],[],x,b,_,h=>rfl
 |k::ks,v::vs,vw::vws,x,b,⟨hv,hvs⟩,h=>by
  simp only[mT]at h;split at h
  ·rename_i y b1 z b2 h1 h2
   simp only[Option.some.injEq,Prod.mk.injEq]at h;obtain⟨rfl,rfl⟩:=h;exact⟨v,vs,rfl,(argE_ok hi hv h1).mono tG.1,(i9 hi hvs h2).mono tG.2⟩
  ·cases h
 | [],[],_::_,_,_,h,_=>h.elim
 |_::_,[],_::_,_,_,h,_=>h.elim
 | [],_::_,[],_,_,h,_=>h.elim
 |_::_,_::_,[],_,_,h,_=>h.elim
 | [],_::_,_::_,_,_,_,h=>by simp[mT]at h
 |_::_,[],[],_,_,_,h=>by simp[mT]at h

theorem mM.mono{G G':aA}(hG:Sub G G'):∀ {A:List Ty} {vs:List Value} {x:sX A},mM G w A vs x->mM G' w A vs x
 | [],_,_,h=>h
 |k::ks,vs,x,h=>by
  obtain⟨v,r,h1,h2,h3⟩:=h;exact⟨v,r,h1,h2.mono hG (fun _ h=>h),mM.mono hG h3⟩

theorem tM(hi:aJ P N w0 F0 H env a w F S):∀ {A:List Ty} {vs:List Value} {vws:List aP} {x:sX A} {b:Bool},
  VsOK P F w env (fun t=>a.tmps.getD t undef) S vs vws->tN A vws=some (x,b)->mM (Lvl F S b) w A vs x
 | [],[],[],x,b,_,h=>rfl
 |t::ts,v::vs,vw::vws,x,b,⟨hv,hvs⟩,h=>by
  simp only[tN]at h;split at h
  ·rename_i y b1 z b2 h1 h2
   simp only[Option.some.injEq,Prod.mk.injEq]at h;obtain⟨rfl,rfl⟩:=h;exact⟨v,vs,rfl,aT.mono (argE_ok (k:= .val t) hi hv h1) tG.1 (fun _ h=>h),(tM hi hvs h2).mono tG.2⟩
  ·cases h
 | [],[],_::_,_,_,h,_=>h.elim
 |_::_,[],_::_,_,_,h,_=>h.elim
 | [],_::_,[],_,_,h,_=>h.elim
 |_::_,_::_,[],_,_,h,_=>h.elim
 | [],_::_,_::_,_,_,_,h=>by simp[tN]at h
 |_::_,[],[],_,_,_,h=>by simp[tN]at h

def mN(P:Program)(N:NP)(w0:World)(F0 H:aA)(a:Act)(w:World)(o:Oper)(d:Nat)(env':St):Prop:=
 ∀(K:Act->World->Prop) (Q:Exit->Act->World->Prop),(∀v w' F2 S2,aJ P N w0 F0 H env' (a.put (some d) v) w' F2 S2->K (a.put (some d) v) w')->o.wp P a w K Q

theorem mN.of_new{o:Oper}{e:Ent}{l:List Nat}(ho:o.dst=some d)(h:oA P N w0 F0 H env a w d (execOp a.eval o) e l):mN P N w0 F0 H a w o d (put (dropAll env l) d e):=by
 obtain⟨v,w',F2,S2,h1,h2⟩:=h
 intro K Q hK
 unfold Oper.wp
 rw[h1,Oper.upon_value,ho]
 exact hK v w' F2 S2 h2

theorem aJ.putTup(hi:aJ P N w0 F0 H env a w F S){τ:Ty}{m:Md}{x:τ.den}{vs:List Value}{w':World}{F' Sd:aA}(hd:Wr N d)(hb:RowKit.Below w.heap.size w w')
  (hF:Sub F F') (hFb:∀b,F' b->b<w'.heap.size) (hFn:∀b,F' b->¬F b->w.heap.size<=b)
  (hS:∀b,Sd b->w.heap.size<=b/\b<w'.heap.size/\¬F' b) (hv:dJ F' w' τ m Sd vs x):
  ∃F2 S2,aJ P N w0 F0 H (Go.Lf.put env d (.tup τ m x)) (a.put (some d) (.tuple vs.toArray)) w' F2 S2:=by
 have hVd:(a.put (some d) (.tuple vs.toArray)).tmps.getD d undef= .tuple vs.toArray:=by rw[Act.getD_put (by rw[hi.slots.size];exact hd.1),if_pos rfl]
 have hi0:=hi.size
 refine⟨F',_,hi.put (Sd:=Sd) hd hb hF hFb ?_ (fun b h=>⟨.inl (by have:=(hS b h).1;omega),(hS b h).2.1,(hS b h).2.2,fun t _ ht=>by have:=(hi.sb t b ht).2.1;have:=(hS b h).1;omega⟩) ?_⟩
 ·intro b h1 h2
  have:=hFn b h1 h2
  exact⟨.inl (by omega),fun t _ ht=>by have:=(hi.sb t b ht).2.1;omega⟩
 ·simp only[aF,if_true,hVd]
  exact⟨vs,rfl,hv⟩

theorem aJ.putSTup(hi:aJ P N w0 F0 H env a w F S){τ:Ty}{x:τ.den}{vs:List Value}{w':World}{F' Sd:aA}(hd:Wr N d)(hb:RowKit.Below w.heap.size w w')
  (hF:Sub F F') (hFb:∀b,F' b->b<w'.heap.size) (hFn:∀b,F' b->¬F b->w.heap.size<=b) (hv:dJ F' w' τ .shr Sd vs x):
  ∃F2 S2,aJ P N w0 F0 H (Go.Lf.put env d (.stup τ x)) (a.put (some d) (.tuple vs.toArray)) w' F2 S2:=by
 have hVd:(a.put (some d) (.tuple vs.toArray)).tmps.getD d undef= .tuple vs.toArray:=by rw[Act.getD_put (by rw[hi.slots.size];exact hd.1),if_pos rfl]
 have hi0:=hi.size
 refine⟨F',_,hi.put (Sd:=none') hd hb hF hFb ?_ (fun _ h=>h.elim) ?_⟩
 ·intro b h1 h2
  have:=hFn b h1 h2
  exact⟨.inl (by omega),fun t _ ht=>by have:=(hi.sb t b ht).2.1;omega⟩
 ·simp only[aF,if_true,hVd]
  exact⟨vs,rfl,hv.shr⟩

theorem aJ.putCall(hi:aJ P N w0 F0 H env a w F S)(hd:Wr N d){G:aA}{multi:Bool}{τ:Ty}{m:Md}{y:τ.den}{e:Ending}{w':World}{b:Bool}(hG:G=Lvl F S b)(hb:(b||eC τ m)=true)(h:mZ G w multi τ m y e w'):
  ∃v F2 S2,e= .returned v/\aJ P N w0 F0 H (Go.Lf.put env d (mkR C d multi τ m y)) (a.put (some d) v) w' F2 S2:=by
 obtain⟨v,F',Sd,h1,h2,h3,h4,h5,h6,h7⟩:=h
 refine⟨v,?_⟩
 cases b with
 |true=>
  have:G=F:=by rw[hG];rfl
  subst this;cases multi with
  |false=>
   obtain⟨F2,S2,hh⟩:=hi.putNew (C:=C) hd h2 h3 (fun b hb=>h5 b (.inl hb)) h4 (fun b hb=>⟨.inl (by have:=(h6 b hb).1;have:=hi.size;omega),h5 b (.inr hb),(h6 b hb).2,fun t ht=>by have:=(hi.sb t b ht).2.1;have:=(h6 b hb).1;omega⟩) h7
   exact⟨F2,S2,h1,hh⟩
  |true=>
   obtain⟨vs,rfl,h7⟩:=h7;unfold mkR;cases hm:dO m
   ·obtain⟨F2,S2,hh⟩:=hi.putTup hd h2 h3 (fun b hb=>h5 b (.inl hb)) h4 (fun b hb=>⟨(h6 b hb).1,h5 b (.inr hb),(h6 b hb).2⟩) h7
    exact⟨F2,S2,h1,hh⟩
   ·have:m= .shr:=by cases m<;>first|rfl|cases hm
    subst this;obtain⟨F2,S2,hh⟩:=hi.putSTup hd h2 h3 (fun b hb=>h5 b (.inl hb)) h4 h7
    exact⟨F2,S2,h1,hh⟩
 |false=>
  simp only[Bool.false_or]at hb;have hFG:Sub F G:=by rw[hG];exact zE
  have hSn:∀b,Sd b->¬F b:=fun b hb h=>(h6 b hb).2 (h3 b (hFG b h))
  cases multi with
  |false=>
   have h7:aT F' w' τ m Sd v y:=h7
   obtain⟨F2,S2,hh⟩:=hi.putNew (C:=C) (F':=F) (Sd:=Sd) hd h2 (fun _ h=>h) (fun b hb=>Nat.lt_of_lt_of_le (hi.fb b hb) h2.size) (fun b h1 h2=>absurd h1 h2)
    (fun b hb=>⟨.inl (by have:=(h6 b hb).1;have:=hi.size;omega),h5 b (.inr hb),hSn b hb,fun t ht=>by have:=(hi.sb t b ht).2.1;have:=(h6 b hb).1;omega⟩) (h7.closed hb)
   exact⟨F2,S2,h1,hh⟩
  |true=>
   obtain⟨vs,rfl,h7⟩:=h7;unfold mkR;cases hm:dO m
   ·obtain⟨F2,S2,hh⟩:=hi.putTup (F':=F) (Sd:=Sd) hd h2 (fun _ h=>h) (fun b hb=>Nat.lt_of_lt_of_le (hi.fb b hb) h2.size) (fun b h1 h2=>absurd h1 h2)
     (fun b hb=>⟨(h6 b hb).1,h5 b (.inr hb),hSn b hb⟩) (h7.closed hb)
    exact⟨F2,S2,h1,hh⟩
   ·have:m= .shr:=by cases m<;>first|rfl|cases hm
    subst this;obtain⟨F2,S2,hh⟩:=hi.putSTup (F':=F) hd h2 (fun _ h=>h) (fun b hb=>Nat.lt_of_lt_of_le (hi.fb b hb) h2.size) (fun b h1 h2=>absurd h1 h2) (h7.closed hb)
    exact⟨F2,S2,h1,hh⟩

theorem zF(hi:aJ P N w0 F0 H env a w F S)(b:Bool):∀k,Lvl F S b k->k<w.heap.size:=by
 intro k hk
 cases b with
 |true=>exact hi.fb k hk
 |false=>
  rcases hk with hk|⟨t,hk⟩
  ·exact hi.fb k hk
  ·exact(hi.sb t k hk).2.1

theorem callE_ok(hC:aG P C)(hi:aJ P C.np w0 F0 H env a w F S)(hd:Wr C.np d){f:FuncId}{args:Array Operand}{ts:Array TypeId}{o:Oper}(ho:o.op= .call {callee:= .value (.func f),args,argTypes:=ts})(hod:o.dst=some d){g:Operand->aP}
  (hf:∀z∈args.toList,aU P F w env (fun t=>a.tmps.getD t undef) S (a.eval z) (g z))
  {c:Prop} {e:Ent} {l:List Nat} (h:callE C d f (args.toList.map g)=some (c,e,l)) (hc:c):mN P C.np w0 F0 H a w o d (put (dropAll env l) d e):=by
 unfold callE at h
 split at h
 ·rename_i s hs
  split at h
  ·rename_i x b hx
   cases hb:(b||eC s.res s.mode)
   ·rw[hb]at h;cases h
   rw[hb]at h;cases hgb:glbB C s.glb
   ·rw[hgb]at h;cases h
   rw[hgb]at h;simp only[Bool.and_self,cond_true,Option.some.injEq,Prod.mk.injEq]at h;obtain⟨rfl,rfl,rfl⟩:=h;obtain⟨k1,k2⟩:=hC.funcs f s hs
   have hargs:=i9 hi (fS hf) hx
   have hcall:=k2 w (Lvl F S b) _ x ((yP hgb hi.glb).congr (fun k hk=>by cases b with|true=>exact hk|false=>exact .inl hk) (fun _ _=>rfl)) (zF hi b) hargs hc
   intro K Q hK;have hrun:(execOp a.eval o).run P w= .ok (.enter f (args.toList.map a.eval).toArray) w:=by
    simp only[execOp,ho,resolve,Sem.run_bind,Act.eval,Deferred.ofValue,Sem.run_pure,Result.andThen,invoke];have:=k1 ((args.toList.map a.eval).toArray) w;rw[<-this]
    congr 1
    congr 1
    apply Array.ext'
    simp
   unfold Oper.wp;rw[hrun,Oper.upon_enter];refine hcall.mono ?_;intro e w' hp;obtain⟨v,F2,S2,rfl,hh⟩:=hi.putCall (C:=C) hd rfl hb hp;rw[hod];exact hK v w' F2 S2 hh
  ·cases h
 ·cases h

theorem callVE_ok(hi:aJ P N w0 F0 H env a w F S)(hd:Wr N d){x:Operand}{args:Array Operand}{ts:Array TypeId}{o:Oper}(ho:o.op= .call {callee:= .value x,args,argTypes:=ts})(hod:o.dst=some d){vx:aP}
  (hx:aU P F w env (fun t=>a.tmps.getD t undef) S (a.eval x) vx) {g:Operand->aP}
  (hf:∀z∈args.toList,aU P F w env (fun t=>a.tmps.getD t undef) S (a.eval z) (g z))
  {c:Prop} {e:Ent} {l:List Nat} (h:callVE C d vx (args.toList.map g)=some (c,e,l)) (hc:c):mN P N w0 F0 H a w o d (put (dropAll env l) d e):=by
 unfold callVE at h
 split at h
 ·rename_i A R gg he
  split at h
  ·rename_i y b hy
   cases hb:(b||R.flat)
   ·rw[hb]at h;cases h
   rw[hb]at h;simp only[cond_true,Option.some.injEq,Prod.mk.injEq]at h;obtain⟨rfl,rfl,rfl⟩:=h;have hsh:=hx.ent (by rw[he];rfl) 0 (by rw[he];simp[Ent.root]);rw[he]at hsh;simp only[aF,if_true]at hsh;obtain⟨f,first,cap,hv,k1,k2⟩:=hsh;have hargs:=tM hi (fS hf) hy;have hcall:=k2 w (Lvl F S b) _ y zE (zF hi b) (fun _ _=>rfl) hargs hc
   intro K Q hK;have hrun:(execOp a.eval o).run P w= .ok (.enter f (first++(args.toList.map a.eval).toArray++cap)) w:=by
    simp only[execOp,ho,resolve,Sem.run_bind,hv,Deferred.ofValue,Sem.run_pure,Result.andThen,invoke];have:=k1 (first++(args.toList.map a.eval).toArray++cap) w;rw[<-this]
    congr 1
    congr 1
    apply Array.ext'
    simp
   unfold Oper.wp;rw[hrun,Oper.upon_enter];refine hcall.mono ?_;intro e w' hp;have hcl:(b||eC R .shr)=true∨R.flat=true:=by
    simp only[Bool.or_eq_true]at hb⊢;exact hb.imp .inl id
   rw[hod];obtain⟨v,F',Sd,h1,h2,h3,h4,h5,h6,h7⟩:=hp;subst h1;have h7:aT F' w' R .shr Sd v (gg.fn y):=h7;have hVd:(a.put (some d) v).tmps.getD d undef=v:=by rw[Act.getD_put (by rw[hi.slots.size];exact hd.1),if_pos rfl]
   cases hfl:R.flat
   ·simp only[hfl,Bool.or_false]at hb
    subst hb;refine hK v w' F' _ (hi.put (Sd:=none') hd h2 h3 (fun b hb=>h5 b (.inl hb)) ?_ (fun _ h=>h.elim) ?_)
    ·intro b q1 q2
     have:=h4 b q1 q2
     have:=hi.size
     exact⟨.inl (by omega),fun t _ ht=>by have:=(hi.sb t b ht).2.1;omega⟩
    ·simp only[aF,hVd]
     obtain⟨cs,q1,q2⟩:=h7;exact⟨cs,q1,Own.shr q2⟩
   ·refine hK v w' F _ (hi.put (Sd:=none') hd h2 (fun _ h=>h) (fun b hb=>Nat.lt_of_lt_of_le (hi.fb b hb) h2.size) (fun b q1 q2=>absurd q1 q2) (fun _ h=>h.elim) ?_)
    simp only[aF,hVd];exact aT.flat hfl h7
  ·cases h
 ·cases h

theorem cloE_ok(hC:aG P C)(hi:aJ P N w0 F0 H env a w F S)(hd:Wr N d){x:Operand}{args:Array Operand}{ts:Array TypeId}{o:Oper}(ho:o.op= .call {callee:= .value x,args,argTypes:=ts})(hod:o.dst=some d){vx:aP}
  (hx:aU P F w env (fun t=>a.tmps.getD t undef) S (a.eval x) vx) {g:Operand->aP}
  (hf:∀z∈args.toList,aU P F w env (fun t=>a.tmps.getD t undef) S (a.eval z) (g z))
  {c:Prop} {e:Ent} {l:List Nat} (h:cloE C vx (args.toList.map g)=some (c,e,l)) (hc:c):mN P N w0 F0 H a w o d (put (dropAll env l) d e):=by
 unfold cloE at h
 split at h
 ·rename_i z s he hs
  split at h
  ·rename_i y b hy
   cases hb:(b||s.R.flat)
   ·rw[hb]at h;cases h
   rw[hb]at h;simp only[cond_true,Option.some.injEq,Prod.mk.injEq]at h;obtain⟨rfl,rfl,rfl⟩:=h;obtain⟨hz,hpre⟩:=hc;obtain⟨z1,rfl⟩:=Option.isSome_iff_exists.1 hz;simp only[Option.getD_some]at hpre⊢;have hsh:=hx.ent (by rw[he];rfl) 0 (by rw[he];simp[Ent.root]);rw[he]at hsh;simp only[aF,if_true]at hsh;obtain⟨cs,hv,caps,hcs,hcap⟩:=hsh;have hv:a.eval x= .func (.func z1.1) #[] caps:=by rw[hv,hcs];rfl
   have hargs:=tM hi (fS hf) hy
   have hsub:∀ {vs l},jG F w vs l->jG (Lvl F S b) w vs l:=fun h=>h.congr zE (fun _ _=>rfl)
   obtain⟨k1,hcall⟩:=hC.clo s hs z1 w (Lvl F S b) caps.toList _ y (zF hi b) (hsub hcap) hargs hpre;intro K Q hK;have hrun:(execOp a.eval o).run P w= .ok (.enter z1.1 (args.toList.map a.eval++caps.toList).toArray) w:=by
    simp only[execOp,ho,resolve,Sem.run_bind,hv,Deferred.ofValue,Sem.run_pure,Result.andThen,invoke];have:=k1 ((args.toList.map a.eval++caps.toList).toArray) w;rw[<-this]
    congr 1
    congr 1
    apply Array.ext'
    simp
   unfold Oper.wp;rw[hrun,Oper.upon_enter];refine hcall.mono ?_;intro e w' hp;rw[hod];obtain⟨v,F',Sd,h1,h2,h3,h4,h5,h6,h7⟩:=hp;subst h1;have h7:aT F' w' s.R .shr Sd v (s.fn z1 y):=h7;have hVd:(a.put (some d) v).tmps.getD d undef=v:=by rw[Act.getD_put (by rw[hi.slots.size];exact hd.1),if_pos rfl]
   cases hfl:s.R.flat
   ·simp only[hfl,Bool.or_false]at hb
    subst hb;refine hK v w' F' _ (hi.put (Sd:=none') hd h2 h3 (fun b hb=>h5 b (.inl hb)) ?_ (fun _ h=>h.elim) ?_)
    ·intro b q1 q2
     have:=h4 b q1 q2
     have:=hi.size
     exact⟨.inl (by omega),fun t _ ht=>by have:=(hi.sb t b ht).2.1;omega⟩
    ·simp only[aF,hVd]
     obtain⟨cs,q1,q2⟩:=h7;exact⟨cs,q1,Own.shr q2⟩
   ·refine hK v w' F _ (hi.put (Sd:=none') hd h2 (fun _ h=>h) (fun b hb=>Nat.lt_of_lt_of_le (hi.fb b hb) h2.size) (fun b q1 q2=>absurd q1 q2) (fun _ h=>h.elim) ?_)
    simp only[aF,hVd];exact aT.flat hfl h7
  ·cases h
 ·cases h
end
end Go.Lf
namespace Go.Lf

deriving instance DecidableEq for AK

def wH:List AK->Nat->Option (List Ty)
 |_,0=>some []
 | .val τ::ks,n+1=>match wH ks n with
  |some A=>some (τ::A)
  |none=>none
 |_,_+1=>none

def joinA:(A:List Ty)->(K:List AK)->sX A->aH K->aH (A.map AK.val++K)
 | [],_,_,y=>y
 |_::A,K,x,y=>(x.1,joinA A K x.2 y)

def castK{ks ks':List AK}(h:ks=ks')(x:aH ks):aH ks':=h▸x

def funE(C:Ctx)(f:FuncId)(caps:List aP):Res:=
 match look C.fns f with
 |some s=>bif s.multi|| !(dO s.mode||s.res.flat)|| !glbB C s.glb then none else match wH s.args (s.args.length-caps.length)with
  |some A=>match mT (s.args.drop A.length) caps with
   |some (y,true)=>if h:A.map AK.val++s.args.drop A.length=s.args then
     some (True,.fn A s.res ⟨fun x=>s.pre (castK h (joinA A _ x y)),fun x=>s.fn (castK h (joinA A _ x y))⟩)else none
   |_=>none
  |none=>none
 |none=>none

section
variable {P:Program} {C:Ctx} {N:NP} {w0:World} {F0 H:aA} {env:St} {a:Act} {w:World} {F:aA} {S:Nat->aA} {d:Nat}

theorem qP.congr{F':aA}{w':World}(hF:Sub F F')(hw:∀b,F b->w'.heap[b]? =w.heap[b]?){k:AK}{v:Value}{x:k.den}(h:qP P F w k v x):qP P F' w' k v x:=by
 cases k with
 |val τ=>exact aT.mono (aT.congr h hw (fun _ h=>h.elim)) hF (fun _ h=>h)
 |fn A R=>exact qO.congr h hF hw
 |sptr τ=>exact gV.congr h hF hw
theorem cD.congr{F':aA}{w':World}(hF:Sub F F')(hw:∀b,F b->w'.heap[b]? =w.heap[b]?):∀ {ks:List AK} {vs:List Value} {x:aH ks},cD P F w ks vs x->cD P F' w' ks vs x
 | [],_,_,h=>h
 |k::ks,vs,x,h=>by
  obtain⟨v,r,h1,h2,h3⟩:=h;exact⟨v,r,h1,h2.congr hF hw,cD.congr hF hw h3⟩

theorem joinA_ok:∀ {A:List Ty} {K:List AK} {vs us:List Value} {x:sX A} {y:aH K},mM F w A vs x->cD P F w K us y->cD P F w (A.map AK.val++K) (vs++us) (joinA A K x y)
 | [],K,vs,us,x,y,h,h2=>by
  have h:vs=[]:=h
  subst h;exact h2
 |t::A,K,vs,us,x,y,h,h2=>by
  obtain⟨v,r,rfl,h1,h3⟩:=h;exact⟨v,r++us,rfl,h1,joinA_ok h3 h2⟩

theorem castK_ok{ks ks':List AK}(h:ks=ks'){vs:List Value}{x:aH ks}(ha:cD P F w ks vs x):cD P F w ks' vs (castK h x):=by
 subst h;exact ha

theorem funE_ok(hC:aG P C)(hi:aJ P C.np w0 F0 H env a w F S){f:FuncId}{caps:Array Operand}{o:Oper}(ho:o.op= .makeFunc (.func f) #[] caps){g:Operand->aP}
  (hg:∀z∈caps.toList,aU P F w env (fun t=>a.tmps.getD t undef) S (a.eval z) (g z))
  {c:Prop} {e:Ent} (h:funE C f (caps.toList.map g)=some (c,e)):c8 P F w env (fun t=>a.tmps.getD t undef) S d (execOp a.eval o) e:=by
 unfold funE at h
 split at h
 ·rename_i s hs
  cases hb:(s.multi|| !(dO s.mode||s.res.flat)|| !glbB C s.glb)
  ·rw[hb]at h
   simp only[cond_false]at h;split at h
   ·rename_i A hA
    split at h
    ·rename_i y hy
     split at h
     ·rename_i heq
      simp only[Option.some.injEq,Prod.mk.injEq]at h;obtain⟨rfl,rfl⟩:=h;have hcaps:=i9 hi (fS hg) hy;obtain⟨k1,k2⟩:=hC.funcs f s hs
      simp only[Bool.or_eq_false_iff,Bool.not_eq_false',Bool.or_eq_true]at hb;refine⟨.func (.func f) #[] (caps.map a.eval),by simp[execOp,ho,Instr.makeFunc],rfl,fun _=> ?_⟩
      show qO P F w (if d=d then .func (.func f) #[] (caps.map a.eval)else a.tmps.getD d undef) A s.res _
      rw[if_pos rfl];refine⟨f,#[],caps.map a.eval,rfl,k1,?_⟩;intro w' F' vs xs h1 h2 h3 h4 h5;have hargs:=castK_ok heq (joinA_ok h4 (hcaps.congr (w':=w') h1 h3));have hcall:=k2 w' F' _ _ ((yP hb.2 hi.glb).congr h1 h3) h2 hargs h5;have e1:(vs++List.map a.eval caps.toList).toArray= #[]++vs.toArray++caps.map a.eval:=by
       apply Array.ext';simp
      rw[e1]at hcall;refine hcall.mono ?_;rintro e w2 ⟨v,F2,S2,q1,q2,q3,q4,q5,q6,q7⟩;rw[hb.1.1]at q7;refine⟨v,F2,S2,q1,q2,q3,q4,q5,q6,?_⟩;rcases hb.1.2 with hm|hm
      ·have:s.mode= .shr:=by cases hmm:s.mode<;>first|rfl|(rw[hmm]at hm;cases hm)
       rw[this]at q7;exact q7
      ·have q7:aT F2 w2 s.res s.mode S2 v _:=q7
       exact aT.flat hm q7
     ·cases h
    ·cases h
   ·cases h
  ·rw[hb]at h;cases h
 ·cases h
def fnAs(C:Ctx)(f:FuncId)(v:aP):aP:=match funE C f []with
  |some (_,.fn A R g)=>⟨.fn A R g,.dead,none⟩
  |_=>v
def fnOf:Ent->Option FuncId
 | .shr τ x=>match(τ:Ty),(x:τ.den)with
  | .abs .clo,some (f,[])=>some f
  |_,_=>none
 |_=>none
def yV(C:Ctx)(z:Operand)(v:aP):aP:=match z with
 | .func f=>fnAs C f v
 | .tmp _=>match fnOf v.e with
  |some f=>fnAs C f v
  |none=>v
 |_=>v

theorem fnAs_ok(hC:aG P C)(hi:aJ P C.np w0 F0 H env a w F S){z:Operand}{v:aP}{f:FuncId}(hz:a.eval z= .func (.func f) #[] #[])(h:aU P F w env (fun t=>a.tmps.getD t undef) S (a.eval z) v):
  aU P F w env (fun t=>a.tmps.getD t undef) S (a.eval z) (fnAs C f v):=by
 unfold fnAs
 split
 ·rename_i c A R g hf
  refine⟨fun _ d _=> ?_,fun h=>(by cases h),rfl⟩
  obtain⟨v',h1,h2,h3⟩:=funE_ok (d:=d) hC hi (f:=f) (caps:= #[]) (o:={op:= .makeFunc (.func f) #[] #[],dst:=some d,type:=default,pos:=default,after:= #[],guard:=none}) rfl (g:=fun _=>v) (by simp) (by simpa using hf)
  have e1:v'=a.eval z:=by
   simp[execOp,Instr.makeFunc]at h1
   rw[<-h1,hz]
  subst e1;exact h3 (by simp[Ent.root])
 ·exact h
theorem fnView_ok(hC:aG P C)(hi:aJ P C.np w0 F0 H env a w F S){z:Operand}{v:aP}(h:aU P F w env (fun t=>a.tmps.getD t undef) S (a.eval z) v):
  aU P F w env (fun t=>a.tmps.getD t undef) S (a.eval z) (yV C z v):=by
 unfold yV
 split
 ·rename_i f
  exact fnAs_ok hC hi rfl h
 ·rename_i t
  split
  ·rename_i f hf
   refine fnAs_ok hC hi ?_ h
   obtain⟨e,r,s⟩:=v;cases e with
   |shr τ x=>
    have hroot:(Ent.shr τ x).root≠some 0:=by simp[Ent.root]
    have he:=h.ent rfl 0 hroot
    simp only[aF,if_true]at he;unfold fnOf at hf
    dsimp only at hf
    split at hf
    ·rename_i f'
     injection hf with hf;subst hf;obtain⟨cs,h1,h2⟩:=he;obtain⟨caps,h3,h4⟩:=h2;subst h3;have h4:jG F w caps.toList []:=h4;have hc:caps= #[]:=by
      obtain⟨l⟩:=caps;cases l with
      |nil=>rfl
      |cons c l=>obtain⟨n,r,h,_⟩:=h4;cases h
     subst hc;exact h1
    ·cases hf
   |_=>cases hf
  ·exact h
 ·exact h
end
end Go.Lf
namespace Go.Lf
def cutE(C:Ctx)(T:TypeId)(vx:aP)(hi:Option aP):Res:=
 match pJ none hi,vx.sub? with
 |some (some h),some l=>match aN l.p l.τ l.x,bI l.p l.τ l.m with
  |some ⟨.slice e,xs⟩,some (.own me)=>bif decide (look C.tys T=some (.slice e))then some (vW 0 h (List.length xs),.pend l.r l.p e me (List.take h.toNat xs))else none
  |_,_=>none
 |_,_=>none
section
variable {P:Program} {C:Ctx} {N:NP} {w0:World} {F0 H:aA} {env:St} {a:Act} {w:World} {F:aA} {S:Nat->aA} {d:Nat}
theorem fH.out{E:Ent}{V:Value}{Sx:aA}{τ:Ty}{m:Md}{x:τ.den}{pl:aK}{S0:aA}{cs:List Value}(h:fH F w Sx V E τ m x pl S0 cs){k:Nat}(hk:S0 k):¬pl.isB k:=by
 rcases h.1 with⟨_,h1,_,_⟩|⟨_,b,h1,h2,_,_⟩
 ·rw[h1];exact fun h=>h
 ·rw[h1]
  rw[h2]at hk;exact fun e=>hk.2 e
theorem cutE_ok(hC:aG P C)(hi:aJ P N w0 F0 H env a w F S){T:TypeId}{x:Operand}{hig:Option Operand}{o:Oper}(ho:o.op= .slice T x none hig none){f:Operand->aP}
  (hf:∀z∈o.op.operands,aU P F w env (fun t=>a.tmps.getD t undef) S (a.eval z) (f z))
  {c:Prop} {e:Ent} (h:cutE C T (f x) (hig.map f)=some (c,e)) (hc:c):c8 P F w env (fun t=>a.tmps.getD t undef) S d (execOp a.eval o) e:=by
 have hrun:∀(v:Value),(Instr.sliceAt T (a.eval x) none (hig.map a.eval) none).run P w= .ok v w->(execOp a.eval o).run P w= .ok (.value v) w:=by
  intro v hv;simp only[execOp,ho];rw[Sem.run_bind];simp only[Option.map_none];rw[hv];rfl
 have hx:aU P F w env (fun t=>a.tmps.getD t undef) S (a.eval x) (f x):=hf x (by rw[ho];simp[Op.operands])
 unfold cutE at h
 split at h
 rotate_left
 ·cases h
 rename_i hh l h1 hal
 split at h
 rotate_left
 ·cases h
 rename_i e' xs me hg hm
 cases hT:decide (look C.tys T=some (.slice e'))
 ·rw[hT]at h;cases h
 have hT':=of_decide_eq_true hT
 simp only[hT,cond_true,Option.some.injEq,Prod.mk.injEq]at h
 obtain⟨rfl,rfl⟩:=h
 obtain⟨k,b2⟩:∃k,hig.map a.eval=some (.int k hh):=by
  rcases sM h1 with⟨g1,g2⟩|⟨v,k,i,g1,g2,g3⟩
  ·cases g2
  ·cases hig with
   |none=>cases g1
   |some z=>
    simp only[Option.map_some,Option.some.injEq]at g1;subst g1;injection g3 with g3;subst g3;obtain⟨e1,_⟩:=(aP.val_ok hi (hf z (by rw[ho];simp[Op.operands])) g2).int_eq;exact⟨k,by simp[e1]⟩
 obtain⟨σ,z,μ,pl,S0,cs,pl',cs',hA,hrd,hva⟩:=kD hi hx hal
 obtain⟨cs2,S2,fo⟩:=hA.focus (fun b hb=>(hi.sb _ b hb).2.2)
 have e5:=fo.ok.read.symm.trans hrd
 simp only[Option.some.injEq]at e5;subst e5
 have e3:=hA.get.symm.trans hg
 simp only[Option.some.injEq,Sigma.mk.injEq]at e3
 obtain⟨rfl,e3⟩:=e3;cases e3
 have e4:=hA.mode.symm.trans hm
 simp only[Option.some.injEq]at e4;subst e4
 obtain⟨w1,w2,w3⟩:=hc
 obtain⟨ao,cap,hcs,q1,q2,q3⟩:=fo.own
 obtain⟨E,t1,t2,t3⟩:=(hC.types T _ hT').slice
 have hs:=(hC.types E _ t2).run_size w
 have hb:=jC (P:=P) (w:=w) (List.length xs) cap none (hig.map a.eval) none 0 hh cap (.inl ⟨rfl,rfl⟩) (.inr ⟨k,b2⟩) (.inl ⟨rfl,rfl⟩) w1 w2 (by omega) (by omega)
 have hlen:(List.take hh.toNat xs).length=hh.toNat:=by rw[List.length_take];omega
 have hv:a.eval x= .slice ao (List.length xs) cap:=by rw[hva,hcs];rfl
 have hao:ao.map (·.add 0)=ao:=by
  cases ao with
  |none=>rfl
  |some a0=>obtain⟨b,off,spot⟩:=a0;simp[Addr.add]
 have hr:(Instr.sliceAt T (a.eval x) none (hig.map a.eval) none).run P w= .ok (.slice ao hh.toNat cap) w:=by
  rw[hv];simp[Instr.sliceAt,Instr.slice,run_underlying t1,hb,hs,hao]
 refine⟨_,hrun _ hr,rfl,fun hne=> ?_⟩
 have hrd':l.r≠d:=fun e=>hne (by simp[Ent.root,e])
 simp only[aF,if_true,if_neg hrd']
 refine⟨l.τ,l.m,l.x,pl,S0,cs,xs,pl',S2,S2,[.slice ao hh.toNat cap],hA.root,fo.toPlug,hA.mode,hA.inr,hA.get,rfl,?_,fun k hk=>hA.root.sub k (fo.sub k hk),fun k hk=>⟨fun h=>h.2 hk,hA.root.out (fo.sub k hk)⟩⟩
 refine⟨ao,cap,by rw[hlen],by omega,by omega,?_⟩
 rcases q3 with q3|⟨b,off,row,T0,Si,r1,r2,r3,r4,r5,r6,r7,r8⟩
 ·exact .inl q3
 ·right
  refine⟨b,off,row,T0,Si,r1,r2,r3,r4,r5,r6,r7,fun i y hy=>r8 i y ?_⟩
  rw[List.getElem?_take]at hy;split at hy
  ·exact hy
  ·cases hy
end
end Go.Lf
namespace Go.Lf

def pB(e:Ent)(d:Nat):Bool:=match e.root with
 |some r=>Nat.beq r d
 |none=>false

def fZ(d:Nat)(r:Res):qN:=match r with
 |some (c,e)=>bif pB e d then none else some (c,e,[])
 |none=>none

def extE(v:aP)(k:Nat):Res:=
 match v.e with
 | .tup τ m x=>match aN (aZ k) τ x,bI (aZ k) τ m with
  |some ⟨σ,y⟩,some μ=>bif σ.flat||dO μ then some (True,.shr σ y)else none
  |_,_=>none
 | .stup τ x=>match aN (aZ k) τ x,bI (aZ k) τ .shr with
  |some ⟨σ,y⟩,some .shr=>some (True,.shr σ y)
  |_,_=>none
 |_=>none

def assignE(v:aP):Res:=
 match v.e with
 | .own _ _ _=>none
 | .tup _ _ _=>none
 | .pend _ _ _ _ _=>none
 |_=>kH v

def asnE(C:Ctx)(d:Nat)(v:aP):qN:=
 match v.e,v.s with
 | .own τ m y,some t=>some (True,mkE C d τ m y,[t])
 |_,_=>none

def wX:List aP->Option (List Int)
 | []=>some []
 |v::vs=>match v.e,wX vs with
  | .saddr τ x,some l=>(bY (τ:=τ) (σ:= .int .i64) x).map fun n=>n::l
  |_,_=>none
def thkE(C:Ctx)(f:FuncId):List aP->Res
 |v::vs=>match v.e,C.pin,wX vs with
  | .pp r,some s,some l=>bif Nat.beq r s then some (True,.shr (.abs .thk) (some (C.q,f,l)))else none
  |_,_,_=>none
 | []=>none
def mkFunE(C:Ctx)(f:FuncId)(vs:List aP):Res:=match thkE C f vs with
 |some r=>some r
 |none=>match funE C f vs with
  |some r=>some r
  |none=>match wX vs with
   |some l=>some (True,.shr (.abs .clo) (some (f,l)))
   |none=>none

def min3E(vx vy vz:aP):Res:=
 match vx.val,vy.val,vz.val with
 |some ⟨.int k,x⟩,some ⟨.int k',y⟩,some ⟨.int k'',z⟩=>bif decide (k=k')&&decide (k=k'')then some (True,.shr (.int k) (min (min x y) z))else none
 |_,_,_=>none

def callN(C:Ctx)(d:Nat)(c:Call)(f:Operand->aP):qN:=
 match c.callee with
 | .builtin .len=>match c.args.toList,c.argTypes.toList with
  | [x],[T]=>fZ d (lenTE C T (f x))
  |_,_=>none
 | .builtin .min=>match c.args.toList with
  | [x,y]=>fZ d (s9 false (f x) (f y))
  | [x,y,z]=>fZ d (min3E (f x) (f y) (f z))
  |_=>none
 | .builtin .max=>match c.args.toList with
  | [x,y]=>fZ d (s9 true (f x) (f y))
  |_=>none
 | .builtin .append=>match c.args.toList,c.argTypes.toList with
  | [x,y],[T,T2]=>match(f x).e with
   | .sub _ _=>none
   |_=>zA C d T T2 (f x) (f y)
  |_,_=>none
 | .value (.func g)=>callE C d g (c.args.toList.map fun z=>yV C z (f z))
 | .value x=>match cloE C (f x) (c.args.toList.map f)with
  |some r=>some r
  |none=>callVE C d (f x) (c.args.toList.map f)
 |_=>none

def opE(C:Ctx)(o:Oper)(f:Operand->aP):qN:=
 match o.dst with
 |none=>none
 |some d=>bif wrB C d then
   (match o.op with
   | .move x=>bif eD C.asn d then asnE C d (f x)else fZ d (kH (f x))
   | .assign x=>bif eD C.asn d then asnE C d (f x)else fZ d (assignE (f x))
   | .pick c x y=>fZ d (pickE (f c) (f x) (f y))
   | .binOp op T x y _=>fZ d (binE C d op T (f x) (f y))
   | .unOp op _ x=>fZ d (unE C d op (f x))
   | .convert s t x=>fZ d (convE C s t (f x))
   | .load T x=>bif eD C.mvs d then none else fZ d (loadE C T (f x))
   | .fieldAddr T x k=>fZ d (tD C T (f x) k)
   | .field T x k=>fZ d (fieldE C T (f x) k)
   | .indexAddr T x y=>fZ d (yN C T (f x) (f y))
   | .index T x y=>fZ d (idxE C T (f x) (f y))
   | .slice T x lo hi mx=>bif eD C.cuts d then(match lo,mx with
    |none,none=>fZ d (cutE C T (f x) (hi.map f))
    |_,_=>none)else fZ d (sliceE C T (f x) (lo.map f) (hi.map f) (mx.map f))
   | .nilCheck x=>fZ d (nilE (f x))
   | .extract x k=>fZ d (extE (f x) k)
   | .alloc T=>allocE C d T
   | .box T x=>boxE C d T (f x)
   | .build T ps=>y7 C d T ps.toList f
   | .buildSlice T len ps=>litE C d T len ps.toList f
   | .makeSlice T l c=>makeE C d T (f l) (f c)
   | .call c=>callN C d c f
   | .makeFunc (.func g) first caps=>bif Nat.beq first.size 0 then fZ d (mkFunE C g (caps.toList.map f))else none
   |_=>none)else none

def VOK(P:Program)(F:aA)(w:World)(env:St)(a:Act)(S:Nat->aA)(op:Op)(f:Operand->aP):Prop:=
 match op with
 | .pick c x y=>aU P F w env (fun t=>a.tmps.getD t undef) S (a.eval c) (f c)/\
   (∀b,(f c).val=some ⟨.bool,b⟩->b=true->aU P F w env (fun t=>a.tmps.getD t undef) S (a.eval x) (f x))/\
   (∀b,(f c).val=some ⟨.bool,b⟩->b=false->aU P F w env (fun t=>a.tmps.getD t undef) S (a.eval y) (f y))
 |op=>∀z∈op.operands,aU P F w env (fun t=>a.tmps.getD t undef) S (a.eval z) (f z)

section
variable {P:Program} {C:Ctx} {w0:World} {F0 H:aA} {env:St} {a:Act} {w:World} {F:aA} {S:Nat->aA} {d:Nat}

theorem asnE_ok(hi:aJ P C.np w0 F0 H env a w F S)(hd:Wr C.np d){x:Operand}{o:Oper}(hop:o.op= .assign x∨o.op= .move x){vw:aP}(hv:aU P F w env (fun t=>a.tmps.getD t undef) S (a.eval x) vw)
  {c:Prop} {e:Ent} {l:List Nat} (h:asnE C d vw=some (c,e,l)):oA P C.np w0 F0 H env a w d (execOp a.eval o) e l:=by
 unfold asnE at h
 split at h
 ·rename_i τ m y t he hs
  simp only[Option.some.injEq,Prod.mk.injEq]at h;obtain⟨_,rfl,rfl⟩:=h;obtain⟨t',g1,g2,hval⟩:=hv.own (by rw[he];rfl);rw[hs]at g1;injection g1 with g1;subst g1;have h3:=hi.ent t;rw[g2,he]at h3;obtain⟨pl,S0,cs,h3⟩:=h3;obtain⟨_,_,e3,e4,e5⟩:=h3.own_inj;subst e4;have hown:aT F w τ m (S t) (a.eval x) y:=by rw[hval];exact⟨cs,e5,h3.2.2⟩
  have key:∃F2 S2,aJ P C.np w0 F0 H (Go.Lf.put (Go.Lf.drop env t) d (mkE C d τ m y)) (a.put (some d) (a.eval x)) w F2 S2:=by
   refine(hi.drop t).putNew hd (RowKit.Below.refl _ _) (fun _ h=>h) hi.fb (fun b h1 h2=>absurd h1 h2) ?_ hown
   intro b hb;obtain⟨h1,h2,h3⟩:=hi.sb t b hb;refine⟨h1,h2,h3,fun u hu=> ?_⟩
   by_cases h:u=t
   ·simp[h]at hu;exact hu
   ·simp only[h,if_false]at hu
    exact hi.sd u t h b hu hb
  obtain⟨F2,S2,hk⟩:=key;exact⟨_,w,F2,S2,by rcases hop with hop|hop<;>simp[execOp,hop],hk⟩
 ·cases h

theorem oJ{e:Ent}{d:Nat}(h:pB e d=false):e.root≠some d:=by
 unfold pB at h
 intro he
 rw[he]at h
 simp at h

theorem dD(hi:aJ P C.np w0 F0 H env a w F S)(hd:Wr C.np d){o:Oper}(hod:o.dst=some d){r:Res}{c:Prop}{e:Ent}{l:List Nat}(h:fZ d r=some (c,e,l))(hc:c)
  (hr:∀c' e',r=some (c',e')->c'->c8 P F w env (fun t=>a.tmps.getD t undef) S d (execOp a.eval o) e'):mN P C.np w0 F0 H a w o d (put (dropAll env l) d e):=by
 unfold fZ at h
 cases r with
 |none=>cases h
 |some q=>
  obtain⟨c',e'⟩:=q;simp only[]at h;cases hk:pB e' d
  ·rw[hk]at h
   simp only[cond_false,Option.some.injEq,Prod.mk.injEq]at h;obtain⟨rfl,rfl,rfl⟩:=h;exact .of_new hod (.of_pure hi hd (hr _ _ rfl hc) (oJ hk))
  ·rw[hk]at h;cases h

theorem dJ.comp:∀(k:Nat) {τ:Ty} {m:Md} {S:aA} {vs:List Value} {x:τ.den} {σ:Ty} {y:σ.den} {μ:Md},dJ F w τ m S vs x->aN (aZ k) τ x=some ⟨σ,y⟩->bI (aZ k) τ m=some μ->
  ∃v S',vs[k]? =some v/\aT F w σ μ S' v y
 |0,.prod A B,m,S,vs,x,σ,y,μ,h,hg,hm=>by
  obtain⟨v,r,S1,S2,rfl,_,_,_,h1,h2⟩:=h;simp only[aZ,aN,Option.some.injEq,Sigma.mk.injEq]at hg;obtain⟨rfl,hg⟩:=hg;cases hg;simp only[aZ,bI,Option.some.injEq]at hm;subst hm;exact⟨v,S1,rfl,h1⟩
 |k+1,.prod A B,m,S,vs,x,σ,y,μ,h,hg,hm=>by
  obtain⟨v,r,S1,S2,rfl,_,_,_,h1,h2⟩:=h;obtain⟨v',S',q1,q2⟩:=dJ.comp k h2 hg hm;exact⟨v',S',by simpa using q1,q2⟩
 |k,.unit,_,_,_,_,_,_,_,_,hg,_=>by cases k<;>simp[aZ,aN]at hg
 |_,.int _,_,_,_,_,_,_,_,h,_,_=>h.elim
 |_,.bool,_,_,_,_,_,_,_,h,_,_=>h.elim
 |_,.str,_,_,_,_,_,_,_,h,_,_=>h.elim
 |_,.abs _,_,_,_,_,_,_,_,h,_,_=>h.elim
 |_,.slice _,_,_,_,_,_,_,_,h,_,_=>h.elim
 |_,.arr _ _,_,_,_,_,_,_,_,h,_,_=>h.elim

theorem extE_ok(hi:aJ P C.np w0 F0 H env a w F S){x:Operand}{k:Nat}{o:Oper}(ho:o.op= .extract x k){vx:aP}
  (hx:aU P F w env (fun t=>a.tmps.getD t undef) S (a.eval x) vx)
  {c:Prop} {e:Ent} (h:extE vx k=some (c,e)) (hc:c):c8 P F w env (fun t=>a.tmps.getD t undef) S d (execOp a.eval o) e:=by
 unfold extE at h
 split at h
 ·rename_i τ m y he
  split at h
  ·rename_i σ z μ hg hm
   cases hk:(σ.flat||dO μ)
   ·rw[hk]at h;cases h
   rw[hk]at h;simp only[cond_true,Option.some.injEq,Prod.mk.injEq]at h;obtain⟨rfl,rfl⟩:=h;obtain⟨t,h1,h2,h3⟩:=hx.own (by rw[he];rfl);have h4:=hi.ent t;rw[h2,he]at h4;obtain⟨vs,h5,h6⟩:=h4;obtain⟨v,S',q1,q2⟩:=dJ.comp k h6 hg hm;refine⟨v,?_,rfl,fun _=> .mk_shr ?_⟩
   ·simp[execOp,ho,h3,h5,Instr.extract,q1]
   ·simp only[Bool.or_eq_true]at hk
    rcases hk with hk|hk
    ·exact aT.flat hk q2
    ·have:μ= .shr:=by cases μ<;>first|rfl|cases hk
     subst this;obtain⟨cs,g1,g2⟩:=q2;exact⟨cs,g1,Own.shr g2⟩
  ·cases h
 ·rename_i τ y he
  split at h
  ·rename_i σ z hg hm
   simp only[Option.some.injEq,Prod.mk.injEq]at h;obtain⟨rfl,rfl⟩:=h;have h4:=hx.ent (by rw[he];rfl) 0 (by rw[he];simp[Ent.root]);rw[he]at h4;simp only[aF,if_true]at h4;obtain⟨vs,h5,h6⟩:=h4;obtain⟨v,S',q1,q2⟩:=dJ.comp k h6 hg hm;refine⟨v,?_,rfl,fun _=> .mk_shr ?_⟩
   ·simp[execOp,ho,h5,Instr.extract,q1]
   ·obtain⟨cs,g1,g2⟩:=q2
    exact⟨cs,g1,Own.shr g2⟩
  ·cases h
 ·cases h

theorem inK_max{k:IntKind}{m n:Int}(h1:inK k m)(h2:inK k n):inK k (max m n)/\(if n>m then n else m)=max m n:=by
 unfold inK at *;constructor<;>omega
theorem mB{k:IntKind}{m n:Int}(h1:inK k m)(h2:inK k n):inK k (min m n)/\(if n<m then n else m)=min m n:=by
 unfold inK at *;constructor<;>omega

theorem uP(hi:aJ P C.np w0 F0 H env a w F S){mx:Bool}{x y:Operand}{ts:Array TypeId}{o:Oper}(ho:o.op= .call {callee:= .builtin (bif mx then .max else .min),args:= #[x,y],argTypes:=ts}){vx vy:aP}
  (hx:aU P F w env (fun t=>a.tmps.getD t undef) S (a.eval x) vx) (hy:aU P F w env (fun t=>a.tmps.getD t undef) S (a.eval y) vy)
  {c:Prop} {e:Ent} (h:s9 mx vx vy=some (c,e)) (hc:c):c8 P F w env (fun t=>a.tmps.getD t undef) S d (execOp a.eval o) e:=by
 unfold s9 at h
 split at h
 ·rename_i k m k' n h1 h2
  cases hk:decide (k=k')
  ·rw[hk]at h;cases h
  have hk':=of_decide_eq_true hk
  subst hk';simp only[hk,cond_true,Option.some.injEq,Prod.mk.injEq]at h;obtain⟨rfl,rfl⟩:=h;obtain⟨e1,r1⟩:=(aP.val_ok hi hx h1).int_eq;obtain⟨e2,r2⟩:=(aP.val_ok hi hy h2).int_eq;cases mx with
  |true=>
   have hr:(execOp a.eval o).run P w= .ok (.value (.int k (if(n:Int)>m then n else m))) w:=by
    simp only[execOp,ho,resolve,invoke,builtin,Sem.run_bind,Sem.run_pure,Result.andThen,List.map_toArray,List.map_cons,List.map_nil,cond_true,e1,e2];rw[run_max_int2 w ts o.type k k m n]
   rw[(inK_max r1 r2).2]at hr;exact .int hr (inK_max r1 r2).1
  |false=>
   have hr:(execOp a.eval o).run P w= .ok (.value (.int k (if(n:Int)<m then n else m))) w:=by
    simp only[execOp,ho,resolve,invoke,builtin,Sem.run_bind,Sem.run_pure,Result.andThen,List.map_toArray,List.map_cons,List.map_nil,cond_false,e1,e2];rw[run_min_int2 w ts o.type k k m n]
   rw[(mB r1 r2).2]at hr;exact .int hr (mB r1 r2).1
 ·cases h

theorem min3E_ok(hi:aJ P C.np w0 F0 H env a w F S){x y z:Operand}{ts:Array TypeId}{o:Oper}(ho:o.op= .call {callee:= .builtin .min,args:= #[x,y,z],argTypes:=ts}){vx vy vz:aP}
  (hx:aU P F w env (fun t=>a.tmps.getD t undef) S (a.eval x) vx) (hy:aU P F w env (fun t=>a.tmps.getD t undef) S (a.eval y) vy) (hz:aU P F w env (fun t=>a.tmps.getD t undef) S (a.eval z) vz)
  {c:Prop} {e:Ent} (h:min3E vx vy vz=some (c,e)) (hc:c):c8 P F w env (fun t=>a.tmps.getD t undef) S d (execOp a.eval o) e:=by
 unfold min3E at h
 split at h
 ·rename_i k m k' n k'' l h1 h2 h3
  cases hk:(decide (k=k')&&decide (k=k''))
  ·rw[hk]at h;cases h
  rw[Bool.and_eq_true]at hk;have hk':=of_decide_eq_true hk.1;have hk'':=of_decide_eq_true hk.2;subst hk';subst hk'';simp only[hk.1,Bool.and_self,cond_true,Option.some.injEq,Prod.mk.injEq]at h;obtain⟨rfl,rfl⟩:=h;obtain⟨e1,r1⟩:=(aP.val_ok hi hx h1).int_eq;obtain⟨e2,r2⟩:=(aP.val_ok hi hy h2).int_eq;obtain⟨e3,r3⟩:=(aP.val_ok hi hz h3).int_eq;have hr0:(Builtin.min_ ts o.type #[.int k m,.int k n,.int k l]).run P w= .ok (.int k (if l<(if n<m then n else m)then l else(if n<m then n else m))) w:=by simp[Builtin.min_,Builtin.min2]
  have hr:(execOp a.eval o).run P w= .ok (.value (.int k (if l<(if n<m then n else m)then l else(if n<m then n else m)))) w:=by
   simp only[execOp,ho,resolve,invoke,builtin,Sem.run_bind,Sem.run_pure,Result.andThen,List.map_toArray,List.map_cons,List.map_nil,e1,e2,e3];rw[hr0]
  rw[(mB r1 r2).2,(mB (mB r1 r2).1 r3).2]at hr;exact .int hr (mB (mB r1 r2).1 r3).1
 ·cases h

theorem d8{t:Nat}{l:List Nat}(h:bQ (t::l)=true):t∉l/\bQ l=true:=by
 simp only[bQ,Bool.and_eq_true,Bool.not_eq_true']at h
 exact⟨fun hh=>by rw[fF.2 hh]at h;exact absurd h.1 (by simp),h.2⟩

theorem appendE_ok(hC:aG P C)(hi:aJ P C.np w0 F0 H env a w F S)(hd:Wr C.np d){x y:Operand}{T T2:TypeId}{o:Oper}(ho:o.op= .call {callee:= .builtin .append,args:= #[x,y],argTypes:= #[T,T2]}){vx vy:aP}
  (hx:aU P F w env (fun t=>a.tmps.getD t undef) S (a.eval x) vx) (hy:aU P F w env (fun t=>a.tmps.getD t undef) S (a.eval y) vy) (hns:∀r p,vx.e≠ .sub r p)
  {c:Prop} {e:Ent} {l:List Nat} (h:zA C d T T2 vx vy=some (c,e,l)) (hc:c):oA P C.np w0 F0 H env a w d (execOp a.eval o) e l:=by
 have hrun:∀ {v:Value} {w':World},(Builtin.append_ #[T,T2] o.type #[a.eval x,a.eval y]).run P w= .ok v w'->(execOp a.eval o).run P w= .ok (.value v) w':=by
  intro v w' hv;simp only[execOp,ho,resolve,invoke,builtin,Sem.run_bind,Sem.run_pure,Result.andThen,List.map_toArray,List.map_cons,List.map_nil];rw[hv]
 unfold zA at h
 split at h
 ·rename_i e' e2 hT hT2
  split at h
  ·rename_i e1 me xs t he hs
   split at h
   ·rename_i xs' ys l' hcast hsrc
    cases hn:bQ (t::l')
    ·rw[hn]at h;cases h
    rw[hn]at h;simp only[cond_true,Option.some.injEq,Prod.mk.injEq]at h;obtain⟨rfl,rfl,rfl⟩:=h;obtain⟨rfl,rfl⟩:=dZ hcast;obtain⟨t',g1,g2,g3⟩:=hx.own (by rw[he];rfl);rw[hs]at g1;injection g1 with g1;subst g1;have h3:=hi.ent t;rw[g2,he]at h3;obtain⟨pl,S0,cs,h3⟩:=h3;obtain⟨_,_,e3,e4,e5⟩:=h3.own_inj;subst e4;have hO:aT F w (.slice e1) (.own me) (S t) (a.eval x) xs':=⟨cs,g3.trans e5,h3.2.2⟩;obtain⟨ao,n,cap,cs1,Si,q,hgr⟩:=eV.of_own (P:=P) hO;obtain⟨ao2,n2,cap2,cs2,Si2,me',q2,hm2⟩:=pU hi hy hsrc;obtain⟨hnt,_⟩:=d8 hn;obtain⟨v,w',F2,S2,k1,k2⟩:=nZ (C:=C) (ty:=o.type) hC hi hd hT hT2 q (q2.fix hm2) (hgr.imp id fun h=> .inr h) hn
     (fun b hb=>⟨t,by simp,hb⟩) (fun b ⟨u,hu,hb⟩=>⟨u,by simp[hu],hb⟩) (fun b hb ⟨u,hu,hb'⟩=>hi.sd t u (fun h=>hnt (h▸hu)) b hb hb') (by simpa using hc)
    exact⟨v,w',F2,S2,hrun k1,k2⟩
   ·cases h
  ·rename_i _ he
   split at h
   ·rename_i ys l' hsrc
    cases hn:bQ l'
    ·rw[hn]at h;cases h
    rw[hn]at h;simp only[cond_true,Option.some.injEq,Prod.mk.injEq]at h;obtain⟨rfl,rfl,rfl⟩:=h;have hsh:=hx.ent (by rw[he];rfl) 0 (by rw[he];simp[Ent.root]);rw[he]at hsh;simp only[aF,if_true]at hsh;obtain⟨ao2,n2,cap2,cs2,Si2,me',q2,hm2⟩:=pU hi hy hsrc;have q:eV P none' none' F w e' (elM (lJ C d (.own .shr))) (a.eval x) 0 0 none [] [] (fun _=>none'):=
     ⟨hsh,rfl,Nat.le_refl _,by simp[lim],by simp,fun w' _=>by rw[hsh];simp[Builtin.firstCells],fun _ _ h=>h.elim,fun _ _ _ _ h=>h.elim,fun i x hx=>by simp at hx⟩
    obtain⟨v,w',F2,S2,k1,k2⟩:=nZ (C:=C) (ty:=o.type) hC hi hd hT hT2 q (q2.fix hm2) (.inl ⟨rfl,rfl⟩) hn
     (fun b hb=>hb.elim) (fun b hb=>hb) (fun b hb=>hb.elim) (by simpa using hc)
    exact⟨v,w',F2,S2,hrun k1,by simpa using k2⟩
   ·cases h
  ·rename_i e1 xs he
   split at h
   ·rename_i xs' ys l' hcast hsrc
    cases hn:bQ l'
    ·rw[hn]at h;cases h
    rw[hn]at h;simp only[cond_true,Option.some.injEq,Prod.mk.injEq]at h;obtain⟨rfl,rfl,rfl⟩:=h;obtain⟨rfl,rfl⟩:=dZ hcast;have hsh:=hx.ent (by rw[he];rfl) 0 (by rw[he];simp[Ent.root]);rw[he]at hsh;simp only[aF,if_true]at hsh;obtain⟨ao0,hv0,hsh⟩:=hsh;obtain⟨ao,n,cap,cs1,q⟩:=eV.of_shr (P:=P) hsh;have hcap:cap=List.length xs':=by
     have:=q.val.symm.trans hv0
     injection this with _ _ h3
    obtain⟨ao2,n2,cap2,cs2,Si2,me',q2,hm2⟩:=pU hi hy hsrc;obtain⟨v,w',F2,S2,k1,k2⟩:=nZ (C:=C) (ty:=o.type) hC hi hd hT hT2 q (q2.fix hm2) (.inr (.inl (by rw[q2.len,q.len,hcap];have:=hc.2;omega))) hn
     (fun b hb=>hb.elim) (fun b hb=>hb) (fun b hb=>hb.elim) (by simpa using hc.1)
    exact⟨v,w',F2,S2,hrun k1,k2⟩
   ·cases h
  ·rename_i r p he
   exact absurd he (hns r p)
  ·cases h
 ·cases h

theorem uW:∀ {l:List Operand} {f:Operand->aP} {ns:List Int},(∀z∈l,aU P F w env (fun t=>a.tmps.getD t undef) S (a.eval z) (f z))->wX (l.map f)=some ns->jG F w (l.map a.eval) ns
 | [],f,ns,_,h=>by
  simp only[List.map_nil,wX,Option.some.injEq]at h;subst h;rfl
 |z::l,f,ns,hv,h=>by
  simp only[List.map_cons,wX]at h;split at h
  ·rename_i τ x ns' he hl
   simp only[Option.map_eq_some_iff]at h;obtain⟨n,h1,rfl⟩:=h;have:=aV h1;injection this with e1 e2;subst e1;cases e2;have h2:=(hv z (by simp)).ent (by rw[he];rfl) 0 (by rw[he];simp[Ent.root]);rw[he]at h2;simp only[aF,if_true]at h2;obtain⟨b,off,row,T,fr,g1,g2,g3,g4,g5⟩:=h2;have hlt:off<row.size:=g4;obtain⟨g5,g6,g7⟩:=g5;refine⟨n,ns',rfl,⟨b,off,row,T,fr,g1,g2,g3,?_⟩,g6,g7,uW (fun z hz=>hv z (by simp[hz])) hl⟩
   have hlt':off<row.toList.length:=by simpa using hlt
   unfold seg at g5;rw[List.drop_eq_getElem_cons hlt']at g5;simp only[Ty.size,List.take_succ_cons,List.take_zero,List.cons.injEq,and_true]at g5;rw[Array.getElem?_eq_getElem hlt]
   simpa using g5
  ·cases h

theorem mkFunE_ok(hC:aG P C)(hi:aJ P C.np w0 F0 H env a w F S){f:FuncId}{caps:Array Operand}{o:Oper}(ho:o.op= .makeFunc (.func f) #[] caps){g:Operand->aP}
  (hg:∀z∈caps.toList,aU P F w env (fun t=>a.tmps.getD t undef) S (a.eval z) (g z))
  {c:Prop} {e:Ent} (h:mkFunE C f (caps.toList.map g)=some (c,e)):c8 P F w env (fun t=>a.tmps.getD t undef) S d (execOp a.eval o) e:=by
 unfold mkFunE at h
 split at h
 ·rename_i r hr
  simp only[Option.some.injEq]at h;subst h;cases hl:caps.toList with
  |nil=>rw[hl]at hr;cases hr
  |cons z zs=>
   rw[hl]at hr hg;simp only[List.map_cons,thkE]at hr;split at hr
   ·rename_i r s l he hp hints
    cases hrs:Nat.beq r s
    ·rw[hrs]at hr;cases hr
    rw[hrs]at hr;simp only[cond_true,Option.some.injEq,Prod.mk.injEq]at hr;obtain⟨rfl,rfl⟩:=hr;have hrs:=Nat.eq_of_beq_eq_true hrs;subst hrs;have h2:=(hg z (by simp)).ent (by rw[he];rfl) (r+1) (by rw[he];simp[Ent.root]);rw[he]at h2;simp only[aF,if_true]at h2;obtain⟨τ,m,x,q,S0,cs,hroot,hcell⟩:=h2;rw[if_neg (show ¬r=r+1 by omega)]at hroot
    have hpin:=hi.slots.pin r hp
    have hq:q=C.q:=by
     rcases hroot.1 with⟨_,h,_⟩|⟨_,b,h,_,h3,_⟩
     ·cases h
     ·injection h with h
      subst h;rw[h3]at hpin;injection hpin with hpin;injection hpin with hpin;injection hpin
    subst hq;refine⟨.func (.func f) #[] (caps.map a.eval),by simp[execOp,ho,Instr.makeFunc],rfl,fun _=> ?_⟩
    show aT F w (.abs .thk) .shr none' (if d=d then .func (.func f) #[] (caps.map a.eval)else a.tmps.getD d undef) _
    rw[if_pos rfl];refine⟨[.func (.func f) #[] (caps.map a.eval)],rfl,caps.map a.eval,rfl,a.eval z,zs.map a.eval,?_,hcell,uW (fun z hz=>hg z (by simp[hz])) hints⟩
    simp[hl]
   ·cases hr
 ·split at h
  ·rename_i r hr
   simp only[Option.some.injEq]at h;subst h;exact funE_ok hC hi ho hg hr
  ·split at h
   ·rename_i l hints
    simp only[Option.some.injEq,Prod.mk.injEq]at h;obtain⟨rfl,rfl⟩:=h;refine⟨.func (.func f) #[] (caps.map a.eval),by simp[execOp,ho,Instr.makeFunc],rfl,fun _=> ?_⟩
    show aT F w (.abs .clo) .shr none' (if d=d then .func (.func f) #[] (caps.map a.eval)else a.tmps.getD d undef) _
    rw[if_pos rfl];refine⟨[.func (.func f) #[] (caps.map a.eval)],rfl,caps.map a.eval,rfl,?_⟩
    have:=uW hg hints
    simpa using this
   ·cases h

theorem opE_ok(hC:aG P C)(hi:aJ P C.np w0 F0 H env a w F S){o:Oper}{f:Operand->aP}(hv:VOK P F w env a S o.op f){c:Prop}{e:Ent}{l:List Nat}(h:opE C o f=some (c,e,l))(hc:c):
  ∃d,o.dst=some d/\Wr C.np d/\mN P C.np w0 F0 H a w o d (put (dropAll env l) d e):=by
 unfold opE at h
 split at h
 ·cases h
 ·rename_i d hod
  cases hdn:wrB C d
  ·rw[hdn]at h;cases h
  rw[hdn]at h;simp only[cond_true]at h;have hd:Wr C.np d:=eA hdn;refine⟨d,hod,hd,?_⟩;cases hop:o.op<;>rw[hop]at h hv<;>(try simp only[]at h)
  case move x=>
   have hx:=hv x (by simp[Op.operands])
   cases hasn:eD C.asn d
   rotate_left
   ·simp only[hasn,cond_true]at h
    exact .of_new hod (asnE_ok hi hd (.inr hop) hx h)
   simp only[hasn,cond_false]at h;exact dD hi hd hod h hc fun c' e' hr _=>by
    obtain⟨g1,g2⟩:=qA (d:=d) hi hx hr;exact⟨_,by simp[execOp,hop],g1,g2⟩
  case assign x=>
   have hx:=hv x (by simp[Op.operands])
   cases hasn:eD C.asn d
   rotate_left
   ·simp only[hasn,cond_true]at h
    exact .of_new hod (asnE_ok hi hd (.inl hop) hx h)
   simp only[hasn,cond_false]at h;exact dD hi hd hod h hc fun c' e' hr _=>by
    have hr:kH (f x)=some (c',e'):=by
     unfold assignE at hr;split at hr<;>first|exact hr|cases hr
    obtain⟨g1,g2⟩:=qA (d:=d) hi hx hr;exact⟨_,by simp[execOp,hop],g1,g2⟩
  case pick q x y=>exact dD hi hd hod h hc fun c' e' hr hc'=>pickE_ok hi hop hv.1 hv.2.1 hv.2.2 hr hc'
  case alloc T=>exact .of_new hod (allocE_ok hC hi hd hop h)
  case box T x=>exact .of_new hod (boxE_ok hC hi hd hop (hv x (by simp[Op.operands])) h)
  case build T ps=>exact .of_new hod (buildAE_ok hC hi hd hop (fun z hz=>hv z (by rw[<-hop];exact hz)) h hc)
  case buildSlice T len ps=>exact .of_new hod (litE_ok hC hi hd hop (fun z hz=>hv z (by rw[<-hop];exact hz)) h hc)
  case load T x=>
   cases hmv:eD C.mvs d
   ·rw[hmv]at h;exact dD hi hd hod h hc fun c' e' hr hc'=>loadE_ok hC hi hop (hv x (by simp[Op.operands])) hr hc'
   ·rw[hmv]at h;cases h
  case nilCheck x=>exact dD hi hd hod h hc fun c' e' hr hc'=>nilE_ok hi hop (hv x (by simp[Op.operands])) hr hc'
  case binOp op T x y yT=>exact dD hi hd hod h hc fun c' e' hr hc'=>binE_ok hC hi hop (hv x (by simp[Op.operands])) (hv y (by simp[Op.operands])) hr hc'
  case unOp op T x=>exact dD hi hd hod h hc fun c' e' hr hc'=>unE_ok hi hop (hv x (by simp[Op.operands])) hr hc'
  case convert s t x=>exact dD hi hd hod h hc fun c' e' hr hc'=>convE_ok hC hi hop (hv x (by simp[Op.operands])) hr hc'
  case makeSlice T x y=>exact .of_new hod (makeE_ok hC hi hd hop (hv x (by simp[Op.operands])) (hv y (by simp[Op.operands])) h hc)
  case slice T x lo hg mx=>
   cases hcut:eD C.cuts d
   rotate_left
   ·simp only[hcut,cond_true]at h
    cases lo with
    |some _=>cases h
    |none=>cases mx with
     |some _=>cases h
     |none=>exact dD hi hd hod h hc fun c' e' hr hc'=>cutE_ok hC hi hop (fun z hz=>hv z (by rw[<-hop];exact hz)) hr hc'
   simp only[hcut,cond_false]at h;exact dD hi hd hod h hc fun c' e' hr hc'=>sliceE_ok hC hi hop (fun z hz=>hv z (by rw[<-hop];exact hz)) hr hc'
  case fieldAddr T x k=>exact dD hi hd hod h hc fun c' e' hr hc'=>vD hC hi hop (hv x (by simp[Op.operands])) hr hc'
  case field T x k=>exact dD hi hd hod h hc fun c' e' hr hc'=>fieldE_ok hC hi hop (hv x (by simp[Op.operands])) hr hc'
  case indexAddr T x y=>exact dD hi hd hod h hc fun c' e' hr hc'=>wY hC hi hop (hv x (by simp[Op.operands])) (hv y (by simp[Op.operands])) hr hc'
  case index T x y=>exact dD hi hd hod h hc fun c' e' hr hc'=>idxE_ok hC hi hop (hv x (by simp[Op.operands])) (hv y (by simp[Op.operands])) hr hc'
  case extract x k=>exact dD hi hd hod h hc fun c' e' hr hc'=>extE_ok hi hop (hv x (by simp[Op.operands])) hr hc'
  case call q=>
   obtain⟨callee,args,ts⟩:=q;have hv':∀z∈args.toList,aU P F w env (fun t=>a.tmps.getD t undef) S (a.eval z) (f z):=fun z hz=>hv z (by simp only[Op.operands,Call.operands];simp at hz;simp[hz])
   unfold callN at h;simp only[]at h;split at h
   ·split at h
    ·rename_i x T h1 h2
     have e1:args= #[x]:=by apply Array.ext';simpa using h1
     have e2:ts= #[T]:=by apply Array.ext';simpa using h2
     subst e1;subst e2;exact dD hi hd hod h hc fun c' e' hr hc'=>lenTE_ok hC hi hop (hv' x (by simp)) hr hc'
    ·cases h
   ·split at h
    ·rename_i x y h1
     have e1:args= #[x,y]:=by apply Array.ext';simpa using h1
     subst e1;exact dD hi hd hod h hc fun c' e' hr hc'=>uP (mx:=false) hi hop (hv' x (by simp)) (hv' y (by simp)) hr hc'
    ·rename_i x y z h1
     have e1:args= #[x,y,z]:=by apply Array.ext';simpa using h1
     subst e1;exact dD hi hd hod h hc fun c' e' hr hc'=>min3E_ok hi hop (hv' x (by simp)) (hv' y (by simp)) (hv' z (by simp)) hr hc'
    ·cases h
   ·split at h
    ·rename_i x y h1
     have e1:args= #[x,y]:=by apply Array.ext';simpa using h1
     subst e1;exact dD hi hd hod h hc fun c' e' hr hc'=>uP (mx:=true) hi hop (hv' x (by simp)) (hv' y (by simp)) hr hc'
    ·cases h
   ·split at h
    ·rename_i x y T T2 h1 h2
     have e1:args= #[x,y]:=by apply Array.ext';simpa using h1
     have e2:ts= #[T,T2]:=by apply Array.ext';simpa using h2
     subst e1;subst e2;split at h
     ·cases h
     ·rename_i hns
      exact .of_new hod (appendE_ok hC hi hd hop (hv' x (by simp)) (hv' y (by simp)) (fun r p he=>hns r p he) h hc)
    ·cases h
   ·exact callE_ok hC hi hd hop hod (g:=fun z=>yV C z (f z)) (fun z hz=>fnView_ok hC hi (hv' z hz)) h hc
   ·rename_i x _
    split at h
    ·rename_i r hr
     simp only[Option.some.injEq]at h;subst h;exact cloE_ok hC hi hd hop hod (hv x (by simp[Op.operands,Call.operands])) hv' hr hc
    ·exact callVE_ok hi hd hop hod (hv x (by simp[Op.operands,Call.operands])) hv' h hc
   ·cases h
  case makeFunc fn first caps=>
   cases fn with
   |func g=>
    simp only[]at h;cases hb:Nat.beq first.size 0
    ·rw[hb]at h;cases h
    rw[hb]at h;simp only[cond_true]at h;have e1:first= #[]:=Array.eq_empty_of_size_eq_zero (Nat.eq_of_beq_eq_true hb);subst e1;have hv':∀z∈caps.toList,aU P F w env (fun t=>a.tmps.getD t undef) S (a.eval z) (f z):=fun z hz=>hv z (by simp only[Op.operands];simp at hz;simp[hz])
    exact dD hi hd hod h hc fun c' e' hr hc'=>mkFunE_ok hC hi hop hv' hr
   |_=>cases h
  all_goals cases h

end
end Go.Lf
namespace Go.Lf

def fA(ops:Array Oper)(i k:Nat):Prop:=∃o e,ops[i]? =some o/\e∈o.after/\Region.binds .any e=true/\e.on=k

def depB(o:Oper)(acc:List Nat):Nat:=o.after.toList.foldr (fun e m=>bif Region.binds .any e then m|||2^e.on|||acc.getD e.on 0 else m) 0
def ancL:List Oper->List Nat->List Nat
 | [],acc=>acc
 |o::l,acc=>ancL l (acc++[depB o acc])
def dT(ops:List Oper):List Nat:=ancL ops []

inductive fU(ops:Array Oper):Nat->Nat->Prop where
 |one {i k}:fA ops i k->fU ops i k
 |more {i j k}:fA ops i j->fU ops j k->fU ops i k

theorem depB_ok{ops:Array Oper}{i:Nat}{o:Oper}(ho:ops[i]? =some o){acc:List Nat}(ha:∀j k,(acc.getD j 0).testBit k=true->fU ops j k):
  ∀k,(depB o acc).testBit k=true->fU ops i k:=by
 intro k
 have:∀(l:List Edge),(∀e∈l,e∈o.after)->(l.foldr (fun e m=>bif Region.binds .any e then m|||2^e.on|||acc.getD e.on 0 else m) 0).testBit k=true->fU ops i k:=by
  intro l
  induction l with
  |nil=>intro _ h;simp at h
  |cons e l ih=>
   intro hl h;simp only[List.foldr_cons]at h;cases hb:Region.binds .any e
   ·rw[hb]at h;exact ih (fun e he=>hl e (by simp[he])) h
   ·rw[hb]at h
    simp only[cond_true,Nat.testBit_or,Bool.or_eq_true]at h;have hw:fA ops i e.on:=⟨o,e,ho,hl e (by simp),hb,rfl⟩;rcases h with(h|h)|h
    ·exact ih (fun e he=>hl e (by simp[he])) h
    ·rw[Nat.testBit_two_pow]at h
     have:=of_decide_eq_true h
     subst this;exact .one hw
    ·exact .more hw (ha _ _ h)
 exact this o.after.toList (fun e he=>by simpa using he)

theorem ancL_ok{ops:Array Oper}:∀(l:List Oper) (acc:List Nat),(∀j,l[j]? =ops[acc.length+j]?)->(∀j k,(acc.getD j 0).testBit k=true->fU ops j k)->
  ∀j k,((ancL l acc).getD j 0).testBit k=true->fU ops j k
 | [],acc,_,ha=>ha
 |o::l,acc,hl,ha=>by
  simp only[ancL];have ho:ops[acc.length]? =some o:=by simpa using(hl 0).symm
  refine ancL_ok l (acc++[depB o acc]) (fun j=> ?_) (fun j k h=> ?_)
  ·have:=hl (j+1)
   simpa[Nat.add_assoc,Nat.add_comm 1 j]using this
  ·rcases Nat.lt_trichotomy j acc.length with hj|hj|hj
   ·exact ha j k (by simpa[List.getD_eq_getElem?_getD,List.getElem?_append_left hj]using h)
   ·subst hj
    exact depB_ok ho ha k (by simpa[List.getD_eq_getElem?_getD]using h)
   ·rw[List.getD_eq_getElem?_getD,List.getElem?_append_right (by omega),List.getElem?_eq_none (by simp;omega)]at h
    simp at h

theorem mL{l:List Oper}{j k:Nat}(h:((dT l).getD j 0).testBit k=true):fU l.toArray j k:=
 ancL_ok l [] (by simp) (by simp) j k h

def jH(ops:Array Oper)(T:Nat->Bool):Prop:=∀i k,T i=true->fA ops i k->T k=true

theorem jH.reach{ops:Array Oper}{T:Nat->Bool}(hT:jH ops T){i k:Nat}(h:fU ops i k):T i=true->T k=true:=by
 induction h with
 |one h=>exact fun hi=>hT _ _ hi h
 |more h _ ih=>exact fun hi=>ih (hT _ _ hi h)

theorem bV{ops:Array Oper}{T:Nat->Bool}(hT:jH ops T){i k:Nat}(hi:∀j,fA ops i j->T j=true)(h:fU ops i k):T k=true:=by
 cases h with
 |one h=>exact hi _ h
 |more h h2=>exact hT.reach h2 (hi _ h)

def rP:List Oper->Nat->Bool
 | [],_=>true
 |o::l,i=>o.after.toList.all (fun e=>bif Region.binds .any e then Nat.blt e.on i else true)&&rP l (i+1)

theorem qD{ops:Array Oper}:∀(l:List Oper) (n:Nat),(∀j,l[j]? =ops[n+j]?)->rP l n=true->∀i k,n<=i->fA ops i k->k<i
 | [],n,hl,_,i,k,hi,⟨o,e,h1,_⟩=>by
  have:=hl (i-n)
  rw[show n+(i-n)=i from by omega,h1]at this
  simp at this
 |o::l,n,hl,h,i,k,hi,hw=>by
  simp only[rP,Bool.and_eq_true]at h;by_cases hin:i=n
  ·subst hin
   obtain⟨o',e,h1,h2,hbn,rfl⟩:=hw;have ho:ops[i]? =some o:=by simpa using(hl 0).symm
   rw[ho]at h1;injection h1 with h1;subst h1;have:=List.all_eq_true.1 h.1 e (by simpa using h2);rw[hbn]at this;exact Nat.le_of_ble_eq_true this
  ·refine qD l (n+1) (fun j=> ?_) h.2 i k (by omega) hw
   have:=hl (j+1)
   simpa[Nat.add_assoc,Nat.add_comm 1 j]using this

theorem dY{a b:Nat}:Nat.blt a b=true↔a<b:=by rw[Nat.blt_eq]
theorem lL(a:Nat):Nat.blt a a=false:=by
 cases h:Nat.blt a a
 ·rfl
 ·exact absurd (dY.1 h) (Nat.lt_irrefl a)

def cK(T:Nat->Bool)(i:Nat):Nat->Bool:=fun j=>Nat.beq j i||T j

section
variable {P:Program} {ops:Array Oper} {Q:Exit->Act->World->Prop}

def StepJ(P:Program)(ops:Array Oper)(Q:Exit->Act->World->Prop)(J:(Nat->Bool)->Act->World->Prop)(T:Nat->Bool)(i:Nat):Prop:=
 ∀a w,J T a w->wpOp P ops Q i (J (cK T i)) a w

theorem sY{l:List Bool}{i:Nat}(h:l[i]? =some false):(l.set i true).count false+1=l.count false:=by
 induction l generalizing i with
 |nil=>simp at h
 |cons b l ih=>
  cases i with
  |zero=>simp at h;subst h;simp
  |succ i=>
   have:=ih (i:=i) (by simpa using h)
   simp only[List.set_cons_succ,List.count_cons];omega

theorem wpAny_run(J:(Nat->Bool)->Act->World->Prop)(hlow:∀i k,fA ops i k->k<i)
  (hstep:∀T i,i<ops.size->T i=false->jH ops T->(∀k,fA ops i k->T k=true)->StepJ P ops Q J T i)
  (hend:∀T a w,(∀i,i<ops.size->T i=true)->J T a w->Q .normal a w):
  ∀(fuel:Nat) (listed:Array Bool) (a:Act) (w:World),listed.size=ops.size->jH ops (fun j=>listed.getD j false)->listed.toList.count false<=fuel->
   J (fun j=>listed.getD j false) a w->wpAny P .any ops Q fuel listed a w:=by
 have hall:∀(listed:Array Bool),listed.size=ops.size->Region.ready .any ops listed=[]->∀i,i<ops.size->listed.getD i false=true:=by
  intro listed hs hr i
  induction i using Nat.strongRecOn with
  |_ i ih=>
   intro hi;cases hl:listed.getD i false
   ·exfalso
    have:i∈Region.ready .any ops listed:=by
     rw[mem_ready];refine⟨by simp only[Array.getD_eq_getD_getElem?,Array.getElem?_eq_getElem (hs▸hi)]at hl⊢;exact hl,ops[i],by simp[hi],?_⟩
     intro e he hb;have hw:fA ops i e.on:=⟨ops[i],e,by simp[hi],he,hb,rfl⟩
     have:=hlow i _ hw
     exact ih e.on this (by omega)
    rw[hr]at this;cases this
   ·rfl
 intro fuel
 induction fuel with
 |zero=>
  intro listed a w hs hc hn hJ;have hT:∀i,i<ops.size->listed.getD i false=true:=by
   intro i hi;have h0:listed.toList.count false=0:=by omega
   rw[List.count_eq_zero]at h0;have hi':i<listed.size:=by omega
   simp only[Array.getD_eq_getD_getElem?,Array.getElem?_eq_getElem hi',Option.getD_some];cases hh:listed[i]
   ·exact absurd (hh▸Array.getElem_mem_toList hi') h0
   ·rfl
  refine⟨?_,hend _ a w hT hJ⟩
  apply List.eq_nil_iff_forall_not_mem.2
  intro i hi;obtain⟨h1,o,ho,_⟩:=mem_ready.1 hi;have hi':i<ops.size:=by
   rcases Nat.lt_or_ge i ops.size with h|h
   ·exact h
   ·rw[Array.getElem?_eq_none h]at ho;cases ho
  have:=hT i hi'
  have hi2:i<listed.size:=by omega
  simp only[Array.getD_eq_getD_getElem?,Array.getElem?_eq_getElem hi2,Option.getD_some]at h1 this;rw[h1]at this;cases this
 |succ fuel ih=>
  intro listed a w hs hc hn hJ;refine⟨fun hr=>hend _ a w (hall listed hs hr) hJ,?_⟩
  intro i hi;obtain⟨h1,o,ho,h2⟩:=mem_ready.1 hi;have hi':i<ops.size:=by
   rcases Nat.lt_or_ge i ops.size with h|h
   ·exact h
   ·rw[Array.getElem?_eq_none h]at ho;cases ho
  have hi2:i<listed.size:=by omega
  have hTi:listed.getD i false=false:=by
   simp only[Array.getD_eq_getD_getElem?,Array.getElem?_eq_getElem hi2,Option.getD_some]at h1⊢;exact h1
  have hwt:∀k,fA ops i k->listed.getD k false=true:=by
   rintro k ⟨o',e,g1,g2,g3,rfl⟩
   rw[ho]at g1;injection g1 with g1;subst g1;exact h2 e g2 g3
  have hst:=hstep (fun j=>listed.getD j false) i hi' hTi hc hwt a w hJ
  have heq:cK (fun j=>listed.getD j false) i=fun j=>(listed.setIfInBounds i true).getD j false:=by
   funext j
   unfold cK;by_cases hj:j=i
   ·subst hj;simp[hi2]
   ·rw[cE hj];simp[Array.getD_eq_getD_getElem?,Array.getElem?_setIfInBounds_ne (Ne.symm hj)]
  rw[heq]at hst;refine wpOp_mono (fun a' w' hJ'=>ih (listed.setIfInBounds i true) a' w' (by simp[hs]) ?_ ?_ hJ') hst
  ·rw[<-heq]
   intro x k hx hw;unfold cK at hx⊢;by_cases hxi:x=i
   ·subst hxi;simp only[hwt k hw,Bool.or_true]
   ·rw[cE hxi]at hx
    simp only[Bool.false_or]at hx;have:=hc x k hx hw;simp only[this,Bool.or_true]
  ·have hl:listed.toList[i]? =some false:=by
    simp only[Array.getD_eq_getD_getElem?,Array.getElem?_eq_getElem hi2,Option.getD_some]at hTi;simp[hi2,hTi]
   have:=sY hl
   simp only[Array.toList_setIfInBounds];omega

theorem wpOps_run(J:(Nat->Bool)->Act->World->Prop)(hstep:∀i,i<ops.size->StepJ P ops Q J (fun j=>Nat.blt j i) i)
  (hend:∀a w,J (fun j=>Nat.blt j ops.size) a w->Q .normal a w):
  ∀(n k:Nat) (a:Act) (w:World),k+n=ops.size->J (fun j=>Nat.blt j k) a w->wpOps P ops Q (List.range' k n) a w:=by
 intro n
 induction n with
 |zero=>intro k a w hk hJ;simp only[Nat.add_zero]at hk;subst hk;exact hend a w hJ
 |succ n ih=>
  intro k a w hk hJ;rw[List.range'_succ,wpOps_cons];have:=hstep k (by omega) a w hJ;refine wpOp_mono (fun a' w' hJ'=>ih (k+1) a' w' (by omega) ?_) this
  have e:cK (fun j=>Nat.blt j k) k=fun j=>Nat.blt j (k+1):=by
   funext j
   unfold cK;rw[Bool.eq_iff_iff];simp only[Bool.or_eq_true,Nat.blt_eq];constructor
   ·rintro (h|h)
    ·have:=Nat.eq_of_beq_eq_true h;omega
    ·omega
   ·intro h
    by_cases hj:j=k
    ·left;subst hj;simp
    ·right;omega
  rw[<-e];exact hJ'

def mY(P:Program)(ops:Array Oper)(draw:Bool)(Q:Exit->Act->World->Prop)(a:Act)(w:World):Prop:=
 match draw with
 |true=>wpAny P .any ops Q ops.size (Array.replicate ops.size false) a {w with drawn:=w.drawn+1}
 |false=>wpOps P ops Q (List.range ops.size) a w

theorem mY.wp{id:Nat}{draw:Bool}{a:Act}{w:World}(hm:P.follows .mixedOrders=true)(h:mY P ops draw Q a w):(Code.region id ops draw).wp P Q a w:=by
 cases draw with
 |true=>exact wp_region_any hm h
 |false=>exact wp_region h

theorem iQ{draw:Bool}{a:Act}{w:World}(J:(Nat->Bool)->Act->World->Prop)(hlow:draw=true->∀i k,fA ops i k->k<i)
  (hstep:∀T i,i<ops.size->T i=false->(draw=true->jH ops T/\∀k,fA ops i k->T k=true)->(draw=false->∀k,T k=Nat.blt k i)->StepJ P ops Q J T i)
  (hend:∀T a w,(∀i,i<ops.size->T i=true)->J T a w->Q .normal a w)
  (h0:∀w',w'.heap=w.heap->w'.os=w.os->w'.tape=w.tape->w'.output=w.output->J (fun _=>false) a w'):mY P ops draw Q a w:=by
 cases draw with
 |true=>
  refine wpAny_run J (hlow rfl) (fun T i h1 h2 h3 h4=>hstep T i h1 h2 (fun _=>⟨h3,h4⟩) (fun h=>by cases h)) hend _ _ _ _ (by simp) ?_ ?_ ?_
  ·intro i k hi;simp[Array.getD_eq_getD_getElem?,Array.getElem?_replicate]at hi;split at hi<;>simp at hi
  ·simp
  ·have:(fun j=>(Array.replicate ops.size false).getD j false)=fun _=>false:=by
    funext j;simp[Array.getD_eq_getD_getElem?,Array.getElem?_replicate];split<;>rfl
   rw[this];exact h0 _ rfl rfl rfl rfl
 |false=>
  show wpOps P ops Q (List.range ops.size) a w
  rw[List.range_eq_range'];refine wpOps_run J (fun i hi=>hstep _ i hi (lL i) (fun h=>by cases h) (fun _ k=>rfl)) (fun a w hJ=>hend _ a w (fun i hi=>dY.2 hi) hJ) _ _ _ _ (by simp) ?_
  have:(fun j=>Nat.blt j 0)=fun _=>false:=by funext j;rfl
  rw[this];exact h0 _ rfl rfl rfl rfl
end
end Go.Lf
namespace Go.Lf

structure Row where
 d:Nat
 e:Ent
 used:List Nat
 gb:Bool
 ch:List (Nat×Bool)
 rs:List Nat
 pd:Option (Nat×cM):=none

def Row.ent(r:Row)(m:Bool):Ent:=bif m then(bif r.gb then r.e else .dead)else r.e

def bS:List Row->Nat->Option Row
 | [],_=>none
 |r::l,t=>bif Nat.beq r.d t then some r else bS l t
def dC:List Row->Nat->Bool
 | [],_=>false
 |r::l,t=>bif eD r.used t then true else dC l t
def cR(m:Bool)(l:List Row)(env:St)(t:Nat):Ent:=match bS l t with
 |some r=>r.ent m
 |none=>env t
def stR(m:Bool)(l:List Row)(env:St):St:=fun t=>bif dC l t then .dead else match(cR m l env t).root with
 |some q=>bif dC l q then .dead else cR m l env t
 |none=>cR m l env t

def nT:List Row->Nat->Nat->Option (Nat×Row)
 | [],_,_=>none
 |r::l,k,t=>bif Nat.beq r.d t then some (k,r)else nT l (k+1) t

def bbeq:Bool->Bool->Bool
 |true,true=>true
 |false,false=>true
 |_,_=>false
def memC:List (Nat×Bool)->Nat×Bool->Bool
 | [],_=>false
 |x::l,y=>bif Nat.beq x.1 y.1&&bbeq x.2 y.2 then true else memC l y
def subC:List (Nat×Bool)->List (Nat×Bool)->Bool
 | [],_=>true
 |x::l,m=>memC m x&&subC l m

def yA(l:List Row)(ch:List (Nat×Bool)):Operand->Bool
 | .tmp s=>match bS l s with
  |some r=>subC r.ch ch
  |none=>true
 |_=>true
def allB(l:List Row)(ch:List (Nat×Bool)):List Operand->Bool
 | []=>true
 |z::zs=>yA l ch z&&allB l ch zs
def pickB(l:List Row)(ch:List (Nat×Bool))(c x y:Operand):Bool:=
 yA l ch c&&((yA l ch x&&yA l ch y)||match c with
  | .tmp s=>match nT l 0 s with
   |some (j,r)=>match r.e with
    | .shr .bool _=>yA l ((j,true)::ch) x&&yA l ((j,false)::ch) y
    |_=>false
   |none=>false
  |_=>false)
def chB(l:List Row)(ch:List (Nat×Bool))(op:Op):Bool:=match op with
 | .pick c x y=>pickB l ch c x y
 |op=>allB l ch op.operands.toList

def gB(st:St):List Operand->List Nat
 | []=>[]
 | .tmp s::l=>s::(match(st s).root with
  |some r=>r::gB st l
  |none=>gB st l)
 |_::l=>gB st l

def mC(l:List Row):Option (Nat×Bool)->Option (Bool×List (Nat×Bool)×List Nat)
 |none=>some (true,[],[])
 |some (g,b)=>match l[g]? with
  |some r=>match r.e with
   | .shr .bool p=>bif dC l r.d then none else some (r.gb&&bbeq p b,(g,b)::r.ch,[r.d])
   |_=>none
  |none=>none

def cW{α:Type}:List α->Bool
 | []=>true
 |_=>false

def isNone{α:Type}:Option α->Bool
 |none=>true
 |_=>false

def wM(C:Ctx)(o:Oper)(f:Operand->aP):Option (Prop×Ent×List Nat×Nat×cM):=
 match o.dst,o.op with
 |some d,.call q=>match q.callee,q.args.toList,q.argTypes.toList with
  | .builtin .append,[x,y],[T,T2]=>bif wrB C d then(match look C.tys T,look C.tys T2,(f x).e,(f x).sub? with
   |some (.slice e),some (.slice _),.sub _ _,some al=>match aN al.p al.τ al.x,bI al.p al.τ al.m with
    |some ⟨.slice e',xs⟩,some (.own me)=>match bY (τ:= .slice e') (σ:= .slice e) xs,srcE e me (f y)with
     |some xs,some (ys,l)=>bif bQ (al.r::l)&& !Nat.beq d al.r then
       some (((List.length xs+List.length ys:Nat):Int)<=bJ,.pend al.r al.p e me (xs++ys),l,al.r,al.p)else none
     |_,_=>none
    |_,_=>none
   |_,_,_,_=>none)else none
  |_,_,_=>none
 |_,_=>none

def yQ(pd:Bool)(C:Ctx)(env0:St)(l:List Row)(o:Oper):Option (Prop×Row):=
 match mC l o.guard,o.dst,opE C o (bR (stR false l env0))with
 |some (gb,ch,gs),some d,some (c,e,used)=>
  bif !(env0 d).isOwner&&isNone (bS l d)&&((cW ch||(cW used&& !e.isOwner))||eD C.gow d)&&chB l ch o.op then
   some (bif cW ch then c else bif cW used&& !e.isOwner then(gb=true->c)else(gb=true/\c),⟨d,e,used,gb,ch,gs++gB (stR false l env0) o.op.operands.toList,none⟩)else none
 |some (gb,ch,gs),some d,none=>bif pd then(match wM C o (bR (stR false l env0))with
  |some (c,e,used,r,p)=>bif !(env0 d).isOwner&&isNone (bS l d)&&cW ch&&chB l ch o.op then
    some (c,⟨d,e,used,gb,ch,gs++gB (stR false l env0) o.op.operands.toList,some (r,p)⟩)else none
  |none=>none)else none
 |_,_,_=>none

def fC(pd:Bool)(C:Ctx)(env0:St):List Oper->List Row->Prop×List Row×List Oper
 | [],l=>(True,l,[])
 |o::os,l=>match yQ pd C env0 l o with
  |some (c,r)=>match fC pd C env0 os (l++[r])with
   |(c',l',t)=>(c/\c',l',t)
  |none=>(True,l,o::os)

def tO(r:Row):List Nat->Bool
 | []=>false
 |s::l=>Nat.beq r.d s||eD r.used s||tO r l

def uA(anc:List Nat)(r:Row)(i:Nat):List Row->Nat->Bool
 | [],_=>true
 |q::l,j=>(Nat.beq j i|| !tO q r.rs||(anc.getD i 0).testBit j||(anc.getD j 0).testBit i)&&uA anc r i l (j+1)
def nK(anc:List Nat)(rows:List Row):List Row->Nat->Bool
 | [],_=>true
 |r::l,i=>uA anc r i rows 0&&nK anc rows l (i+1)
def gdB(anc:List Nat):List Oper->Nat->Bool
 | [],_=>true
 |o::l,i=>(match o.guard with
  |none=>true
  |some (g,_)=>(anc.getD i 0).testBit g)&&gdB anc l (i+1)
def sF(anc:List Nat):List Oper->Nat->Bool
 | [],_=>true
 |_::l,i=>Nat.beq (Nat.land (anc.getD i 0) (2^i-1)) (2^i-1)&&sF anc l (i+1)

def sel:List Row->(Nat->Bool)->Nat->List Row
 | [],_,_=>[]
 |r::l,T,k=>bif T k then r::sel l T (k+1)else sel l T (k+1)

section sel
variable {s:Nat} {T T':Nat->Bool}

theorem aY{a b:Nat}:Nat.beq a b=true↔a=b:=⟨Nat.eq_of_beq_eq_true,fun h=>h▸Nat.beq_refl a⟩

theorem sJ:∀(rows:List Row) (k:Nat),(∀j r,rows[j]? =some r->r.d=s->T (k+j)=T' (k+j))->bS (sel rows T k) s=bS (sel rows T' k) s
 | [],_,_=>rfl
 |r::l,k,h=>by
  have ih:=sJ l (k+1) (fun j q hq hd=>by have:=h (j+1) q (by simpa using hq) hd;simpa[Nat.add_assoc,Nat.add_comm 1 j]using this)
  by_cases hd:r.d=s
  ·have h0:=h 0 r rfl hd
   simp only[Nat.add_zero]at h0;simp only[sel,h0];cases T' k
   ·exact ih
   ·simp only[cond_true,bS,aY.2 hd]
  ·have hb:Nat.beq r.d s=false:=cE hd
   simp only[sel];cases T k<;>cases T' k<;>simp only[cond_true,cond_false,bS,hb]<;>exact ih

theorem jK:∀(rows rows':List Row) (k:Nat),rows'.length=rows.length->(∀j r r',rows[j]? =some r->rows'[j]? =some r'->r'.d=r.d/\(r.d=s->T (k+j)=T' (k+j)/\r'=r))->bS (sel rows T k) s=bS (sel rows' T' k) s
 | [],[],_,_,_=>rfl
 | [],_::_,_,h,_=>by cases h
 |_::_,[],_,h,_=>by cases h
 |r::l,r'::l',k,hl,h=>by
  have ih:=jK l l' (k+1) (by simpa using hl) (fun j q q' hq hq'=>by have:=h (j+1) q q' (by simpa using hq) (by simpa using hq');simpa[Nat.add_assoc,Nat.add_comm 1 j]using this)
  obtain⟨h0,h1⟩:=h 0 r r' rfl rfl;by_cases hd:r.d=s
  ·obtain⟨h2,h3⟩:=h1 hd
   simp only[Nat.add_zero]at h2;subst h3;simp only[sel,h2];cases T' k
   ·exact ih
   ·simp only[cond_true,bS,aY.2 hd]
  ·have hb:Nat.beq r.d s=false:=cE hd
   have hb':Nat.beq r'.d s=false:=by rw[h0];exact hb
   simp only[sel];cases T k<;>cases T' k<;>simp only[cond_true,cond_false,bS,hb,hb']<;>exact ih

theorem lQ:∀(rows rows':List Row) (k:Nat),rows'.length=rows.length->(∀j r r',rows[j]? =some r->rows'[j]? =some r'->r'.used=r.used/\(s∈r.used->T (k+j)=T' (k+j)))->dC (sel rows T k) s=dC (sel rows' T' k) s
 | [],[],_,_,_=>rfl
 | [],_::_,_,h,_=>by cases h
 |_::_,[],_,h,_=>by cases h
 |r::l,r'::l',k,hl,h=>by
  have ih:=lQ l l' (k+1) (by simpa using hl) (fun j q q' hq hq'=>by have:=h (j+1) q q' (by simpa using hq) (by simpa using hq');simpa[Nat.add_assoc,Nat.add_comm 1 j]using this)
  obtain⟨h0,h1⟩:=h 0 r r' rfl rfl;by_cases hd:s∈r.used
  ·have h2:=h1 hd
   simp only[Nat.add_zero]at h2;simp only[sel,h2];cases T' k
   ·exact ih
   ·simp only[cond_true,dC,h0,fF.2 hd]
  ·have hb:eD r.used s=false:=by
    cases hm:eD r.used s
    ·rfl
    ·exact absurd (fF.1 hm) hd
   simp only[sel];cases T k<;>cases T' k<;>simp only[cond_true,cond_false,dC,h0,hb]<;>exact ih

theorem sel_take:∀(rows:List Row) (i k:Nat),rows.take i=sel rows (fun j=>Nat.blt j (k+i)) k
 | [],i,k=>by simp[sel]
 |r::l,0,k=>by
  have h1:∀(l:List Row) (m:Nat),k<=m->sel l (fun j=>Nat.blt j (k+0)) m=[]:=by
   intro l
   induction l with
   |nil=>intro m _;rfl
   |cons r l ih=>
    intro m hm;have:Nat.blt m (k+0)=false:=by
     cases h:Nat.blt m (k+0)
     ·rfl
     ·have:=dY.1 h;omega
    simp only[sel,this,cond_false];exact ih (m+1) (by omega)
  rw[h1 _ k (Nat.le_refl k)];rfl
 |r::l,i+1,k=>by
  have:Nat.blt k (k+(i+1))=true:=dY.2 (by omega)
  simp only[List.take_succ_cons,sel,this,cond_true];rw[sel_take l i (k+1),show k+1+i=k+(i+1)from by omega]

theorem pX:∀(rows:List Row) (k:Nat),(∀j,j<rows.length->T (k+j)=true)->sel rows T k=rows
 | [],_,_=>rfl
 |r::l,k,h=>by
  have h0:=h 0 (by simp)
  simp only[Nat.add_zero]at h0;simp only[sel,h0,cond_true];rw[pX l (k+1) (fun j hj=>by have:=h (j+1) (by simp;omega);simpa[Nat.add_assoc,Nat.add_comm 1 j]using this)]

theorem iS:∀(rows:List Row) (k:Nat) {r:Row},r∈sel rows T k->∃j,rows[j]? =some r/\T (k+j)=true
 | [],_,_,h=>by simp[sel]at h
 |q::l,k,r,h=>by
  simp only[sel]at h;cases hT:T k
  ·rw[hT]at h
   obtain⟨j,h1,h2⟩:=iS l (k+1) h;exact⟨j+1,by simpa using h1,by simpa[Nat.add_assoc,Nat.add_comm 1 j]using h2⟩
  ·rw[hT]at h
   simp only[cond_true,List.mem_cons]at h;rcases h with rfl|h
   ·exact⟨0,rfl,by simpa using hT⟩
   ·obtain⟨j,h1,h2⟩:=iS l (k+1) h
    exact⟨j+1,by simpa using h1,by simpa[Nat.add_assoc,Nat.add_comm 1 j]using h2⟩

theorem eK:∀ {l:List Row} {r:Row},bS l s=some r->r∈l/\r.d=s
 | [],_,h=>by cases h
 |q::l,r,h=>by
  simp only[bS]at h;cases hd:Nat.beq q.d s
  ·rw[hd]at h
   obtain⟨h1,h2⟩:=eK h;exact⟨by simp[h1],h2⟩
  ·rw[hd]at h
   simp only[cond_true,Option.some.injEq]at h;subst h;exact⟨by simp,aY.1 hd⟩

theorem uR:∀ {l:List Row},(∀r∈l,r.d≠s)->bS l s=none
 | [],_=>rfl
 |q::l,h=>by
  simp only[bS,cE (h q (by simp)),cond_false];exact uR (fun r hr=>h r (by simp[hr]))

theorem oX:∀ {l:List Row} {r:Row},r∈l->(∀q∈l,q.d=r.d->q=r)->bS l r.d=some r
 |q::l,r,h,hu=>by
  simp only[bS];by_cases hd:q.d=r.d
  ·rw[aY.2 hd,hu q (by simp) hd];rfl
  ·rw[cE hd]
   simp only[cond_false];rcases List.mem_cons.1 h with rfl|h
   ·exact absurd rfl hd
   ·exact oX h (fun q' hq'=>hu q' (by simp[hq']))

theorem jM:∀ {l:List Row},dC l s=true↔∃r∈l,s∈r.used
 | []=>by simp[dC]
 |q::l=>by
  simp only[dC];cases hm:eD q.used s
  ·simp only[cond_false,jM (l:=l),List.mem_cons]
   constructor
   ·rintro⟨r,h1,h2⟩;exact⟨r,.inr h1,h2⟩
   ·rintro⟨r,rfl|h1,h2⟩
    ·rw[fF.2 h2]at hm;cases hm
    ·exact⟨r,h1,h2⟩
  ·simp only[cond_true,true_iff]
   exact⟨q,by simp,fF.1 hm⟩

theorem s6:∀(rows:List Row) (k:Nat) {j:Nat} {r:Row},rows[j]? =some r->T (k+j)=true->r∈sel rows T k
 | [],_,_,_,h,_=>by simp at h
 |q::l,k,0,r,h,hT=>by
  simp at h;subst h
  simp only[Nat.add_zero]at hT;simp[sel,hT]
 |q::l,k,j+1,r,h,hT=>by
  have:=s6 l (k+1) (j:=j) (r:=r) (by simpa using h) (by simpa[Nat.add_assoc,Nat.add_comm 1 j]using hT)
  simp only[sel];cases T k
  ·exact this
  ·simp[this]
end sel

theorem eH(m:Bool)(l:List Row)(env:St)(t:Nat):stR m l env t= .dead∨
  (stR m l env t=cR m l env t/\dC l t=false/\∀q,(cR m l env t).root=some q->dC l q=false):=by
 unfold stR
 cases h:dC l t
 ·simp only[cond_false]
  cases hr:(cR m l env t).root with
  |none=>right;exact⟨rfl,by trivial,fun q hq=>by cases hq⟩
  |some q=>
   simp only[];cases hq:dC l q
   ·right;exact⟨rfl,by trivial,fun q' hq'=>by injection hq' with hq';subst hq';exact hq⟩
   ·left;rfl
 ·left;rfl

theorem iX{m:Bool}{l:List Row}{env:St}{t:Nat}(h1:dC l t=false)(h2:∀q,(cR m l env t).root=some q->dC l q=false):stR m l env t=cR m l env t:=by
 unfold stR
 rw[h1]
 simp only[cond_false]
 cases hr:(cR m l env t).root with
 |none=>rfl
 |some q=>simp only[h2 q hr,cond_false]

theorem aJ.weaken{P:Program}{N:NP}{w0:World}{F0 H:aA}{env:St}{a:Act}{w:World}{F:aA}{S:Nat->aA}(hi:aJ P N w0 F0 H env a w F S){env2:St}
  (h1:∀t,env2 t=env t∨env2 t= .dead) (h2:∀t r,(env2 t).root=some r->env2 r=env r):aJ P N w0 F0 H env2 a w F S:=by
 refine⟨hi.os,hi.tape,hi.output,hi.size,hi.block,hi.fb,hi.f0,hi.fn,hi.sb,hi.sd,?_,hi.defers,hi.slots⟩
 intro t
 rcases h1 t with h|h
 ·rw[h]
  refine aF.keep (fun _ h=>h) (fun _ _=>rfl) rfl ?_ (fun _=>⟨rfl,fun _ _=>rfl,fun b h1 h2=>absurd h1 h2⟩) (hi.ent t)
  intro r hr;exact⟨fun _=>h2 t r (by rw[h];exact hr),fun _=>rfl,rfl,fun _ _=>rfl,fun b h1 h2=>absurd h1 h2,fun b hb=>(hi.sb r b hb).2.2⟩
 ·rw[h];trivial

theorem drop_cases(env:St)(r t:Nat):drop env r t= .dead∨(drop env r t=env t/\t≠r/\(env t).root≠some r):=by
 unfold drop
 by_cases h:t=r
 ·left;subst h;exact bU _ _ _
 ·rw[bG _ _ h]
  rcases c9 env r t with h'|⟨h',h2⟩
  ·exact .inl h'
  ·exact .inr ⟨h',h,h2⟩

theorem iV:∀(l:List Nat) (env:St) (t:Nat),dropAll env l t= .dead∨dropAll env l t=env t
 | [],_,_=> .inr rfl
 |r::l,env,t=>by
  rcases iV l (drop env r) t with h|h
  ·exact .inl h
  ·rcases drop_cases env r t with h'|⟨h',_⟩
   ·exact .inl (h.trans h')
   ·exact .inr (h.trans h')

theorem mH:∀(l:List Nat) (env:St) (t:Nat),t∉l->(∀q,(env t).root=some q->q∉l)->dropAll env l t=env t
 | [],_,_,_,_=>rfl
 |r::l,env,t,h1,h2=>by
  have hd:drop env r t=env t:=by
   unfold drop;rw[bG _ _ (fun h=>h1 (by simp[h]))]
   unfold cV eY;cases hr:(env t).root with
   |none=>rfl
   |some q=>
    have:=h2 q hr
    simp only[cE (fun h=>this (by simp[h]):q≠r),cond_false]
  rw[dropAll,mH l (drop env r) t (fun h=>h1 (by simp[h])) (fun q hq=>fun h=>h2 q (hd▸hq) (by simp[h]))]
  exact hd

end Go.Lf
namespace Go.Lf

section
variable {P:Program} {C:Ctx} {N:NP} {w0:World} {F0 H:aA} {env:St} {a:Act} {w:World} {F:aA} {S:Nat->aA} {d:Nat}

theorem aJ.dropAll':∀(l:List Nat) {env:St} {S:Nat->aA},aJ P N w0 F0 H env a w F S->
  aJ P N w0 F0 H (Go.Lf.dropAll env l) a w F (fun t=>if t∈l then none' else S t)
 | [],env,S,hi=>by
  have:(fun t=>if t∈([]:List Nat)then none' else S t)=S:=by funext t;simp
  rw[this];exact hi
 |r::l,env,S,hi=>by
  have h:=aJ.dropAll' l (hi.drop r)
  have:(fun t=>if t∈r::l then none' else S t)=fun t=>if t∈l then none' else if t=r then none' else S t:=by
   funext t
   by_cases h1:t∈l
   ·simp[h1]
   ·by_cases h2:t=r
    ·simp[h2]
    ·simp[h1,h2]
  rw[this];exact h

theorem gO:∀(l:List Nat) {env:St} {r:Nat},(env r).isOwner=true->r∉l->dropAll env l r=env r:=by
 intro l env r ho hn
 exact mH l env r hn (fun q hq=>by rw[Ent.owner_root ho]at hq;cases hq)

theorem fH.uniq{E:Ent}{Sx:aA}{v:Value}{τ τ':Ty}{m m':Md}{x:τ.den}{x':τ'.den}{pl pl':aK}{S0 S0':aA}{cs cs':List Value}
  (h:fH F w Sx v E τ m x pl S0 cs) (h':fH F w Sx v E τ' m' x' pl' S0' cs'):(⟨τ,x⟩:Σ τ:Ty,τ.den)=⟨τ',x'⟩/\m=m'/\pl=pl'/\S0=S0':=by
 have hE:=h.1
 rcases hE with⟨hE,hp,hs,hv⟩|⟨hE,b,hp,hs,hv,hb⟩
 ·subst hE
  obtain⟨e1,e2,e3,e4,e5⟩:=h'.own_inj;have hcs:cs=cs':=by
   injection e1 with e6 e7;subst e6;have l1:=dK h.2.2.len h.2.2.one;have l2:=dK h'.2.2.len h'.2.2.one;have:(bH τ cs).cells=(bH τ cs').cells:=by rw[<-hv,<-e5]
   rw[l1,l2]at this
   simpa using this
  exact⟨e1,e2,by rw[hp,e3,hcs],by rw[hs,e4]⟩
 ·subst hE
  obtain⟨e1,e2,b',e3,e4,e5,e6⟩:=h'.box_inj;rw[hv]at e5;injection e5 with e5;injection e5 with e5;injection e5 with e5;subst e5;exact⟨e1,e2,by rw[hp,e3],by rw[hs,e4]⟩

end
end Go.Lf
namespace Go.Lf

def uU(r:Nat)(e:Ent):Ent:=match e with
 | .addr r' p=> .addr r' p
 |e=>eY r e
def lF(env:St)(r:Nat):St:=fun t=>uU r (env t)

section
variable {P:Program} {C:Ctx} {N:NP} {w0:World} {F0 H:aA} {env:St} {a:Act} {w:World} {F:aA} {S:Nat->aA} {d:Nat}

theorem killA_cases(r:Nat)(e:Ent):uU r e= .dead∨(uU r e=e/\(e.root≠some r∨∃p,e= .addr r p)):=by
 unfold uU
 split
 ·rename_i r' p
  right
  refine⟨rfl,?_⟩
  by_cases h:r'=r
  ·subst h;exact .inr ⟨p,rfl⟩
  ·left;simp[Ent.root,h]
 ·unfold eY
  cases h:e.root with
  |none=>right;simp
  |some r'=>
   by_cases e':r'=r
   ·left;simp[e']
   ·right
    simp[cE e',e']

theorem kI{r:Nat}{e:Ent}(h:e.isOwner=true):uU r e=e:=by
 cases e<;>first|rfl|cases h

theorem sD.enlarge{τ:Ty}{m:Md}{S0 S' X:aA}{pl pl':aK}{x:τ.den}{p:cM}{σ:Ty}{μ:Md}(f:sD F w τ m S0 pl x p σ μ pl' S')(hX:∀k,X k->¬S0 k/\¬pl.isB k):
  sD F w τ m (fun k=>S0 k∨X k) pl x p σ μ pl' (fun k=>S' k∨X k):=by
 have he:∀k,((S0 k∨X k)/\¬(S' k∨X k))↔(S0 k/\¬S' k):=by
  intro k;constructor
  ·rintro⟨h|h,hn⟩
   ·exact⟨h,fun h'=>hn (.inl h')⟩
   ·exact absurd (.inr h) hn
  ·rintro⟨h,hn⟩
   exact⟨.inl h,fun h'=>h'.elim hn (fun hx=>(hX k hx).1 h)⟩
 have he':(fun k=>(S0 k∨X k)/\¬(S' k∨X k))=fun k=>S0 k/\¬S' k:=by
  funext k;exact propext (he k)
 refine⟨f.loc,fun k hk=>hk.imp (f.sub k) id,fun b hb=>(f.blk b hb).imp .inl id,?_,?_⟩
 ·intro b hb h
  rcases h with h|h
  ·exact f.out b hb h
  ·rcases f.blk b hb with h'|h'
   ·exact(hX b h).1 h'
   ·exact(hX b h).2 h'
 ·intro F2 w' b off S'' c' μ' m' y' x' hpl e1 e2 h1 h2 hu ho h3 hm hs
  have:=f.plug F2 w' b off S'' c' μ' m' y' x' hpl e1 (fun k hk=>⟨fun h=>(e2 k hk).1 (.inl h),(e2 k hk).2⟩)
   (fun k hk hne=>h1 k (hk.imp id (he k).2) hne) h2 hu ho (fun k hk=>⟨fun h=>(h3 k hk).1 ((he k).2 h),(h3 k hk).2⟩) hm hs
  obtain⟨cs2,g1,g2⟩:=this;have e3:(fun k=>((S0 k∨X k)/\¬(S' k∨X k))∨S'' k)=fun k=>(S0 k/\¬S' k)∨S'' k:=by
   funext k
   apply propext
   exact⟨fun h=>h.imp (he k).1 id,fun h=>h.imp (he k).2 id⟩
  refine⟨cs2,?_,?_⟩
  ·show fM F2 (fun k=>((S0 k∨X k)/\¬(S' k∨X k))∨S'' k) w' pl τ.size cs2
   rw[e3];exact g1
  ·show Own F2 w' τ m' (fun k=>((S0 k∨X k)/\¬(S' k∨X k))∨S'' k) cs2 x'
   rw[e3];exact g2

theorem uD(hi:aJ P N w0 F0 H env a w F S)(hd:Wr N d){r:Nat}{p:cM}{τ:Ty}{m:Md}{x:τ.den}{pl pl':aK}{S0:aA}{cs:List Value}{e:Ty}{me:Md}{xs ys:List e.den}{used:List Nat}{v:Value}
  (hR:fH F w (S r) (a.tmps.getD r undef) (env r) τ m x pl S0 cs) (hg:aN p τ x=some ⟨.slice e,xs⟩) (hm:bI p τ m=some (.own me)) (hir:inR p τ x) (hn:bQ (r::used)=true) (hdr:d≠r)
  (hl:loc w p τ pl=some (.slice e,pl')) {w':World} (h1:w'.os=w.os) (h2:w'.tape=w.tape) (h3:w'.output=w.output) (h4:w.heap.size<=w'.heap.size) (h6:∀k,k<w0.heap.size->¬H k->w'.heap[k]? =w.heap[k]?)
  (h5:∀b,F b∨(∃t,t≠r/\t∉used/\S t b)->w'.heap[b]? =w.heap[b]?)
  (hO:Own F w' τ m S0 cs x) (hPl:fM F S0 w' pl τ.size cs) (hloc:∀q μ,bI q τ m=some μ->inR q τ x->loc w' q τ pl=loc w q τ pl)
  {X:aA} (hX:∀b,X b->SL S used b∨(b=w.heap.size/\b<w'.heap.size))
  (hval:∀S' cs',vU F w' τ m S0 pl x p (.slice e) xs (.own me) pl' cs' S'->aT F w' (.slice e) (.own me) (fun k=>S' k∨X k) v (xs++ys)):
  ∃S2,aJ P N w0 F0 H (Go.Lf.put (lF (Go.Lf.dropAll env used) r) d (.pend r p e me (xs++ys))) (a.put (some d) v) w' F S2:=by
 obtain⟨hnr,_⟩:=d8 hn
 have hi2:=hi.dropAll' used
 have ho:(env r).isOwner=true:=hR.isOwner
 have hdrop:=gO used ho hnr
 have hXS:∀b,X b->(w0.heap.size<=b∨H b)/\b<w'.heap.size/\¬F b/\∀t,t∉used->¬S t b:=by
  intro b hb;rcases hX b hb with⟨u,hu,h⟩|⟨rfl,h⟩
  ·obtain⟨q1,q2,q3⟩:=hi.sb u b h
   exact⟨q1,by omega,q3,fun t ht hk=>hi.sd t u (fun e=>ht (e▸hu)) b hk h⟩
  ·exact⟨.inl hi.size,h,fun hf=>by have:=hi.fb _ hf;omega,fun t _ ht=>by have:=(hi.sb t _ ht).2.1;omega⟩
 have hXr:∀k,X k->¬S0 k/\¬pl.isB k:=fun k hk=>⟨fun h=>(hXS k hk).2.2.2 r hnr (hR.sub k h),fun h=>(hXS k hk).2.2.2 r hnr (hR.isB h)⟩
 have hR':fH F w' (fun k=>S r k∨X k) (a.tmps.getD r undef) (env r) τ m x pl (fun k=>S0 k∨X k) cs:=by
  refine⟨?_,?_,hO.mono (fun _ h=>h) (fun k hk=> .inl hk)⟩
  ·rcases hR.1 with⟨g1,g2,g3,g4⟩|⟨g1,b,g2,g3,g4,g5⟩
   ·left;exact⟨g1,g2,by rw[g3],g4⟩
   ·right
    refine⟨g1,b,g2,?_,g4,.inl g5⟩
    rw[g3]
    funext k
    apply propext
    constructor
    ·rintro (⟨h,h'⟩|h)
     ·exact⟨.inl h,h'⟩
     ·exact⟨.inr h,fun e=>(hXr k h).2 (by rw[g2,e];rfl)⟩
    ·rintro⟨h|h,h'⟩
     ·exact .inl ⟨h,h'⟩
     ·exact .inr h
  ·cases pl with
   |val _=>exact hPl
   |mem b off=>
    obtain⟨q1,q2,q3⟩:=hPl;exact⟨fun h=>h.elim q1 (fun h=>(hXr b h).2 rfl),q2,q3⟩
 have hi3:aJ P N w0 F0 H (lF (Go.Lf.dropAll env used) r) a w' F (fun t=>if t=r then(fun k=>S r k∨X k)else if t∈used then none' else S t):=by
  refine⟨h1.trans hi.os,h2.trans hi.tape,h3.trans hi.output,Nat.le_trans hi.size h4,fun k hk hH=>(h6 k hk hH).trans (hi.block k hk hH),fun b hb=>Nat.lt_of_lt_of_le (hi.fb b hb) h4,hi.f0,hi.fn,?_,?_,?_,hi.defers,hi.slots⟩
  ·intro t b ht
   by_cases h:t=r
   ·simp only[h,if_true]at ht
    rcases ht with ht|ht
    ·obtain⟨g1,g2,g3⟩:=hi.sb r b ht;exact⟨g1,by omega,g3⟩
    ·exact⟨(hXS b ht).1,(hXS b ht).2.1,(hXS b ht).2.2.1⟩
   ·simp only[h,if_false]at ht
    split at ht
    ·exact ht.elim
    ·obtain⟨g1,g2,g3⟩:=hi.sb t b ht;exact⟨g1,by omega,g3⟩
  ·have aux:∀t b,t≠r->(if t∈used then none' else S t) b->¬(S r b∨X b):=by
    intro t b ht hb hx;split at hb
    ·exact hb
    ·rename_i htu
     rcases hx with hx|hx
     ·exact hi.sd t r ht b hb hx
     ·exact(hXS b hx).2.2.2 t htu hb
   intro t u htu b hb1 hb2;by_cases h:t=r
   ·simp only[h,if_true]at hb1
    have hu:u≠r:=fun e=>htu (h.trans e.symm)
    simp only[hu,if_false]at hb2;exact aux u b hu hb2 hb1
   ·simp only[h,if_false]at hb1
    by_cases h':u=r
    ·simp only[h',if_true]at hb2
     exact aux t b h hb1 hb2
    ·simp only[h',if_false]at hb2
     split at hb1
     ·exact hb1
     ·split at hb2
      ·exact hb2
      ·exact hi.sd t u htu b hb1 hb2
  ·intro t
   by_cases h:t=r
   ·subst h
    have hk:lF (Go.Lf.dropAll env used) t t=env t:=by unfold lF;rw[hdrop,kI ho]
    rw[hk];rcases hR.1 with⟨g1,_⟩|⟨g1,_⟩
    ·rw[g1]at hR'⊢
     simp only[aF,if_true];exact⟨_,_,_,hR'⟩
    ·rw[g1]at hR'⊢
     simp only[aF,if_true];exact⟨_,_,_,hR'⟩
   ·rcases killA_cases r (Go.Lf.dropAll env used t)with hk|⟨hk,hk2⟩
    ·show aF P F w' _ _ _ t (uU r (Go.Lf.dropAll env used t))
     rw[hk];trivial
    ·show aF P F w' _ _ _ t (uU r (Go.Lf.dropAll env used t))
     rw[hk];have hent:=hi2.ent t;rcases hk2 with hk2|⟨p2,hk2⟩
     ·refine aF.keep (fun _ h=>h) (fun b hb=>h5 b (.inl hb)) rfl ?_ ?_ hent
      ·intro q hq
       have hqr:q≠r:=fun e=>hk2 (e▸hq)
       refine⟨fun ho'=>by unfold lF;exact kI ho',fun _=>rfl,by simp[hqr],fun b hb=> ?_,fun b h1 h2=>absurd h1 h2,fun b hb=>(hi2.sb q b hb).2.2⟩
       split at hb
       ·exact hb.elim
       ·rename_i hqu;exact h5 b (.inr ⟨q,hqr,hqu,hb⟩)
      ·intro _
       refine⟨by simp[h],fun b hb=> ?_,fun b h1 h2=>absurd h1 h2⟩
       split at hb
       ·exact hb.elim
       ·rename_i htu;exact h5 b (.inr ⟨t,h,htu,hb⟩)
     ·rw[hk2]at hent⊢
      simp only[aF]at hent⊢;obtain⟨τ1,m1,x1,pl1,S1,cs1,σ,μ,b,off,g1,g2,g4,g5,g6,g7⟩:=hent;rw[hdrop]at g1;simp only[hnr,if_false]at g1;obtain⟨e1,e2,e3,e4⟩:=g1.uniq hR;injection e1 with e5 e6;subst e5;cases e6;subst e2;subst e3;subst e4;have hk:lF (Go.Lf.dropAll env used) r r=env r:=by unfold lF;rw[hdrop,kI ho]
      rw[<-hk]at hR';simp only[if_true];exact⟨_,_,_,_,_,_,σ,μ,b,off,hR',(hloc p2 μ g6 g7).trans g2,g4,g5,g6,g7⟩
 have hdisj:∀b,S0 b->¬F b:=fun b hb=>(hi.sb r b (hR.sub b hb)).2.2
 obtain⟨pl2,cs',S',f⟩:=focus p hdisj hO hPl hg hm hir
 have hpl:pl2=pl':=by
  have:=f.loc.symm.trans ((hloc p _ hm hir).trans hl)
  simp only[Option.some.injEq,Prod.mk.injEq,true_and]at this;exact this
 subst hpl
 obtain⟨cp,hv1,hv2⟩:=hval S' cs' f
 have hVd:∀s,(a.put (some d) v).tmps.getD s undef=if s=d then v else a.tmps.getD s undef:=fun s=>Act.getD_put (by rw[hi.slots.size];exact hd.1)
 refine⟨_,hi3.put (Sd:=none') hd (RowKit.Below.refl _ _) (fun _ h=>h) hi3.fb (fun b h1 h2=>absurd h1 h2) (fun _ h=>h.elim) ?_⟩
 have hk:lF (Go.Lf.dropAll env used) r r=env r:=by unfold lF;rw[hdrop,kI ho]
 have henv:Go.Lf.put (lF (Go.Lf.dropAll env used) r) d (.pend r p e me (xs++ys)) r=env r:=by
  unfold Go.Lf.put;cases (lF (Go.Lf.dropAll env used) r d).isOwner
  ·simp only[cond_false];rw[bG _ _ (Ne.symm hdr)];exact hk
  ·simp only[cond_true]
   rw[bG _ _ (Ne.symm hdr)];unfold cV eY;rw[hk,Ent.owner_root ho]
 simp only[aF,hVd,if_true,henv,Ne.symm hdr,if_false]
 refine⟨τ,m,x,pl,fun k=>S0 k∨X k,cs,xs,pl2,fun k=>S' k∨X k,fun k=>S' k∨X k,cp,hR',f.toPlug.enlarge hXr,hm,hir,hg,hv1,hv2,?_,?_⟩
 ·intro k hk
  exact hk.imp (fun h=>hR.sub k (f.sub k h)) id
 ·intro k hk
  refine⟨fun h=>h.2 hk,fun hb=> ?_⟩
  rcases hk with hk|hk
  ·have hb':=f.sub k hk
   cases pl with
   |val _=>exact hb
   |mem b0 o0=>
    cases hb
    exact hPl.1 hb'
  ·exact(hXr k hk).2 hb
end
end Go.Lf
