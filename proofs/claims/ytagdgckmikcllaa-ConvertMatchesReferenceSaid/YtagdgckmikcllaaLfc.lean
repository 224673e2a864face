/- A write behind the last element of an owned slice is seen by nobody. -/
import Derived.Test.YtagdgckmikcllaaLfb
import Derived.Great.BuildSlice
set_option linter.unusedVariables false
set_option linter.unusedSimpArgs false
namespace Go.Lf

abbrev qN:=Option (Prop×Ent×List Nat)

def mkE(C:Ctx)(d:Nat)(τ:Ty)(m:Md)(x:τ.den):Ent:=bif τ.flat||dO m||eD C.frz d then .shr τ x else .own τ m x

def dropAll(env:St):List Nat->St
 | []=>env
 |r::l=>dropAll (drop env r) l

section
variable {P:Program} {C:Ctx} {N:NP} {w0:World} {F0 H:aA} {env:St} {a:Act} {w:World} {F:aA} {S:Nat->aA} {d:Nat}

theorem aJ.putNew(hi:aJ P N w0 F0 H env a w F S){τ:Ty}{m:Md}{x:τ.den}{v:Value}{w':World}{F' Sd:aA}(hd:Wr N d)(hb:RowKit.Below w.heap.size w w')
  (hF:Sub F F') (hFb:∀b,F' b->b<w'.heap.size) (hFn:∀b,F' b->¬F b->w.heap.size<=b)
  (hS:∀b,Sd b->(w0.heap.size<=b∨H b)/\b<w'.heap.size/\¬F' b/\∀t,¬S t b) (hv:aT F' w' τ m Sd v x):
  ∃F2 S2,aJ P N w0 F0 H (Go.Lf.put env d (mkE C d τ m x)) (a.put (some d) v) w' F2 S2:=by
 have hVd:(a.put (some d) v).tmps.getD d undef=v:=by rw[Act.getD_put (by rw[hi.slots.size];exact hd.1),if_pos rfl]
 unfold mkE
 cases hk:(τ.flat||dO m||eD C.frz d)
 ·simp only[cond_false]
  refine⟨F',_,hi.put (Sd:=Sd) hd hb hF hFb ?_ (fun b h=>⟨(hS b h).1,(hS b h).2.1,(hS b h).2.2.1,fun t _=>(hS b h).2.2.2 t⟩) ?_⟩
  ·intro b h1 h2
   have:=hFn b h1 h2
   have:=hi.size
   exact⟨.inl (by omega),fun t _ ht=>by have:=(hi.sb t b ht).2.1;omega⟩
  ·obtain⟨cs,h1,h2⟩:=hv
   simp only[aF,if_true,hVd];exact⟨.val cs,Sd,cs,.inl ⟨rfl,rfl,rfl,h1⟩,rfl,h2⟩
 ·simp only[cond_true]
  refine⟨fun b=>F' b∨Sd b,_,hi.put (Sd:=none') hd hb (fun b h=> .inl (hF b h)) ?_ ?_ (fun _ h=>h.elim) ?_⟩
  ·intro b h
   rcases h with h|h
   ·exact hFb b h
   ·exact(hS b h).2.1
  ·intro b h1 h2
   rcases h1 with h1|h1
   ·have:=hFn b h1 h2
    have:=hi.size
    exact⟨.inl (by omega),fun t _ ht=>by have:=(hi.sb t b ht).2.1;omega⟩
   ·exact⟨(hS b h1).1,fun t _=>(hS b h1).2.2.2 t⟩
  ·simp only[aF,hVd]
   exact hv.freeze (fun _ h=>h)

theorem aJ.grow(hi:aJ P N w0 F0 H env a w F S){w':World}{F':aA}(hb:RowKit.Below w.heap.size w w')(hF:Sub F F')(hFb:∀b,F' b->b<w'.heap.size)(hFn:∀b,F' b->¬F b->w.heap.size<=b):
  aJ P N w0 F0 H env a w' F' S:=by
 have h0:=hi.size
 refine⟨hb.os.trans hi.os,hb.tape.trans hi.tape,hb.output.trans hi.output,Nat.le_trans hi.size hb.size,fun k hk hH=>by rw[hb.block k (Nat.lt_of_lt_of_le hk hi.size)];exact hi.block k hk hH,hFb,fun b hb=>hF b (hi.f0 b hb),?_,?_,hi.sd,?_,hi.defers,hi.slots⟩
 ·intro b h1 h2
  by_cases h:F b
  ·exact hi.fn b h h2
  ·exact .inl (Nat.le_trans h0 (hFn b h1 h))
 ·intro t b ht
  obtain⟨g1,g2,g3⟩:=hi.sb t b ht;exact⟨g1,Nat.lt_of_lt_of_le g2 hb.size,fun h=>by have:=hFn b h g3;omega⟩
 ·intro t
  refine aF.keep hF (fun b h=>hb.block b (hi.fb b h)) rfl ?_ ?_ (hi.ent t)
  ·intro r hr
   exact⟨fun _=>rfl,fun _=>rfl,rfl,fun b h=>hb.block b (hi.sb r b h).2.1,fun b h1 h2 h3=>by have:=hFn b h1 h2;have:=(hi.sb r b h3).2.1;omega,fun b h=>(hi.sb r b h).2.2⟩
  ·intro _
   exact⟨rfl,fun b h=>hb.block b (hi.sb t b h).2.1,fun b h1 h2 h3=>by have:=hFn b h1 h2;have:=(hi.sb t b h3).2.1;omega⟩

def mkB(C:Ctx)(d:Nat)(τ:Ty)(m:Md)(x:τ.den):Ent:=bif eD C.frz d then .saddr τ x else .box τ m x

theorem aJ.putBox(hi:aJ P N w0 F0 H env a w F S){τ:Ty}{m:Md}{x:τ.den}{cs:List Value}{T:TypeId}{Sd:aA}(hd:Wr N d)
  (hS:∀b,Sd b->(w0.heap.size<=b∨H b)/\b<w.heap.size/\¬F b/\∀t,¬S t b) (hv:Own F w τ m Sd cs x):
  ∃F2 S2,aJ P N w0 F0 H (Go.Lf.put env d (mkB C d τ m x)) (a.put (some d) (.pointer (some ⟨w.heap.size,0,none⟩))) (w.alloc (.cells cs.toArray T)) F2 S2:=by
 have hVd:∀v,(a.put (some d) v).tmps.getD d undef=v:=fun v=>by rw[Act.getD_put (by rw[hi.slots.size];exact hd.1),if_pos rfl]
 have hb:RowKit.Below w.heap.size w (w.alloc (.cells cs.toArray T)):=(RowKit.Below.refl _ _).alloc (Nat.le_refl _) _
 have hsz:(w.alloc (.cells cs.toArray T)).heap.size=w.heap.size+1:=by simp
 have hnew:(w.alloc (.cells cs.toArray T)).heap[w.heap.size]? =some (.cells cs.toArray T (0,0)):=by
  show(w.heap.push _)[w.heap.size]? =_
  simp
 have hlen:=hv.len
 have hv':Own F (w.alloc (.cells cs.toArray T)) τ m Sd cs x:=hv.congr (fun b hb'=>hb.block b (hi.fb b hb')) (fun b hb'=>hb.block b (hS b hb').2.1)
 have hseg:seg cs 0 τ.size=cs:=by unfold seg;rw[List.drop_zero,List.take_of_length_le (by omega)]
 have hi0:=hi.size
 unfold mkB
 cases hk:eD C.frz d
 ·simp only[cond_false]
  refine⟨F,_,hi.put (Sd:=fun b=>Sd b∨b=w.heap.size) hd hb (fun _ h=>h) (fun b h=>by have:=hi.fb b h;omega) (fun b h1 h2=>absurd h1 h2) ?_ ?_⟩
  ·intro b h
   rcases h with h|h
   ·exact⟨(hS b h).1,by have:=(hS b h).2.1;omega,(hS b h).2.2.1,fun t _=>(hS b h).2.2.2 t⟩
   ·subst h
    exact⟨.inl hi0,by omega,fun h=>by have:=hi.fb _ h;omega,fun t _ ht=>by have:=(hi.sb t _ ht).2.1;omega⟩
  ·simp only[aF,if_true,hVd]
   refine⟨.mem w.heap.size 0,fun b=>Sd b/\b≠w.heap.size,cs,.inr ⟨rfl,w.heap.size,rfl,?_,rfl,.inr rfl⟩,?_,?_⟩
   ·funext k
    apply propext
    constructor
    ·rintro⟨h1,h2⟩;exact⟨.inl h1,h2⟩
    ·rintro⟨h1|h1,h2⟩
     ·exact⟨h1,h2⟩
     ·exact absurd h1 h2
   ·refine⟨fun h=>h.2 rfl,fun h=>by have:=hi.fb _ h;omega,cs.toArray,T,hnew,by simp[hlen],by simpa using hseg⟩
   ·exact hv'.mono (fun _ h=>h) (fun b h=>⟨h,fun e=>by have:=(hS b h).2.1;omega⟩)
 ·simp only[cond_true]
  refine⟨fun b=>F b∨Sd b∨b=w.heap.size,_,hi.put (Sd:=none') hd hb (fun b h=> .inl h) ?_ ?_ (fun _ h=>h.elim) ?_⟩
  ·rintro b (h|h|h)
   ·have:=hi.fb b h;omega
   ·have:=(hS b h).2.1;omega
   ·omega
  ·rintro b (h1|h1|h1) h2
   ·exact absurd h1 h2
   ·exact⟨(hS b h1).1,fun t _=>(hS b h1).2.2.2 t⟩
   ·exact⟨.inl (by omega),fun t _ ht=>by have:=(hi.sb t b ht).2.1;omega⟩
  ·simp only[aF,hVd]
   refine⟨w.heap.size,0,cs.toArray,T,(0,0),rfl,.inr (.inr rfl),hnew,by simp[hlen],?_⟩
   have:=(Own.freeze (S':=none') hv').mono (F':=fun b=>F b∨Sd b∨b=w.heap.size) (fun b h=>h.imp id .inl) (fun _ h=>h)
   simpa[hseg]using this

theorem aJ.dropAll:∀(l:List Nat) {env:St} {S:Nat->aA},aJ P N w0 F0 H env a w F S->
  ∃S2,aJ P N w0 F0 H (Go.Lf.dropAll env l) a w F S2/\(∀t,t∈l->∀b,¬S2 t b)/\∀t b,S2 t b->S t b
 | [],env,S,hi=>⟨S,hi,fun _ h=>(by cases h),fun _ _ h=>h⟩
 |r::l,env,S,hi=>by
  obtain⟨S2,h1,h2,h3⟩:=aJ.dropAll l (hi.drop r);refine⟨S2,h1,?_,?_⟩
  ·intro t ht b hb
   rcases List.mem_cons.1 ht with rfl|ht
   ·have:=h3 _ _ hb
    simp at this;exact this
   ·exact h2 t ht b hb
  ·intro t b hb
   have:=h3 t b hb
   by_cases e:t=r
   ·simp[e]at this;exact this.elim
   ·simpa[e]using this
end

def bY{τ σ:Ty}(x:τ.den):Option σ.den:=if h:τ=σ then some (h▸x)else none

def nilD:(τ:Ty)->Option τ.den
 | .slice e=>some ([]:List e.den)
 |_=>none

def aP.shrAs(e:Ty)(v:aP):Option e.den:=
 match v.e with
 | .shr τ x=>bY (τ:=τ) x
 | .full e' x=>bY (τ:= .slice e') x
 | .nilS=>nilD e
 |_=>bif e.flat then(match v.val with
  |some ⟨τ,x⟩=>bY (τ:=τ) x
  |none=>none)else none

def nilOwn:(τ:Ty)->Md->Option τ.den
 | .slice e,.own _=>some ([]:List e.den)
 |_,_=>none

def aP.ownAs(e:Ty)(m:Md)(v:aP):Option (e.den×List Nat):=
 match v.e,v.s with
 | .own τ m' x,some t=>bif decide (m'=m)then(bY (τ:=τ) (σ:=e) x).map fun y=>(y,[t])else none
 | .nilS,_=>(nilOwn e m).map fun y=>(y,[])
 |_,_=>none

section
variable {P:Program} {C:Ctx} {N:NP} {w0:World} {F0 H:aA} {env:St} {a:Act} {w:World} {F:aA} {S:Nat->aA} {d:Nat}

theorem aV{τ σ:Ty}{x:τ.den}{y:σ.den}(h:bY (σ:=σ) x=some y):(⟨τ,x⟩:Σ τ:Ty,τ.den)=⟨σ,y⟩:=by
 unfold bY at h
 split at h
 ·rename_i e;subst e;injection h with h;subst h;rfl
 ·cases h

theorem aT.nil(G:aA)(w:World)(e:Ty)(m:Md)(S:aA):aT G w (.slice e) m S (.slice none 0 0) ([]:List e.den):=by
 refine⟨[.slice none 0 0],rfl,none,0,rfl,by simp,by simp,?_⟩
 cases m with
 |own me=>exact .inl ⟨rfl,rfl⟩
 |shr=>exact .inl rfl
 |pair a b=>exact .inl rfl

theorem fN(hi:aJ P N w0 F0 H env a w F S){v:Value}{vw:aP}(hv:aU P F w env (fun t=>a.tmps.getD t undef) S v vw){e:Ty}{x:e.den}(h:vw.shrAs e=some x):
  aT F w e .shr none' v x:=by
 unfold aP.shrAs at h
 split at h
 ·rename_i τ y he
  have hsh:=hv.ent (by rw[he];rfl) 0 (by rw[he];simp[Ent.root])
  rw[he]at hsh;simp only[aF,if_true]at hsh;have:=aV h;injection this with e1 e2;subst e1;cases e2;exact hsh
 ·rename_i e' y he
  have hsh:=hv.ent (by rw[he];rfl) 0 (by rw[he];simp[Ent.root])
  rw[he]at hsh;simp only[aF,if_true]at hsh;obtain⟨_,_,hsh⟩:=hsh;have:=aV h;injection this with e1 e2;subst e1;cases e2;exact hsh
 ·rename_i he
  have hsh:=hv.ent (by rw[he];rfl) 0 (by rw[he];simp[Ent.root])
  rw[he]at hsh;simp only[aF,if_true]at hsh;cases e<;>simp only[nilD,reduceCtorEq,Option.some.injEq]at h;subst h;rw[hsh];exact .nil _ _ _ _ _
 ·cases hf:e.flat
  ·rw[hf]at h;cases h
  ·rw[hf]at h
   simp only[cond_true]at h;split at h
   ·rename_i τ y hval
    have:=aV h
    injection this with e1 e2;subst e1;cases e2;exact aT.flat hf (aP.val_ok hi hv hval)
   ·cases h

theorem iC(hi:aJ P N w0 F0 H env a w F S){v:Value}{vw:aP}(hv:aU P F w env (fun t=>a.tmps.getD t undef) S v vw){e:Ty}{m:Md}{x:e.den}{l:List Nat}(h:vw.ownAs e m=some (x,l)):
  (l=[]/\aT F w e m none' v x)∨∃t,l=[t]/\aT F w e m (S t) v x:=by
 unfold aP.ownAs at h
 split at h
 ·rename_i τ m' y t he hs
  cases hm:decide (m'=m)
  ·rw[hm]at h;cases h
  ·rw[hm]at h
   have hm:=of_decide_eq_true hm
   subst hm;simp only[cond_true,Option.map_eq_some_iff,Prod.mk.injEq]at h;obtain⟨z,h1,rfl,rfl⟩:=h;have:=aV h1;injection this with e1 e2;subst e1;cases e2;obtain⟨t',g1,g2,rfl⟩:=hv.own (by rw[he];rfl);rw[hs]at g1;injection g1 with g1;subst g1;have h3:=hi.ent t;rw[g2,he]at h3;obtain⟨pl,S0,cs,h3⟩:=h3;obtain⟨_,_,e3,e4,e5⟩:=h3.own_inj;subst e4;exact .inr ⟨t,rfl,cs,e5,h3.2.2⟩
 ·rename_i _ he
  simp only[Option.map_eq_some_iff,Prod.mk.injEq]at h;obtain⟨z,h1,rfl,rfl⟩:=h;have hsh:=hv.ent (by rw[he];rfl) 0 (by rw[he];simp[Ent.root]);rw[he]at hsh;simp only[aF,if_true]at hsh;left;refine⟨rfl,?_⟩;cases e<;>cases m<;>simp only[nilOwn,reduceCtorEq,Option.some.injEq]at h1;subst h1;rw[hsh];exact .nil _ _ _ _ _
 ·cases h

def vG(e:Ty)(m:Md):List aP->Option (List e.den×List Nat)
 | []=>some ([],[])
 |v::vs=>match(bif dO m then(v.shrAs e).map fun x=>(x,[])else v.ownAs e m),vG e m vs with
  |some (x,l),some (xs,ls)=>some (x::xs,l++ls)
  |_,_=>none

def SL(S:Nat->aA)(l:List Nat):aA:=fun b=>∃t∈l,S t b

def bQ:List Nat->Bool
 | []=>true
 |t::l=> !eD l t&&bQ l

theorem fF{l:List Nat}{n:Nat}:eD l n=true↔n∈l:=by
 induction l with
 |nil=>simp[eD]
 |cons k l ih=>
  unfold eD;cases h:Nat.beq k n
  ·simp only[cond_false,ih,List.mem_cons]
   constructor
   ·exact .inr
   ·rintro (rfl|h')
    ·simp at h
    ·exact h'
  ·simp only[cond_true,true_iff,List.mem_cons]
   exact .inl (Nat.eq_of_beq_eq_true h).symm

def VsOK(P:Program)(F:aA)(w:World)(env:St)(V:Nat->Value)(S:Nat->aA):List Value->List aP->Prop
 | [],[]=>True
 |v::vs,u::us=>aU P F w env V S v u/\VsOK P F w env V S vs us
 |_,_=>False

theorem w9(hi:aJ P N w0 F0 H env a w F S){e:Ty}{m:Md}:∀ {vs:List Value} {vws:List aP} {xs:List e.den} {l:List Nat},
  VsOK P F w env (fun t=>a.tmps.getD t undef) S vs vws->vG e m vws=some (xs,l)->bQ l=true->
  vs.length=xs.length/\∃Si:Nat->aA,(∀i,Sub (Si i) (SL S l))/\(∀i j,i≠j->Dis (Si i) (Si j))/\∀i v x,vs[i]? =some v->xs[i]? =some x->aT F w e m (Si i) v x
 | [],[],xs,l,_,h,_=>by
  simp only[vG,Option.some.injEq,Prod.mk.injEq]at h;obtain⟨rfl,rfl⟩:=h;exact⟨rfl,fun _=>none',fun _ _ h=>h.elim,fun _ _ _ _ h=>h.elim,fun i v x h=>by simp at h⟩
 |v::vs,vw::vws,xs,l,⟨hv,hvs⟩,h,hn=>by
  simp only[vG]at h;split at h
  ·rename_i x l1 xs1 l2 h1 h2
   simp only[Option.some.injEq,Prod.mk.injEq]at h;obtain⟨rfl,rfl⟩:=h;have hn2:bQ l2=true/\∀t,t∈l1->t∉l2:=by
    cases hm:dO m
    ·rw[hm]at h1
     simp only[cond_false]at h1;rcases iC hi hv h1 with⟨rfl,_⟩|⟨t,rfl,_⟩
     ·exact⟨hn,fun _ h=>(by cases h)⟩
     ·simp only[List.cons_append,List.nil_append,bQ,Bool.and_eq_true,Bool.not_eq_true']at hn
      refine⟨hn.2,fun t' ht' h=> ?_⟩
      simp only[List.mem_singleton]at ht';subst ht';have:=fF.2 h;rw[hn.1]at this;cases this
    ·rw[hm]at h1
     simp only[cond_true,Option.map_eq_some_iff,Prod.mk.injEq]at h1;obtain⟨_,_,_,rfl⟩:=h1;exact⟨hn,fun _ h=>(by cases h)⟩
   obtain⟨g1,Si,g2,g3,g4⟩:=w9 hi hvs h2 hn2.1;have hfst:∃S1,Sub S1 (SL S l1)/\aT F w e m S1 v x:=by
    cases hm:dO m
    ·rw[hm]at h1
     simp only[cond_false]at h1;rcases iC hi hv h1 with⟨rfl,h3⟩|⟨t,rfl,h3⟩
     ·exact⟨none',fun _ h=>h.elim,h3⟩
     ·exact⟨S t,fun b hb=>⟨t,by simp,hb⟩,h3⟩
    ·rw[hm]at h1
     simp only[cond_true,Option.map_eq_some_iff,Prod.mk.injEq]at h1;obtain⟨_,h3,rfl,rfl⟩:=h1;have:m= .shr:=by cases m<;>first|rfl|cases hm
     subst this;exact⟨none',fun _ h=>h.elim,fN hi hv h3⟩
   obtain⟨S1,k1,k2⟩:=hfst;refine⟨by simp[g1],fun i=>match i with|0=>S1|i+1=>Si i,?_,?_,?_⟩
   ·intro i b hb
    cases i with
    |zero=>obtain⟨t,ht,hb⟩:=k1 b hb;exact⟨t,by simp[ht],hb⟩
    |succ i=>obtain⟨t,ht,hb⟩:=g2 i b hb;exact⟨t,by simp[ht],hb⟩
   ·have hcross:∀i,Dis S1 (Si i):=by
     intro i b hb1 hb2;obtain⟨t1,ht1,hb1⟩:=k1 b hb1;obtain⟨t2,ht2,hb2⟩:=g2 i b hb2;exact hi.sd t1 t2 (fun h=>hn2.2 t1 ht1 (h▸ht2)) b hb1 hb2
    intro i j hij;cases i with
    |zero=>cases j with
     |zero=>exact absurd rfl hij
     |succ j=>exact hcross j
    |succ i=>cases j with
     |zero=>exact fun b h1 h2=>hcross i b h2 h1
     |succ j=>exact g3 i j (fun h=>hij (by rw[h]))
   ·intro i u y hu hy
    cases i with
    |zero=>simp at hu hy;subst hu;subst hy;exact k2
    |succ i=>exact g4 i u y (by simpa using hu) (by simpa using hy)
  ·cases h
 | [],_::_,_,_,h,_,_=>h.elim
 |_::_,[],_,_,h,_,_=>h.elim

theorem seg_flat{s:Nat}:∀(css:List (List Value)) (i:Nat) (c:List Value),(∀c∈css,c.length=s)->css[i]? =some c->seg css.flatten (i*s) s=c
 | [],i,c,_,h=>by simp at h
 |a::css,0,c,hl,h=>by
  simp at h;subst h
  simp only[Nat.zero_mul,List.flatten_cons];exact bP _ _ _ (hl a (by simp))
 |a::css,i+1,c,hl,h=>by
  have:=seg_flat css i c (fun c hc=>hl c (by simp[hc])) (by simpa using h)
  have ha:=hl a (by simp)
  simp only[List.flatten_cons,seg]at this⊢;rw[show (i+1)*s=a.length+i*s from by rw[Nat.add_mul,Nat.one_mul,ha];omega,List.drop_append,List.drop_of_length_le (by omega),List.nil_append]
  rw[show a.length+i*s-a.length=i*s from by omega]
  exact this

theorem flat_len{s:Nat}:∀(css:List (List Value)),(∀c∈css,c.length=s)->css.flatten.length=css.length*s
 | [],_=>by simp
 |a::css,hl=>by
  have:=flat_len css (fun c hc=>hl c (by simp[hc]))
  have ha:=hl a (by simp)
  simp only[List.flatten_cons,List.length_append,List.length_cons,Nat.add_mul,Nat.one_mul];omega

end
end Go.Lf
namespace Go.Lf

def dftM:Ty->Md
 | .prod a b=> .pair (dftM a) (dftM b)
 | .slice _=> .own .shr
 | .arr _ e=> .own (dftM e)
 |_=> .shr

def lJ(C:Ctx)(d:Nat)(m:Md):Md:=match look C.mds d with
 |some m'=>m'
 |none=>m

def elM:Md->Md
 | .own e=>e
 |_=> .shr

def allocE(C:Ctx)(d:Nat)(T:TypeId):qN:=
 match look C.tys T with
 |some τ=>some (True,mkB C d τ (lJ C d (dftM τ)) τ.dflt,[])
 |none=>none

def boxE(C:Ctx)(d:Nat)(T:TypeId)(v:aP):qN:=
 match look C.tys T with
 |some τ=>match v.e with
  | .own _ m _=>match v.ownAs τ m with
   |some (x,l)=>some (True,mkB C d τ m x,l)
   |none=>none
  | .box _ _ _=>(match v.s,τ with
   |some t,.abs .ptr=>bif Nat.beq t d then none else some (True,.pp t,[])
   |_,_=>none)
  |_=>match v.shrAs τ with
   |some x=>some (True,mkB C d τ .shr x,[])
   |none=>none
 |none=>none

def bJ:Int:=2147483648

def makeE(C:Ctx)(d:Nat)(T:TypeId)(vl vc:aP):qN:=
 match look C.tys T,vl.val,vc.val with
 |some (.slice e),some ⟨.int _,n⟩,some ⟨.int _,c⟩=>
  some (0<=n/\n<=c/\c<=bJ,mkE C d (.slice e) (.own (elM (lJ C d (.own .shr)))) (List.replicate (Int.toNat n) e.dflt),[])
 |_,_,_=>none

def vI:Nat->List (Nat×Operand)->Bool
 |_,[]=>true
 |n,(k,_)::l=>Nat.beq k n&&vI (n+1) l

def litE(C:Ctx)(d:Nat)(T:TypeId)(len:Nat)(parts:List (Nat×Operand))(f:Operand->aP):qN:=
 match look C.tys T with
 |some (.slice e)=>bif vI 0 parts&&Nat.beq parts.length len&&Nat.ble (len*e.size) 16777216 then
   (match vG e (elM (lJ C d (.own .shr))) (parts.map fun p=>f p.2)with
   |some (xs,l)=>bif bQ l then some (True,mkE C d (.slice e) (.own (elM (lJ C d (.own .shr)))) xs,l)else none
   |none=>none)else none
 |_=>none

def iU(τ:Ty)(f:Operand->aP):List (Nat×Operand)->τ.den->Md->List Nat->Option (τ.den×Md×List Nat)
 | [],x,m,l=>some (x,m,l)
 |(k,z)::ps,x,m,l=>match aN (aZ k) τ x with
  |some ⟨σ,_⟩=>match(f z).e with
   | .own _ μ _=>match(f z).ownAs σ μ with
    |some (y,l')=>match eM (aZ k) τ x σ y,gC (aZ k) τ m μ with
     |some x',some m'=>iU τ f ps x' m' (l++l')
     |_,_=>none
    |none=>none
   |_=>match(f z).shrAs σ with
    |some y=>match eM (aZ k) τ x σ y,gC (aZ k) τ m .shr with
     |some x',some m'=>iU τ f ps x' m' l
     |_,_=>none
    |none=>none
  |none=>none

def allShr:Ty->Md->Bool
 | .prod a b,m=>allShr a m.fst&&allShr b m.snd
 | .slice _,m=>dO m
 | .arr _ e,m=>allShr e m.elem
 |_,_=>true

def mkS(C:Ctx)(d:Nat)(τ:Ty)(m:Md)(x:τ.den):Ent:=bif allShr τ m then .shr τ x else mkE C d τ m x

def isProd:Ty->Bool
 | .prod _ _=>true
 |_=>false

def buildE(C:Ctx)(d:Nat)(T:TypeId)(parts:List (Nat×Operand))(f:Operand->aP):qN:=
 match look C.tys T with
 |some τ=>bif isProd τ then
   (match iU τ f parts τ.dflt (lJ C d (dftM τ)) []with
   |some (x,m,l)=>bif bQ l then some (True,mkS C d τ m x,l)else none
   |none=>none)else none
 |none=>none

section
variable {P:Program} {C:Ctx} {N:NP} {w0:World} {F0 H:aA} {env:St} {a:Act} {w:World} {F:aA} {S:Nat->aA} {d:Nat}

def oA(P:Program)(N:NP)(w0:World)(F0 H:aA)(env:St)(a:Act)(w:World)(d:Nat)(s:Sem Next)(e:Ent)(used:List Nat):Prop:=
 ∃v w' F2 S2,s.run P w= .ok (.value v) w'/\aJ P N w0 F0 H (put (dropAll env used) d e) (a.put (some d) v) w' F2 S2

theorem oA.of_pure(hi:aJ P N w0 F0 H env a w F S)(hd:Wr N d){s:Sem Next}{e:Ent}(h:c8 P F w env (fun t=>a.tmps.getD t undef) S d s e)(hr:e.root≠some d):
  oA P N w0 F0 H env a w d s e []:=by
 obtain⟨v,h1,h2,h3⟩:=h
 exact⟨v,w,F,_,h1,hi.putSimple hd h2 hr (h3 hr)⟩

theorem kP(w:World)(o:Obj):RowKit.Below w.heap.size w (w.alloc o):=(RowKit.Below.refl _ _).alloc (Nat.le_refl _) _

theorem allocE_ok(hC:aG P C)(hi:aJ P N w0 F0 H env a w F S)(hd:Wr N d){T:TypeId}{o:Oper}(ho:o.op= .alloc T)
  {c:Prop} {e:Ent} {l:List Nat} (h:allocE C d T=some (c,e,l)):oA P N w0 F0 H env a w d (execOp a.eval o) e l:=by
 unfold allocE at h
 split at h
 ·rename_i τ hT
  simp only[Option.some.injEq,Prod.mk.injEq]at h;obtain⟨rfl,rfl,rfl⟩:=h;have hr:=hC.types T _ hT;have hz:=Own.zero F w τ (lJ C d (dftM τ)) none';obtain⟨F2,S2,h2⟩:=hi.putBox (C:=C) (T:=T) hd (fun _ h=>h.elim) hz
  refine⟨_,_,F2,S2,?_,h2⟩
  simp[execOp,ho,Instr.alloc,hr.run_zero,uO P T (dK hz.len hz.one)]
 ·cases h

theorem oQ{S2:Nat->aA}{l:List Nat}(h1:∀t,t∈l->∀b,¬S2 t b)(h2:∀t b,S2 t b->S t b)(hi:aJ P N w0 F0 H env a w F S):
  ∀b,SL S l b->(w0.heap.size<=b∨H b)/\b<w.heap.size/\¬F b/\∀t,¬S2 t b:=by
 rintro b ⟨t,ht,hb⟩
 obtain⟨g1,g2,g3⟩:=hi.sb t b hb
 refine⟨g1,g2,g3,fun u hu=> ?_⟩
 by_cases e:u=t
 ·subst e;exact h1 u ht b hu
 ·exact hi.sd u t e b (h2 u b hu) hb

theorem boxE_ok(hC:aG P C)(hi:aJ P N w0 F0 H env a w F S)(hd:Wr N d){T:TypeId}{x:Operand}{o:Oper}(ho:o.op= .box T x){vx:aP}
  (hx:aU P F w env (fun t=>a.tmps.getD t undef) S (a.eval x) vx)
  {c:Prop} {e:Ent} {l:List Nat} (h:boxE C d T vx=some (c,e,l)):oA P N w0 F0 H env a w d (execOp a.eval o) e l:=by
 have hrun:∀ {τ:Ty} {cs:List Value},(bH τ cs).cells=cs.toArray->a.eval x=bH τ cs->(execOp a.eval o).run P w= .ok (.value (.pointer (some ⟨w.heap.size,0,none⟩))) (w.alloc (.cells cs.toArray T)):=by
  intro τ cs h1 h2;simp[execOp,ho,Instr.box,h2,uO P T h1]
 unfold boxE at h
 split at h
 ·rename_i τ hT
  split at h
  ·rename_i τ' m y he
   split at h
   ·rename_i z l' hz
    simp only[Option.some.injEq,Prod.mk.injEq]at h;obtain⟨rfl,rfl,rfl⟩:=h;obtain⟨S2,h2,h3,h4⟩:=aJ.dropAll l' hi;have hown:∃S1,Sub S1 (SL S l')/\aT F w τ m S1 (a.eval x) z:=by
     rcases iC hi hx hz with⟨rfl,h⟩|⟨t,rfl,h⟩
     ·exact⟨none',fun _ h=>h.elim,h⟩
     ·exact⟨S t,fun b hb=>⟨t,by simp,hb⟩,h⟩
    obtain⟨S1,k1,cs,k2,k3⟩:=hown;obtain⟨F2,S3,h5⟩:=h2.putBox (C:=C) (T:=T) hd (fun b hb=>oQ h3 h4 hi b (k1 b hb)) k3
    exact⟨_,_,F2,S3,hrun (dK k3.len k3.one) k2,h5⟩
   ·cases h
  ·rename_i τb mb xb he
   split at h
   ·rename_i t hvs
    cases htd:Nat.beq t d
    ·rw[htd]at h
     simp only[cond_false,Option.some.injEq,Prod.mk.injEq]at h;obtain⟨rfl,rfl,rfl⟩:=h;have hne:t≠d:=fun e=>by rw[e,Nat.beq_refl]at htd;cases htd
     obtain⟨t',h1,h2,h3⟩:=hx.own (by rw[he];rfl);rw[hvs]at h1;injection h1 with h1;subst h1;have hent:=hi.ent t;rw[h2,he]at hent;obtain⟨pl,S0,cs,hr⟩:=hent;obtain⟨_,_,b,rfl,hS0,hv,hsb⟩:=hr.box_inj;have hv:a.eval x= .pointer (some ⟨b,0,none⟩):=h3.trans hv;have hbl:RowKit.Below w.heap.size w (w.alloc (.cells #[.pointer (some ⟨b,0,none⟩)] T)):=(RowKit.Below.refl _ _).alloc (Nat.le_refl _) _;have hsz:(w.alloc (.cells #[.pointer (some ⟨b,0,none⟩)] T)).heap.size=w.heap.size+1:=by simp
     have hgr:=hi.grow (w':=w.alloc (.cells #[.pointer (some ⟨b,0,none⟩)] T)) (F':=fun k=>F k∨k=w.heap.size) hbl (fun k h=> .inl h)
      (by rintro k (h|h);have:=hi.fb k h;omega;omega) (by rintro k (h|h) h';exact absurd h h';omega)
     have hent2:=hgr.ent t
     rw[h2,he]at hent2;obtain⟨pl2,S2,cs2,hr2⟩:=hent2;obtain⟨_,_,b2,rfl,hS2,hv2,hsb2⟩:=hr2.box_inj;have hbb:b2=b:=by
      have h4:a.eval x= .pointer (some ⟨b2,0,none⟩):=h3.trans hv2
      rw[hv]at h4;injection h4 with h4;injection h4 with h4;injection h4 with h4;exact h4.symm
     subst hbb;refine⟨.pointer (some ⟨w.heap.size,0,none⟩),_,_,_,hrun (τ:= .abs .ptr) (cs:=[.pointer (some ⟨b2,0,none⟩)]) rfl hv,hgr.putSimple hd rfl (by simp[Ent.root,hne]) ?_⟩;refine⟨τb,mb,xb,b2,S2,cs2,?_,w.heap.size,0,#[.pointer (some ⟨b2,0,none⟩)],T,(0,0),by simp,.inr rfl,?_,rfl⟩
     ·simp only[hne,if_false]
      rw[h2,he];exact hr2
     ·show(w.heap.push _)[w.heap.size]? =_
      simp
    ·rw[htd]at h;cases h
   ·cases h
  ·split at h
   ·rename_i z hz
    simp only[Option.some.injEq,Prod.mk.injEq]at h;obtain⟨rfl,rfl,rfl⟩:=h;obtain⟨cs,k2,k3⟩:=fN hi hx hz;obtain⟨F2,S3,h5⟩:=hi.putBox (C:=C) (T:=T) hd (fun _ h=>h.elim) k3
    exact⟨_,_,F2,S3,hrun (dK k3.len k3.one) k2,h5⟩
   ·cases h
 ·cases h

theorem aT.newRow{G:aA}{w':World}{e:Ty}{me:Md}{b:Nat}{row:Array Value}{T:TypeId}{cap:Nat}{xs:List e.den}{Si:Nat->aA}{Sd:aA}
  (hb:Sd b) (hr:w'.heap[b]? =some (.cells row T (0,0))) (hsz:cap*e.size<=row.size) (hl:xs.length<=cap) (hlim:xs.length<=lim)
  (hS:∀i,Sub (Si i) Sd) (hnb:∀i,¬Si i b) (hdis:∀i j,i≠j->Dis (Si i) (Si j))
  (he:∀i x,xs[i]? =some x->Own G w' e me (Si i) (seg row.toList (i*e.size) e.size) x):
  aT G w' (.slice e) (.own me) Sd (.slice (some ⟨b,0,none⟩) xs.length cap) xs:=
 ⟨[.slice (some ⟨b,0,none⟩) xs.length cap],rfl,_,cap,rfl,hl,hlim,.inr ⟨b,0,row,T,Si,rfl,hb,hr,by omega,hS,hnb,hdis,fun i x hx=>by rw[Nat.zero_add];exact he i x hx⟩⟩

theorem lO(w:World)(o:Obj):(w.alloc o).heap[w.heap.size]? =some o:=by
 show(w.heap.push _)[w.heap.size]? =_
 simp

theorem seg_made(z:List Value)(n i:Nat)(hi:i<n):seg (madeCells z.toArray (n*z.length)).toList (i*z.length) z.length=z:=by
 apply List.ext_getElem?
 intro j
 simp only[seg,List.getElem?_take,List.getElem?_drop]
 by_cases hj:j<z.length
 ·rw[if_pos hj]
  have hle:(i+1)*z.length<=n*z.length:=Nat.mul_le_mul_right _ (by omega)
  rw[Nat.add_mul,Nat.one_mul]at hle;have hlt:i*z.length+j<n*z.length:=by omega
  simp[madeCells,hlt,hj,Nat.mod_eq_of_lt hj]
 ·rw[if_neg hj,List.getElem?_eq_none (by omega)]

theorem make_core(hC:aG P C)(hi:aJ P N w0 F0 H env a w F S)(hd:Wr N d){T:TypeId}{e':Ty}(hT:look C.tys T=some (.slice e')){k k':IntKind}{n q:Int}{me:Md}(c1:0<=n)(c2:n<=q)(c3:q<=bJ):
  ∃v w' F2 S2,(Instr.makeSlice T (.int k n) (.int k' q)).run P w= .ok v w'/\aJ P N w0 F0 H (put env d (mkE C d (.slice e') (.own me) (List.replicate n.toNat e'.dflt))) (a.put (some d) v) w' F2 S2:=by
 obtain⟨E,t1,t2,t3⟩:=(hC.types T _ hT).slice
 obtain⟨i,dd,q1,q2,q3,q4,q5,q6⟩:=hC.types E _ t2
 have hz:=Own.zero F w e' .shr none'
 have hzc:=dK hz.len hz.one
 unfold bJ at c3
 have hm:=run_make (P:=P) w T E i _ t1 q1 q5 k k' n q c1 c2 (by
  have h1:(i.bytes:Int)<=65536:=by omega
  have:(i.bytes:Int)*q<=65536*q:=Int.mul_le_mul_of_nonneg_right h1 (by omega)
  omega) (by omega)
 rw[hzc,q3,show e'.size=e'.zero.length from hz.len.symm]at hm
 have hnq:n.toNat<=q.toNat:=by omega
 have hown:aT F (w.alloc (.cells (madeCells e'.zero.toArray (q.toNat*e'.zero.length)) E)) (.slice e') (.own me) (fun b=>b=w.heap.size)
   (.slice (some ⟨w.heap.size,0,none⟩) n.toNat q.toNat) (List.replicate n.toNat e'.dflt):=by
  have hl0:(List.replicate n.toNat e'.dflt).length=n.toNat:=by simp
  have:=aT.newRow (G:=F) (me:=me) (Sd:=fun b=>b=w.heap.size) (xs:=List.replicate n.toNat e'.dflt) (cap:=q.toNat) (Si:=fun _=>none') rfl
   (lO w (.cells (madeCells e'.zero.toArray (q.toNat*e'.zero.length)) E)) (by rw[hz.len];simp[madeCells]) (by rw[hl0];exact hnq) (by rw[hl0];unfold lim;omega)
   (fun _ _ h=>h.elim) (fun _ h=>h.elim) (fun _ _ _ _ h=>h.elim) (by
    intro j x hx;simp only[List.getElem?_replicate]at hx;split at hx
    ·injection hx with hx;subst hx
     rw[<-hz.len,seg_made _ _ _ (by omega)];exact Own.zero _ _ _ _ _
    ·cases hx)
  rw[hl0]at this;exact this
 obtain⟨F2,S2,h5⟩:=hi.putNew (C:=C) hd (kP _ _) (fun _ h=>h) (fun b h=>by have:=hi.fb b h;simp;omega) (fun b h1 h2=>absurd h1 h2)
  (by
   intro b hb;subst hb;refine⟨.inl hi.size,by simp,fun h=>by have:=hi.fb _ h;omega,fun t ht=>by have:=(hi.sb t _ ht).2.1;omega⟩) hown
 exact⟨_,_,F2,S2,hm,h5⟩

theorem makeE_ok(hC:aG P C)(hi:aJ P N w0 F0 H env a w F S)(hd:Wr N d){T:TypeId}{x y:Operand}{o:Oper}(ho:o.op= .makeSlice T x y){vx vy:aP}
  (hx:aU P F w env (fun t=>a.tmps.getD t undef) S (a.eval x) vx) (hy:aU P F w env (fun t=>a.tmps.getD t undef) S (a.eval y) vy)
  {c:Prop} {e:Ent} {l:List Nat} (h:makeE C d T vx vy=some (c,e,l)) (hc:c):oA P N w0 F0 H env a w d (execOp a.eval o) e l:=by
 unfold makeE at h
 split at h
 ·rename_i e' k n k' q hT h1 h2
  simp only[Option.some.injEq,Prod.mk.injEq]at h;obtain⟨rfl,rfl,rfl⟩:=h;have e1:=(aP.val_ok hi hx h1).int_eq.1;have e2:=(aP.val_ok hi hy h2).int_eq.1;obtain⟨v,w',F2,S2,hm,h5⟩:=make_core (k:=k) (k':=k') (me:=elM (lJ C d (.own .shr))) hC hi hd hT hc.1 hc.2.1 hc.2.2;refine⟨v,w',F2,S2,?_,h5⟩;simp only[execOp,ho,e1,e2];rw[Sem.run_bind,hm];rfl
 ·cases h

theorem vH(g:Operand->Value):∀(n:Nat) (l:List (Nat×Operand)),vI n l=true->l.map (fun p=>(p.1,g p.2))=((l.map (g∘(·.2))).zipIdx n).map fun x=>(x.2,x.1)
 |_,[],_=>rfl
 |n,(k,z)::l,h=>by
  simp only[vI,Bool.and_eq_true]at h;have:=Nat.eq_of_beq_eq_true h.1;subst this;simp only[List.map_cons,List.zipIdx_cons];rw[vH g (k+1) l h.2]
  rfl

theorem fS{f:Operand->aP}:∀ {l:List Operand},(∀z∈l,aU P F w env (fun t=>a.tmps.getD t undef) S (a.eval z) (f z))->
  VsOK P F w env (fun t=>a.tmps.getD t undef) S (l.map a.eval) (l.map f)
 | [],_=>trivial
 |z::l,h=>⟨h z (by simp),fS fun y hy=>h y (by simp[hy])⟩

theorem cells_of{e:Ty}{m:Md}{vs:List Value}{xs:List e.den}{Si:Nat->aA}(hl:vs.length=xs.length)(h:∀i v x,vs[i]? =some v->xs[i]? =some x->aT F w e m (Si i) v x):
  (∀v∈vs,v.cells.size=e.size)/\∀i x,xs[i]? =some x->Own F w e m (Si i) (seg (vs.flatMap fun v=>v.cells.toList) (i*e.size) e.size) x:=by
 have h1:∀v∈vs,v.cells.size=e.size:=by
  intro v hv;obtain⟨i,hi,rfl⟩:=List.mem_iff_getElem.1 hv;obtain⟨cs,q1,q2,q3⟩:=(h i _ _ (List.getElem?_eq_getElem hi) (List.getElem?_eq_getElem (by omega))).cells;rw[q2];simpa using q3.len
 refine⟨h1,fun i x hx=> ?_⟩
 have hi:i<vs.length:=by
  rcases Nat.lt_or_ge i xs.length with h|h
  ·omega
  ·rw[List.getElem?_eq_none h]at hx;cases hx
 obtain⟨cs,q1,q2,q3⟩:=(h i _ _ (List.getElem?_eq_getElem hi) hx).cells
 have:=seg_flat (s:=e.size) (vs.map fun v=>v.cells.toList) i vs[i].cells.toList (by
  intro c hc;obtain⟨v,hv,rfl⟩:=List.mem_map.1 hc
  simpa using h1 v hv) (by simp[List.getElem?_eq_getElem hi])
 rw[List.flatMap,this,q2]
 exact q3

theorem litE_ok(hC:aG P C)(hi:aJ P N w0 F0 H env a w F S)(hd:Wr N d){T:TypeId}{len:Nat}{parts:Array (Nat×Operand)}{o:Oper}(ho:o.op= .buildSlice T len parts){f:Operand->aP}
  (hf:∀z∈o.op.operands,aU P F w env (fun t=>a.tmps.getD t undef) S (a.eval z) (f z))
  {c:Prop} {e:Ent} {l:List Nat} (h:litE C d T len parts.toList f=some (c,e,l)) (hc:c):oA P N w0 F0 H env a w d (execOp a.eval o) e l:=by
 unfold litE at h
 split at h
 ·rename_i e' hT
  cases hB:(vI 0 parts.toList&&Nat.beq parts.toList.length len&&Nat.ble (len*e'.size) 16777216)
  ·rw[hB]at h;cases h
  rw[hB]at h;simp only[cond_true]at h;simp only[Bool.and_eq_true]at hB;obtain⟨⟨b1,b2⟩,b3⟩:=hB;have b2:=Nat.eq_of_beq_eq_true b2;have b3:=Nat.le_of_ble_eq_true b3;split at h
  ·rename_i xs l' he
   cases hn:bQ l'
   ·rw[hn]at h;cases h
   rw[hn]at h;simp only[cond_true,Option.some.injEq,Prod.mk.injEq]at h;obtain⟨rfl,rfl,rfl⟩:=h;obtain⟨E,t1,t2,t3⟩:=(hC.types T _ hT).slice;obtain⟨i,dd,q1,q2,q3,q4,q5,q6⟩:=hC.types E _ t2;have hz:=Own.zero F w e' .shr none';have hzc:=dK hz.len hz.one;have hV:=fS (l:=parts.toList.map (·.2)) (f:=f) (fun z hz=>hf z (by
    rw[ho];simp only[Op.operands]
    simpa using hz))
   rw[List.map_map]at hV;rw[show (parts.toList.map fun p=>f p.2)=(parts.toList.map (·.2)).map f from by rw[List.map_map];rfl]at he
   obtain⟨g1,Si,g2,g3,g4⟩:=w9 hi hV he hn;obtain⟨k1,k2⟩:=cells_of g1 g4;have hlx:xs.length=len:=by rw[<-g1];simp[b2]
   have hparts:(parts.map fun p=>(p.1,a.eval p.2)).toList=((parts.toList.map (a.eval∘(·.2))).zipIdx 0).map fun x=>(x.2,x.1):=by
    rw[Array.toList_map];exact vH a.eval 0 parts.toList b1
   obtain⟨S2,d1,d2,d3⟩:=aJ.dropAll l' hi;have hrun:(Instr.buildSlice T len (parts.map fun p=>(p.1,a.eval p.2))).run P w=
     .ok (.slice (some ⟨w.heap.size,0,none⟩) len len) (w.alloc (.cells (((parts.toList.map (a.eval∘(·.2))).flatMap fun v=>v.cells.toList).toArray) E)):=by
    by_cases h0:len=0
    ·subst h0
     have hnil:parts= #[]:=by
      have:parts.toList=[]:=List.eq_nil_of_length_eq_zero b2
      exact Array.toList_eq_nil_iff.1 this
     subst hnil;simp[Instr.buildSlice,run_underlying t1,sizeOf,typeInfo,q1,Instr.fill,newRow,Array.range_zero']
    ·refine run_buildSlice w T E len _ _ i _ t1 q1 q5 (by rw[q3];omega) (by rw[q3];exact Nat.mul_ne_zero h0 t3) ?_
     rw[q3,hparts];exact Great.fill_whole (by omega) _ _ k1 (by simp[b2])
   have hown:aT F (w.alloc (.cells (((parts.toList.map (a.eval∘(·.2))).flatMap fun v=>v.cells.toList).toArray) E)) (.slice e') (.own (elM (lJ C d (.own .shr)))) (fun b=>SL S l' b∨b=w.heap.size)
     (.slice (some ⟨w.heap.size,0,none⟩) len len) xs:=by
    have hflat:((parts.toList.map (a.eval∘(·.2))).flatMap fun v=>v.cells.toList).length=len*e'.size:=by
     rw[List.flatMap,flat_len (s:=e'.size) _ (by
      intro c hc;obtain⟨v,hv,rfl⟩:=List.mem_map.1 hc
      simpa using k1 v hv)]
     simp[b2]
    have hSib:∀j b,Si j b->b<w.heap.size:=fun j b hb=>by
     obtain⟨t,_,hb⟩:=g2 j b hb;exact(hi.sb t b hb).2.1
    have:=aT.newRow (G:=F) (w':=w.alloc (.cells (((parts.toList.map (a.eval∘(·.2))).flatMap fun v=>v.cells.toList).toArray) E)) (e:=e') (me:=elM (lJ C d (.own .shr))) (b:=w.heap.size)
     (row:=(((parts.toList.map (a.eval∘(·.2))).flatMap fun v=>v.cells.toList).toArray)) (T:=E) (Sd:=fun b=>SL S l' b∨b=w.heap.size) (xs:=xs) (cap:=len) (Si:=Si) (.inr rfl)
     (lO _ _) (by simp only[List.size_toArray,hflat];exact Nat.le_refl _) (by omega) (by unfold lim;have:=Nat.le_mul_of_pos_right len (Nat.pos_of_ne_zero t3);omega)
     (fun j b hb=> .inl (g2 j b hb)) (fun j hb=>by have:=hSib j _ hb;omega) g3 (by
      intro j x hx;exact(k2 j x hx).congr (fun b hb=>(kP _ _).block b (hi.fb b hb)) (fun b hb=>(kP _ _).block b (hSib j b hb)))
    rw[hlx]at this;exact this
   obtain⟨F2,S3,h5⟩:=d1.putNew (C:=C) hd (kP _ _) (fun _ h=>h) (fun b h=>by have:=hi.fb b h;simp;omega) (fun b h1 h2=>absurd h1 h2)
    (by
     rintro b (hb|hb)
     ·have:=oQ d2 d3 hi b hb
      refine⟨this.1,by have:=this.2.1;simp;omega,this.2.2⟩
     ·subst hb
      refine⟨.inl hi.size,by simp,fun h=>by have:=hi.fb _ h;omega,fun t ht=>by have:=(hi.sb t _ (d3 t _ ht)).2.1;omega⟩) hown
   refine⟨_,_,F2,S3,?_,h5⟩
   simp only[execOp,ho];rw[Sem.run_bind,hrun];rfl
  ·cases h
 ·cases h

end
end Go.Lf
namespace Go.Lf

def arrE(n:Nat)(e:Ty)(f:Operand->aP):List (Nat×Operand)->List e.den->Option (List e.den)
 | [],xs=>some xs
 |(k,z)::ps,xs=>match(f z).shrAs e with
  |some y=>bif Nat.blt k n then arrE n e f ps (xs.set k y)else none
  |none=>none

def y7(C:Ctx)(d:Nat)(T:TypeId)(parts:List (Nat×Operand))(f:Operand->aP):qN:=
 match look C.tys T with
 |some (.arr n e)=>(match arrE n e f parts (List.replicate n e.dflt)with
   |some xs=>some (True,.shr (.arr n e) xs,[])
   |none=>none)
 |_=>buildE C d T parts f

section
variable {P:Program} {C:Ctx} {N:NP} {w0:World} {F0 H:aA} {env:St} {a:Act} {w:World} {F:aA} {S:Nat->aA} {d:Nat}

theorem Own.setFld{tys:List (TypeId×Ty)}:∀(k:Nat) (fs:List Field) (off:Nat) (τ:Ty) {m:Md} {S:aA} {cs:List Value} {x:τ.den} {σ:Ty} {z:σ.den} {μ:Md} {S2:aA} {c':List Value} {y:σ.den} {x':τ.den} {m':Md},
  cH tys fs off τ=true->aN (aZ k) τ x=some ⟨σ,z⟩->eM (aZ k) τ x σ y=some x'->gC (aZ k) τ m μ=some m'->Own F w τ m S cs x->Own F w σ μ S2 c' y->Dis S S2->
  ∃f o,fs[k]? =some f/\look tys f.type=some σ/\f.offset=off+o/\o+σ.size<=τ.size/\Own F w τ m' (fun b=>S b∨S2 b) (cs.take o++c'++cs.drop (o+σ.size)) x'
 |0,f::fs,off,.prod A B,m,S,cs,x,σ,z,μ,S2,c',y,x',m',h,hg,hs,hm,ho,hy,hd=>by
  simp only[cH,Bool.and_eq_true,decide_eq_true_eq,Bool.not_eq_true']at h;obtain⟨⟨⟨h1,h2⟩,h3⟩,h4⟩:=h;simp only[aZ,aN,Option.some.injEq,Sigma.mk.injEq]at hg;obtain⟨rfl,_⟩:=hg;simp only[aZ,eM,dif_pos,Option.map_some,Option.some.injEq]at hs;subst hs;simp only[aZ,gC,Option.map_some,Option.some.injEq]at hm;subst hm;obtain⟨c1,c2,S1,S3,rfl,s1,s3,dd,o1,o2⟩:=ho;have l1:=o1.len;refine⟨f,0,rfl,h2,Nat.eq_of_beq_eq_true h1,by simp[Ty.size],c',c2,S2,S3,?_,fun b h=> .inr h,fun b h=> .inl (s3 b h),fun b h1 h2=>hd b (s3 b h2) h1,hy,o2⟩
  simp only[List.take_zero,List.nil_append,Nat.zero_add];rw[<-l1,List.drop_left]
 |k+1,f::fs,off,.prod A B,m,S,cs,x,σ,z,μ,S2,c',y,x',m',h,hg,hs,hm,ho,hy,hd=>by
  simp only[cH,Bool.and_eq_true,decide_eq_true_eq,Bool.not_eq_true']at h;obtain⟨⟨⟨h1,h2⟩,h3⟩,h4⟩:=h;simp only[aZ,eM,Option.map_eq_some_iff]at hs;obtain⟨q,hs,rfl⟩:=hs;simp only[aZ,gC,Option.map_eq_some_iff]at hm;obtain⟨mq,hm,rfl⟩:=hm;obtain⟨c1,c2,S1,S3,rfl,s1,s3,dd,o1,o2⟩:=ho;have l1:=o1.len;obtain⟨f',o,g1,g2,g3,g4,g5⟩:=Own.setFld k fs (off+A.size) B h4 hg hs hm o2 hy (fun b h=>hd b (s3 b h))
  refine⟨f',A.size+o,g1,g2,by omega,by simp[Ty.size];omega,c1,_,S1,fun b=>S3 b∨S2 b,?_,fun b h=> .inl (s1 b h),?_,?_,o1,g5⟩
  ·rw[<-l1,List.take_length_add_append,Nat.add_assoc,List.drop_length_add_append];simp[List.append_assoc]
  ·rintro b (h|h)
   ·exact .inl (s3 b h)
   ·exact .inr h
  ·rintro b h1 (h2|h2)
   ·exact dd b h1 h2
   ·exact hd b (s1 b h1) h2
 |0,[],_,.prod _ _,_,_,_,_,_,_,_,_,_,_,_,_,h,_,_,_,_,_,_=>by simp[cH]at h
 |_+1,[],_,.prod _ _,_,_,_,_,_,_,_,_,_,_,_,_,h,_,_,_,_,_,_=>by simp[cH]at h
 |0,_,_,.int _,_,_,_,_,_,_,_,_,_,_,_,_,_,hg,_,_,_,_,_=>by simp[aZ,aN]at hg
 |0,_,_,.bool,_,_,_,_,_,_,_,_,_,_,_,_,_,hg,_,_,_,_,_=>by simp[aZ,aN]at hg
 |0,_,_,.str,_,_,_,_,_,_,_,_,_,_,_,_,_,hg,_,_,_,_,_=>by simp[aZ,aN]at hg
 |0,_,_,.abs _,_,_,_,_,_,_,_,_,_,_,_,_,_,hg,_,_,_,_,_=>by simp[aZ,aN]at hg
 |0,_,_,.unit,_,_,_,_,_,_,_,_,_,_,_,_,_,hg,_,_,_,_,_=>by simp[aZ,aN]at hg
 |0,_,_,.slice _,_,_,_,_,_,_,_,_,_,_,_,_,_,hg,_,_,_,_,_=>by simp[aZ,aN]at hg
 |0,_,_,.arr _ _,_,_,_,_,_,_,_,_,_,_,_,_,_,hg,_,_,_,_,_=>by simp[aZ,aN]at hg
 |_+1,_,_,.int _,_,_,_,_,_,_,_,_,_,_,_,_,_,hg,_,_,_,_,_=>by simp[aZ,aN]at hg
 |_+1,_,_,.bool,_,_,_,_,_,_,_,_,_,_,_,_,_,hg,_,_,_,_,_=>by simp[aZ,aN]at hg
 |_+1,_,_,.str,_,_,_,_,_,_,_,_,_,_,_,_,_,hg,_,_,_,_,_=>by simp[aZ,aN]at hg
 |_+1,_,_,.abs _,_,_,_,_,_,_,_,_,_,_,_,_,_,hg,_,_,_,_,_=>by simp[aZ,aN]at hg
 |_+1,_,_,.unit,_,_,_,_,_,_,_,_,_,_,_,_,_,hg,_,_,_,_,_=>by simp[aZ,aN]at hg
 |_+1,_,_,.slice _,_,_,_,_,_,_,_,_,_,_,_,_,_,hg,_,_,_,_,_=>by simp[aZ,aN]at hg
 |_+1,_,_,.arr _ _,_,_,_,_,_,_,_,_,_,_,_,_,_,hg,_,_,_,_,_=>by simp[aZ,aN]at hg

theorem w8(place:Nat->Option (Nat×Nat))(cells:Array Value)(i:Nat)(v:Value)(rest:List (Nat×Value)){off size:Nat}(hp:place i=some (off,size))(hv:v.cells.size=size)(ho:off+size<=cells.size):
  Instr.fill place cells ((i,v)::rest)=Instr.fill place (cells.toList.take off++v.cells.toList++cells.toList.drop (off+size)).toArray rest:=by
 have h1:(v.cells.zipIdx.foldl (fun cs (x:Value×Nat)=>cs.setIfInBounds (off+x.2) x.1) cells)=(cells.toList.take off++v.cells.toList++cells.toList.drop (off+size)).toArray:=by
  obtain⟨g1,g2⟩:=Great.foldl_set off v.cells.toList 0 cells;have hz:v.cells.zipIdx.foldl (fun cs (x:Value×Nat)=>cs.setIfInBounds (off+x.2) x.1) cells=(v.cells.toList.zipIdx 0).foldl (fun cs (x:Value×Nat)=>cs.setIfInBounds (off+x.2) x.1) cells:=by
   rw[<-Array.foldl_toList];simp
  rw[hz]
  apply Array.ext_getElem?
  intro k;rw[g2 k];simp only[Nat.add_zero,Array.length_toList,List.getElem?_toArray];by_cases h1:k<off
  ·rw[if_neg (by omega),List.append_assoc,List.getElem?_append_left (by simp;omega),List.getElem?_take,if_pos h1];simp
  ·by_cases h2:k<off+v.cells.size
   ·rw[if_pos (by omega),List.append_assoc,List.getElem?_append_right (by simp;omega)]
    have:(cells.toList.take off).length=off:=by simp;omega
    rw[this,List.getElem?_append_left (by simp;omega)]
   ·rw[if_neg (by omega),List.getElem?_append_right (by simp;omega)]
    have:(cells.toList.take off++v.cells.toList).length=off+size:=by simp;omega
    rw[this,List.getElem?_drop];have:off+size+(k-(off+size))=k:=by omega
    rw[this];simp
 show(match place i with|none=>none|some (off,size)=>_)=_
 have hcond:¬((decide (v.cells.size≠size)||decide (off+v.cells.size>cells.size))=true):=by simp;omega
 rw[hp]
 simp only[]
 rw[if_neg hcond]
 show Instr.fill place (v.cells.zipIdx.foldl (fun cs (x:Value×Nat)=>cs.setIfInBounds (off+x.2) x.1) cells) rest=_
 rw[h1]

theorem wK(hC:aG P C):∀(fs:List Field) (off:Nat) (τ:Ty),cH C.tys fs off τ=true->
  ∃pl,fs.mapM (fun f=>(P.info? f.type).map fun i=>(f.offset,i.size))=some pl/\∀(k:Nat) (f:Field) (σ:Ty),fs[k]? =some f->look C.tys f.type=some σ->pl[k]? =some (f.offset,σ.size)
 | [],_,_,_=>⟨[],rfl,fun k f σ h=>by simp at h⟩
 |f::fs,off,.prod A B,h=>by
  simp only[cH,Bool.and_eq_true,decide_eq_true_eq,Bool.not_eq_true']at h;obtain⟨⟨⟨h1,h2⟩,h3⟩,h4⟩:=h;obtain⟨pl,g1,g2⟩:=wK hC fs _ B h4;obtain⟨i,dd,q1,q2,q3,q4,q5,q6⟩:=hC.types _ _ h2;refine⟨(f.offset,i.size)::pl,?_,?_⟩
  ·simp[List.mapM_cons,q1,g1]
  ·intro k f' σ hk hσ
   cases k with
   |zero=>
    simp at hk;subst hk
    rw[h2]at hσ;injection hσ with hσ;subst hσ;simp[q3]
   |succ k=>exact g2 k f' σ (by simpa using hk) hσ
 |f::fs,_,.int _,h=>by simp[cH]at h
 |f::fs,_,.bool,h=>by simp[cH]at h
 |f::fs,_,.str,h=>by simp[cH]at h
 |f::fs,_,.abs _,h=>by simp[cH]at h
 |f::fs,_,.unit,h=>by simp[cH]at h
 |f::fs,_,.slice _,h=>by simp[cH]at h
 |f::fs,_,.arr _ _,h=>by simp[cH]at h

theorem rK:∀ {l1 l2:List Nat},bQ (l1++l2)=true->bQ l1=true/\bQ l2=true/\∀t,t∈l1->t∉l2
 | [],l2,h=>⟨rfl,h,fun _ h=>(by cases h)⟩
 |t::l1,l2,h=>by
  simp only[List.cons_append,bQ,Bool.and_eq_true,Bool.not_eq_true']at h;obtain⟨h1,h2,h3⟩:=rK h.2;have hm:t∉l1++l2:=fun hh=>by rw[fF.2 hh]at h;exact absurd h.1 (by simp)
  refine⟨?_,h2,?_⟩
  ·simp only[bQ,Bool.and_eq_true,Bool.not_eq_true']
   refine⟨?_,h1⟩
   cases hx:eD l1 t
   ·rfl
   ·exact absurd (List.mem_append.2 (.inl (fF.1 hx))) hm
  ·intro u hu
   rcases List.mem_cons.1 hu with rfl|hu
   ·exact fun hh=>hm (List.mem_append.2 (.inr hh))
   ·exact h3 u hu

theorem SL_dis(hi:aJ P N w0 F0 H env a w F S){l1 l2:List Nat}(h:∀t,t∈l1->t∉l2):Dis (SL S l1) (SL S l2):=by
 rintro b ⟨t,ht,hb⟩ ⟨u,hu,hb'⟩
 exact hi.sd t u (fun e=>h t ht (e▸hu)) b hb hb'

theorem vC(hC:aG P C)(hi:aJ P N w0 F0 H env a w F S){τ:Ty}{fs:List Field}(hfs:cH C.tys fs 0 τ=true){pl:List (Nat×Nat)}
  (hpl:∀(k:Nat) (f:Field) (σ:Ty),fs[k]? =some f->look C.tys f.type=some σ->pl[k]? =some (f.offset,σ.size)) {f:Operand->aP}:
  ∀(ps:List (Nat×Operand)) {x:τ.den} {m:Md} {l:List Nat} {cs:List Value} {x':τ.den} {m':Md} {l':List Nat},
   (∀p∈ps,aU P F w env (fun t=>a.tmps.getD t undef) S (a.eval p.2) (f p.2))->iU τ f ps x m l=some (x',m',l')->Own F w τ m (SL S l) cs x->bQ l'=true->
   ∃cs',Instr.fill (pl.toArray[·]?) cs.toArray (ps.map fun p=>(p.1,a.eval p.2))=some cs'.toArray/\Own F w τ m' (SL S l') cs' x'/\∃q,l'=l++q
 | [],x,m,l,cs,x',m',l',_,h,ho,_=>by
  simp only[iU,Option.some.injEq,Prod.mk.injEq]at h;obtain⟨rfl,rfl,rfl⟩:=h;exact⟨cs,rfl,ho,[],by simp⟩
 |(k,z)::ps,x,m,l,cs,x',m',l',hv,h,ho,hn=>by
  have hz:=hv (k,z) (by simp)
  have one:∀ {σ:Ty} {y0:σ.den} {y:σ.den} {μ:Md} {x1:τ.den} {m1:Md} {q1:List Nat},aN (aZ k) τ x=some ⟨σ,y0⟩->eM (aZ k) τ x σ y=some x1->gC (aZ k) τ m μ=some m1->
    (∃S1,Sub S1 (SL S q1)/\aT F w σ μ S1 (a.eval z) y)->iU τ f ps x1 m1 (l++q1)=some (x',m',l')->
    ∃cs',Instr.fill (pl.toArray[·]?) cs.toArray (((k,z)::ps).map fun p=>(p.1,a.eval p.2))=some cs'.toArray/\Own F w τ m' (SL S l') cs' x'/\∃q,l'=l++q:=by
   rintro σ y0 y μ x1 m1 q1 hg hs hm ⟨S1,k1,hy⟩ hrest
   obtain⟨c',e1,e2,e3⟩:=hy.cells;have hdis:Dis (SL S l) (SL S q1):=by
    by_cases hq:∀t,t∈l->t∉q1
    ·exact SL_dis hi hq
    ·exfalso
     have:∃q,l'=(l++q1)++q:=by
      have:∀(ps:List (Nat×Operand)) (x:τ.den) (m:Md) (l:List Nat) (x':τ.den) (m':Md) (l':List Nat),iU τ f ps x m l=some (x',m',l')->∃q,l'=l++q:=by
       intro ps
       induction ps with
       |nil=>intro x m l x' m' l' h;simp only[iU,Option.some.injEq,Prod.mk.injEq]at h;exact⟨[],by simp[h.2.2]⟩
       |cons p ps ih=>
        obtain⟨k,z⟩:=p;intro x m l x' m' l' h;simp only[iU]at h
        repeat' split at h
        all_goals first
         |(cases h;done)
         |(obtain⟨q,hq⟩:=ih _ _ _ _ _ _ h;exact⟨q,hq⟩)
         |(obtain⟨q,hq⟩:=ih _ _ _ _ _ _ h;exact⟨_,by rw[hq,List.append_assoc]⟩)
      exact this _ _ _ _ _ _ _ hrest
     obtain⟨q,hq2⟩:=this;rw[hq2]at hn;exact hq (rK (rK hn).1).2.2
   obtain⟨fl,o,g1,g2,g3,g4,g5⟩:=Own.setFld k fs 0 τ hfs hg hs hm ho (e3.mono (fun _ h=>h) k1) hdis
   have hp:=hpl k fl σ g1 g2
   have hlen:=ho.len
   have hown2:Own F w τ m1 (SL S (l++q1)) (cs.take o++c'++cs.drop (o+σ.size)) x1:=by
    refine g5.mono (fun _ h=>h) ?_
    rintro b (⟨t,ht,hb⟩|⟨t,ht,hb⟩)
    ·exact⟨t,by simp[ht],hb⟩
    ·exact⟨t,by simp[ht],hb⟩
   obtain⟨cs',r1,r2,q,r3⟩:=vC hC hi hfs hpl ps (fun p hp=>hv p (by simp[hp])) hrest hown2 hn
   refine⟨cs',?_,r2,q1++q,by rw[r3,List.append_assoc]⟩
   simp only[List.map_cons];rw[w8 _ _ _ _ _ (off:=o) (size:=σ.size) (by rw[<-Nat.zero_add o,<-g3];simpa using hp) (by rw[e2];simpa using e3.len) (by simpa[hlen]using g4)];rw[e2];exact r1
  simp only[iU]at h;split at h
  ·rename_i σ y0 hg
   split at h
   ·rename_i τ1 μ y1 he
    split at h
    ·rename_i y l1 hy
     split at h
     ·rename_i x1 m1 hs hm
      refine one (q1:=l1) hg hs hm ?_ h
      rcases iC hi hz hy with⟨rfl,hown⟩|⟨t,rfl,hown⟩
      ·exact⟨none',fun _ h=>h.elim,hown⟩
      ·exact⟨S t,fun b hb=>⟨t,by simp,hb⟩,hown⟩
     ·cases h
    ·cases h
   ·split at h
    ·rename_i y hy
     split at h
     ·rename_i x1 m1 hs hm
      refine one (q1:=[]) hg hs hm ⟨none',fun _ h=>h.elim,fN hi hz hy⟩ (by rw[List.append_nil];exact h)
     ·cases h
    ·cases h
  ·cases h

theorem Own.allShr{F:aA}{w:World}:∀ {τ:Ty} {m:Md} {S:aA} {cs:List Value} {x:τ.den},Go.Lf.allShr τ m=true->Own F w τ m S cs x->Own F w τ .shr none' cs x
 | .int _,_,_,_,_,_,h=>by simpa[Own]using h
 | .bool,_,_,_,_,_,h=>by simpa[Own]using h
 | .str,_,_,_,_,_,h=>by simpa[Own]using h
 | .abs _,_,_,_,_,_,h=>h
 | .unit,_,_,_,_,_,h=>by simpa[Own]using h
 | .prod a b,m,S,cs,x,hm,h=>by
  obtain⟨c1,c2,S1,S2,rfl,_,_,_,h1,h2⟩:=h;simp only[Go.Lf.allShr,Bool.and_eq_true]at hm;exact⟨c1,c2,none',none',rfl,fun _ h=>h.elim,fun _ h=>h.elim,fun _ h=>h.elim,Own.allShr (τ:=a) hm.1 h1,Own.allShr (τ:=b) hm.2 h2⟩
 | .slice e,m,S,cs,xs,hm,h=>by
  cases m with
  |shr=>exact Own.shr h
  |own _=>simp[Go.Lf.allShr,dO]at hm
  |pair _ _=>simp[Go.Lf.allShr,dO]at hm
 | .arr n e,m,S,cs,xs,hm,h=>by
  obtain⟨hn,hc,Si,s,d,he⟩:=h;exact⟨hn,hc,fun _=>none',fun _ _ h=>h.elim,fun _ _ _ _ h=>h.elim,fun i x hx=>Own.allShr (τ:=e) (by simpa[Go.Lf.allShr]using hm) (he i x hx)⟩

theorem buildE_ok(hC:aG P C)(hi:aJ P N w0 F0 H env a w F S)(hd:Wr N d){T:TypeId}{parts:Array (Nat×Operand)}{o:Oper}(ho:o.op= .build T parts){f:Operand->aP}
  (hf:∀z∈o.op.operands,aU P F w env (fun t=>a.tmps.getD t undef) S (a.eval z) (f z))
  {c:Prop} {e:Ent} {l:List Nat} (h:buildE C d T parts.toList f=some (c,e,l)) (hc:c):oA P N w0 F0 H env a w d (execOp a.eval o) e l:=by
 unfold buildE at h
 split at h
 ·rename_i τ hT
  cases hp:isProd τ
  ·rw[hp]at h;cases h
  rw[hp]at h;simp only[cond_true]at h;split at h
  ·rename_i x m l' hfe
   cases hn:bQ l'
   ·rw[hn]at h;cases h
   rw[hn]at h;simp only[cond_true,Option.some.injEq,Prod.mk.injEq]at h;obtain⟨rfl,rfl,rfl⟩:=h;obtain⟨i,dd,q1,q2,q3,q4,q5,q6⟩:=hC.types T _ hT;obtain⟨A,B,rfl⟩:∃A B,τ= .prod A B:=by cases τ<;>first|exact⟨_,_,rfl⟩|cases hp
   cases dd<;>simp only[iF,Bool.false_eq_true]at q6
   rename_i fs;obtain⟨pl,p1,p2⟩:=wK hC fs.toList 0 (.prod A B) q6;have hz:=Own.zero F w (.prod A B) (lJ C d (dftM (.prod A B))) (SL S []);have hzc:=dK hz.len hz.one;obtain⟨cs',r1,r2,_⟩:=vC hC hi q6 p2 parts.toList (fun p hp=>hf p.2 (by
    rw[ho];simp only[Op.operands];simp only[List.mem_toArray,List.mem_map];exact⟨p,hp,rfl⟩)) hfe hz hn
   obtain⟨S2,d1,d2,d3⟩:=aJ.dropAll l' hi;have hrun:(Instr.build T (parts.map fun p=>(p.1,a.eval p.2))).run P w= .ok (.agg cs'.toArray) w:=by
    apply run_build
    unfold Program.built;rw[q1,q2];simp only[q5,p1,hzc,Array.toList_map];exact r1
   have hv:aT F w (.prod A B) m (SL S l') (.agg cs'.toArray) x:=⟨cs',rfl,r2⟩
   have hrun2:(execOp a.eval o).run P w= .ok (.value (.agg cs'.toArray)) w:=by
    simp only[execOp,ho];rw[Sem.run_bind,hrun];rfl
   unfold mkS;cases hs:allShr (.prod A B) m
   ·simp only[cond_false]
    obtain⟨F2,S3,h5⟩:=d1.putNew (C:=C) hd (RowKit.Below.refl _ _) (fun _ h=>h) hi.fb (fun b h1 h2=>absurd h1 h2) (oQ d2 d3 hi) hv
    exact⟨_,_,F2,S3,hrun2,h5⟩
   ·simp only[cond_true]
    refine⟨_,_,F,_,hrun2,d1.putSimple hd rfl (by simp[Ent.root]) ?_⟩
    exact .mk_shr ⟨cs',rfl,Own.allShr hs r2⟩
  ·cases h
 ·cases h

theorem arrE_ok(hi:aJ P N w0 F0 H env a w F S){n:Nat}{e:Ty}{f:Operand->aP}:∀(ps:List (Nat×Operand)) {xs xs':List e.den} {cs:List Value},
  (∀p∈ps,aU P F w env (fun t=>a.tmps.getD t undef) S (a.eval p.2) (f p.2))->arrE n e f ps xs=some xs'->Own F w (.arr n e) .shr none' cs xs->
  ∃cs',Instr.fill (fun i=>some (i*e.size,e.size)) cs.toArray (ps.map fun p=>(p.1,a.eval p.2))=some cs'.toArray/\Own F w (.arr n e) .shr none' cs' xs'
 | [],xs,xs',cs,_,h,ho=>by
  simp only[arrE,Option.some.injEq]at h;subst h;exact⟨cs,rfl,ho⟩
 |(k,z)::ps,xs,xs',cs,hv,h,ho=>by
  simp only[arrE]at h;split at h
  ·rename_i y hy
   cases hk:Nat.blt k n
   ·rw[hk]at h;cases h
   rw[hk]at h;simp only[cond_true]at h;have hkn:k+1<=n:=Nat.le_of_ble_eq_true hk;obtain⟨c',e1,e2,e3⟩:=(fN hi (hv (k,z) (by simp)) hy).cells;obtain⟨h1,h2,Si,s,dd,he⟩:=ho;have hle:(k+1)*e.size<=n*e.size:=Nat.mul_le_mul_right _ (by omega);rw[Nat.add_mul,Nat.one_mul]at hle;have l3:=e3.len;have hown2:Own F w (.arr n e) .shr none' (cs.take (k*e.size)++c'++cs.drop (k*e.size+e.size)) (xs.set k y):=by
    refine⟨by simpa using h1,by simp;omega,Si,s,dd,?_⟩
    intro i x hx;by_cases hik:i=k
    ·subst hik
     rw[List.getElem?_set_self (by omega)]at hx;injection hx with hx;subst hx;rw[jS _ _ _ _ l3 (by omega)];exact Own.shr e3
    ·rw[List.getElem?_set_ne (Ne.symm hik)]at hx
     have hin:i<xs.length:=by
      rcases Nat.lt_or_ge i xs.length with h|h
      ·exact h
      ·rw[List.getElem?_eq_none h]at hx;cases hx
     have hle2:(i+1)*e.size<=n*e.size:=Nat.mul_le_mul_right _ (by omega)
     rw[Nat.add_mul,Nat.one_mul]at hle2;rw[fO _ _ _ _ l3 (by omega) _ _ (by omega) (by
      rcases Nat.lt_or_gt_of_ne hik with h|h
      ·have:(i+1)*e.size<=k*e.size:=Nat.mul_le_mul_right _ (by omega)
       rw[Nat.add_mul,Nat.one_mul]at this;omega
      ·have:(k+1)*e.size<=i*e.size:=Nat.mul_le_mul_right _ (by omega)
       rw[Nat.add_mul,Nat.one_mul]at this;omega)]
     exact he i x hx
   obtain⟨cs',r1,r2⟩:=arrE_ok hi ps (fun p hp=>hv p (by simp[hp])) h hown2
   refine⟨cs',?_,r2⟩
   simp only[List.map_cons];rw[w8 _ _ _ _ _ (off:=k*e.size) (size:=e.size) rfl (by rw[e2];simpa using l3) (by simp;omega),e2];exact r1
  ·cases h

theorem buildAE_ok(hC:aG P C)(hi:aJ P N w0 F0 H env a w F S)(hd:Wr N d){T:TypeId}{parts:Array (Nat×Operand)}{o:Oper}(ho:o.op= .build T parts){f:Operand->aP}
  (hf:∀z∈o.op.operands,aU P F w env (fun t=>a.tmps.getD t undef) S (a.eval z) (f z))
  {c:Prop} {e:Ent} {l:List Nat} (h:y7 C d T parts.toList f=some (c,e,l)) (hc:c):oA P N w0 F0 H env a w d (execOp a.eval o) e l:=by
 unfold y7 at h
 split at h
 ·rename_i n e' hT
  split at h
  ·rename_i xs hxs
   simp only[Option.some.injEq,Prod.mk.injEq]at h;obtain⟨rfl,rfl,rfl⟩:=h;obtain⟨i,dd,q1,q2,q3,q4,q5,q6⟩:=hC.types T _ hT;obtain⟨E,t1,t2,t3⟩:=(hC.types T _ hT).arr;obtain⟨ie,de,u1,u2,u3,u4,u5,u6⟩:=hC.types E _ t2;have hz:=Own.zero F w (.arr n e') .shr none';have hzc:=dK hz.len hz.one;obtain⟨cs',r1,r2⟩:=arrE_ok hi parts.toList (fun p hp=>hf p.2 (by
    rw[ho];simp only[Op.operands];simp only[List.mem_toArray,List.mem_map];exact⟨p,hp,rfl⟩)) hxs hz
   have hrun:(Instr.build T (parts.map fun p=>(p.1,a.eval p.2))).run P w= .ok (.agg cs'.toArray) w:=by
    apply run_build
    unfold Program.built;rw[q1,t1];simp only[q5,u1,hzc,Array.toList_map,u3];exact r1
   refine⟨.agg cs'.toArray,w,F,_,?_,hi.putSimple hd rfl (by simp[Ent.root]) ?_⟩
   ·simp only[execOp,ho]
    rw[Sem.run_bind,hrun];rfl
   ·exact .mk_shr ⟨cs',rfl,r2⟩
  ·cases h
 ·exact buildE_ok hC hi hd ho hf h hc

end
end Go.Lf
namespace Go.Lf

def srcE(e:Ty)(me:Md)(v:aP):Option (List e.den×List Nat):=
 match v.e,v.s with
 | .nilS,_=>some ([],[])
 | .own (.slice e') (.own m') xs,some t=>
  bif decide (m'=me)&& !e.flat&& !dO me then(bY (τ:= .slice e') (σ:= .slice e) xs).map fun ys=>(ys,[t])
  else bif e.flat||(dO me&&dO m')then(bY (τ:= .slice e') (σ:= .slice e) xs).map fun ys=>(ys,[])else none
 | .shr (.slice e') xs,_=>bif e.flat||dO me then(bY (τ:= .slice e') (σ:= .slice e) xs).map fun ys=>(ys,[])else none
 | .full e' xs,_=>bif e.flat||dO me then(bY (τ:= .slice e') (σ:= .slice e) xs).map fun ys=>(ys,[])else none
 |_,_=>bif e.flat then(match v.val with
  |some ⟨.slice e',xs⟩=>(bY (τ:= .slice e') (σ:= .slice e) xs).map fun ys=>(ys,[])
  |_=>none)else(match v.sub? with
  |some l=>match aN l.p l.τ l.x,bI l.p l.τ l.m with
   |some ⟨.slice e',xs⟩,some (.own m')=>bif dO m'&&dO me then(bY (τ:= .slice e') (σ:= .slice e) xs).map fun ys=>(ys,[])else none
   |_,_=>none
  |none=>none)

section
variable {P:Program} {C:Ctx} {N:NP} {w0:World} {F0 H:aA} {env:St} {a:Act} {w:World} {F:aA} {S:Nat->aA} {d:Nat}

structure eV(P:Program)(G Sx F:aA)(w:World)(e:Ty)(me:Md)(v:Value)(n cap:Nat)(ao:Option Addr)(xs:List e.den)(cs:List Value)(Si:Nat->aA):Prop where
 val:v= .slice ao n cap
 len:n=xs.length
 le:n<=cap
 lim:n<=Go.Lf.lim
 csl:cs.length=n*e.size
 read:∀w':World,(∀b,G b->w'.heap[b]? =w.heap[b]?)->(Builtin.firstCells e.size n v).run P w'= .ok cs.toArray w'
 sub:∀i,Sub (Si i) Sx
 dis:∀i j,i≠j->Dis (Si i) (Si j)
 own:∀i x,xs[i]? =some x->Own F w e me (Si i) (seg cs (i*e.size) e.size) x

theorem nV{size n:Nat}{b off cap:Nat}{row:Array Value}{T:TypeId}{fr:Nat×Nat}{w':World}(hr:w'.heap[b]? =some (.cells row T fr))(ho:off+n*size<=row.size):
  (Builtin.firstCells size n (.slice (some ⟨b,off,none⟩) n cap)).run P w'= .ok (seg row.toList off (n*size)).toArray w':=by
 have hl:(seg row.toList off (n*size)).length=n*size:=lT _ _ _ (by simpa using ho)
 have:=run_loadCells_list (P:=P) w' ⟨b,off,none⟩ (seg row.toList off (n*size)) (by
  intro j v hv;rw[kT];simp only[World.cell?,hr];simp only[seg,List.getElem?_take,List.getElem?_drop]at hv;split at hv
  ·simpa using hv
  ·cases hv)
 rw[hl]at this
 simp[Builtin.firstCells,this]

theorem eV.of_shr{e:Ty}{G:aA}{v:Value}{xs:List e.den}(h:aT G w (.slice e) .shr none' v xs):∃ao n cap cs,eV P G none' G w e .shr v n cap ao xs cs (fun _=>none'):=by
 obtain⟨c0,rfl,ao,cap,rfl,h1,h2,h3⟩:=h
 refine⟨ao,xs.length,cap,?_⟩
 rcases h3 with h3|⟨b,off,row,T,fr,rfl,hb,hr,ho,he⟩
 ·subst h3
  refine⟨[],rfl,rfl,h1,h2,by simp,fun w' _=> ?_,fun _ _ h=>h.elim,fun _ _ _ _ h=>h.elim,fun i x hx=>by simp at hx⟩
  cases ao<;>simp[bH,Ty.isAgg,Builtin.firstCells,loadCells,loadCellsFrom]
 ·refine⟨seg row.toList off (xs.length*e.size),rfl,rfl,h1,h2,lT _ _ _ (by simpa using ho),fun w' hw=> ?_,fun _ _ h=>h.elim,fun _ _ _ _ h=>h.elim,fun i x hx=> ?_⟩
  ·exact nV ((hw b hb).trans hr) ho
  ·have hi:i<xs.length:=by
    rcases Nat.lt_or_ge i xs.length with h|h
    ·exact h
    ·rw[List.getElem?_eq_none h]at hx;cases hx
   have hle:(i+1)*e.size<=xs.length*e.size:=Nat.mul_le_mul_right _ (by omega)
   rw[Nat.add_mul,Nat.one_mul]at hle;rw[dV _ _ _ _ _ hle];exact he i x hx

theorem eV.of_own{e:Ty}{me:Md}{Sx:aA}{v:Value}{xs:List e.den}(h:aT F w (.slice e) (.own me) Sx v xs):
  ∃ao n cap cs Si,eV P Sx Sx F w e me v n cap ao xs cs Si/\((ao=none/\cap=0)∨∃b off row T,ao=some ⟨b,off,none⟩/\Sx b/\w.heap[b]? =some (.cells row T (0,0))/\
   off+cap*e.size<=row.size/\cs=seg row.toList off (n*e.size)/\∀i,¬Si i b):=by
 obtain⟨c0,rfl,ao,cap,rfl,h1,h2,h3⟩:=h
 refine⟨ao,xs.length,cap,?_⟩
 rcases h3 with⟨rfl,h3⟩|⟨b,off,row,T,Si,rfl,hb,hr,ho,s,nb,dd,he⟩
 ·have hnil:xs=[]:=List.eq_nil_of_length_eq_zero (by omega)
  subst hnil;refine⟨[],fun _=>none',⟨rfl,rfl,h1,h2,by simp,fun w' _=> ?_,fun _ _ h=>h.elim,fun _ _ _ _ h=>h.elim,fun i x hx=>by simp at hx⟩,.inl ⟨rfl,h3⟩⟩
  simp[bH,Ty.isAgg,Builtin.firstCells]
 ·have hle0:=Nat.mul_le_mul_right e.size h1
  refine⟨seg row.toList off (xs.length*e.size),Si,⟨rfl,rfl,h1,h2,lT _ _ _ (by simp;omega),fun w' hw=> ?_,s,dd,fun i x hx=> ?_⟩,.inr ⟨b,off,row,T,rfl,hb,hr,ho,rfl,nb⟩⟩
  ·exact nV ((hw b hb).trans hr) (by omega)
  ·have hi:i<xs.length:=by
    rcases Nat.lt_or_ge i xs.length with h|h
    ·exact h
    ·rw[List.getElem?_eq_none h]at hx;cases hx
   have hle:(i+1)*e.size<=xs.length*e.size:=Nat.mul_le_mul_right _ (by omega)
   rw[Nat.add_mul,Nat.one_mul]at hle;rw[dV _ _ _ _ _ hle];exact he i x hx

theorem eV.all_one{G Sx:aA}{e:Ty}{me:Md}{v:Value}{n cap:Nat}{ao:Option Addr}{xs:List e.den}{cs:List Value}{Si:Nat->aA}
  (h:eV P G Sx F w e me v n cap ao xs cs Si):∀u∈cs,u.oneCell'=true:=by
 intro u hu
 obtain⟨j,hj,rfl⟩:=List.mem_iff_getElem.1 hu
 have hc:=h.csl
 rw[hc]at hj
 have hs:0<e.size:=by
  rcases Nat.eq_zero_or_pos e.size with h|h
  ·rw[h]at hj;omega
  ·exact h
 have hi:j/e.size<n:=by rw[Nat.div_lt_iff_lt_mul hs];exact hj
 have hx:=h.own (j/e.size) _ (List.getElem?_eq_getElem (by rw[<-h.len];exact hi))
 refine hx.one _ ?_
 have hlen:=hx.len
 refine List.mem_iff_getElem.2 ⟨j%e.size,by rw[hlen];exact Nat.mod_lt _ hs,?_⟩
 simp only[seg,List.getElem_take,List.getElem_drop]
 congr 1
 rw[Nat.mul_comm];exact Nat.div_add_mod j e.size

theorem dZ{e' e:Ty}{xs:List e'.den}{ys:List e.den}(h:bY (τ:= .slice e') (σ:= .slice e) xs=some ys):∃q:e'=e,ys=q▸xs:=by
 have:=aV h
 injection this with e1 e2
 injection e1 with e1
 subst e1;cases e2
 exact⟨rfl,rfl⟩

theorem pU(hi:aJ P N w0 F0 H env a w F S){v:Value}{vw:aP}(hv:aU P F w env (fun t=>a.tmps.getD t undef) S v vw){e:Ty}{me:Md}{ys:List e.den}{l:List Nat}(h:srcE e me vw=some (ys,l)):
  ∃ao n cap cs Si me',eV P (FA F S) (SL S l) F w e me' v n cap ao ys cs Si/\(e.flat=true∨me'=me):=by
 have shr:∀ {me:Md},aT F w (.slice e) .shr none' v ys->∃ao n cap cs Si me',eV P (FA F S) (SL S []) F w e me' v n cap ao ys cs Si/\me'= .shr:=by
  intro me h;obtain⟨ao,n,cap,cs,q⟩:=eV.of_shr (P:=P) h;exact⟨ao,n,cap,cs,fun _=>none',.shr,⟨q.val,q.len,q.le,q.lim,q.csl,fun w' hw=>q.read w' (fun b hb=>hw b (.inl hb)),fun _ _ h=>h.elim,q.dis,q.own⟩,rfl⟩
 have flat:e.flat=true->aT (FA F S) w (.slice e) .shr none' v ys->∃ao n cap cs Si me',eV P (FA F S) (SL S []) F w e me' v n cap ao ys cs Si/\(e.flat=true∨me'=me):=by
  intro hf h;obtain⟨ao,n,cap,cs,q⟩:=eV.of_shr (P:=P) h;exact⟨ao,n,cap,cs,fun _=>none',.shr,⟨q.val,q.len,q.le,q.lim,q.csl,q.read,fun _ _ h=>h.elim,q.dis,fun i x hx=>Own.flat hf (q.own i x hx)⟩,.inl hf⟩
 unfold srcE at h
 split at h
 ·rename_i _ he
  simp only[Option.some.injEq,Prod.mk.injEq]at h;obtain⟨rfl,rfl⟩:=h;have hsh:=hv.ent (by rw[he];rfl) 0 (by rw[he];simp[Ent.root]);rw[he]at hsh;simp only[aF,if_true]at hsh;subst hsh;exact⟨none,0,0,[],fun _=>none',me,⟨rfl,rfl,Nat.le_refl _,by simp[lim],by simp,fun w' _=>by simp[Builtin.firstCells],fun _ _ h=>h.elim,fun _ _ _ _ h=>h.elim,fun i x hx=>by simp at hx⟩,.inr rfl⟩
 ·rename_i e' m' xs t he hs
  obtain⟨t',g1,g2,rfl⟩:=hv.own (by rw[he];rfl);rw[hs]at g1;injection g1 with g1;subst g1;have h3:=hi.ent t;rw[g2,he]at h3;obtain⟨pl,S0,cs,h3⟩:=h3;obtain⟨_,_,e3,e4,e5⟩:=h3.own_inj;subst e4;have hO:aT F w (.slice e') (.own m') (S t) (a.tmps.getD t undef) xs:=⟨cs,e5,h3.2.2⟩;cases hk:(decide (m'=me)&& !e.flat&& !dO me)
  ·rw[hk]at h
   simp only[cond_false]at h;cases hk2:(e.flat||(dO me&&dO m'))
   ·rw[hk2]at h;cases h
   rw[hk2]at h;simp only[cond_true,Option.map_eq_some_iff,Prod.mk.injEq]at h;obtain⟨zs,h1,rfl,rfl⟩:=h;obtain⟨rfl,rfl⟩:=dZ h1;obtain⟨ao,n,cap,cs',Si,q,_⟩:=eV.of_own (P:=P) hO;cases hf:e'.flat
   ·simp only[hf,Bool.false_or,Bool.and_eq_true]at hk2
    have e1:me= .shr:=by cases me<;>first|rfl|cases hk2.1
    have e2:m'= .shr:=by cases m'<;>first|rfl|cases hk2.2
    subst e1;subst e2;exact⟨ao,n,cap,cs',fun _=>none',.shr,⟨q.val,q.len,q.le,q.lim,q.csl,fun w' hw=>q.read w' (fun b hb=>hw b (.inr ⟨t,hb⟩)),fun _ _ h=>h.elim,fun _ _ _ _ h=>h.elim,fun i x hx=>Own.shr (q.own i x hx)⟩,.inr rfl⟩
   ·exact⟨ao,n,cap,cs',fun _=>none',m',⟨q.val,q.len,q.le,q.lim,q.csl,fun w' hw=>q.read w' (fun b hb=>hw b (.inr ⟨t,hb⟩)),fun _ _ h=>h.elim,fun _ _ _ _ h=>h.elim,fun i x hx=>Own.flat hf (q.own i x hx)⟩,.inl rfl⟩
  ·rw[hk]at h
   simp only[cond_true,Option.map_eq_some_iff,Prod.mk.injEq]at h;obtain⟨zs,h1,rfl,rfl⟩:=h;obtain⟨rfl,rfl⟩:=dZ h1;simp only[Bool.and_eq_true,decide_eq_true_eq]at hk;obtain⟨⟨rfl,_⟩,_⟩:=hk;obtain⟨ao,n,cap,cs',Si,q,_⟩:=eV.of_own (P:=P) hO;exact⟨ao,n,cap,cs',Si,m',⟨q.val,q.len,q.le,q.lim,q.csl,fun w' hw=>q.read w' (fun b hb=>hw b (.inr ⟨t,hb⟩)),fun i b hb=>⟨t,by simp,q.sub i b hb⟩,q.dis,q.own⟩,.inr rfl⟩
 ·rename_i e' xs _ he
  cases hk:(e.flat||dO me)
  ·rw[hk]at h;cases h
  rw[hk]at h;simp only[cond_true,Option.map_eq_some_iff,Prod.mk.injEq]at h;obtain⟨zs,h1,rfl,rfl⟩:=h;obtain⟨rfl,rfl⟩:=dZ h1;have hsh:=hv.ent (by rw[he];rfl) 0 (by rw[he];simp[Ent.root]);rw[he]at hsh;simp only[aF,if_true]at hsh;obtain⟨ao,n,cap,cs,Si,me',q,q2⟩:=shr (me:=me) hsh;refine⟨ao,n,cap,cs,Si,me',q,?_⟩;simp only[Bool.or_eq_true]at hk;rcases hk with hk|hk
  ·exact .inl hk
  ·right;rw[q2];cases me<;>first|rfl|cases hk
 ·rename_i e' xs _ he
  cases hk:(e.flat||dO me)
  ·rw[hk]at h;cases h
  rw[hk]at h;simp only[cond_true,Option.map_eq_some_iff,Prod.mk.injEq]at h;obtain⟨zs,h1,rfl,rfl⟩:=h;obtain⟨rfl,rfl⟩:=dZ h1;have hsh:=hv.ent (by rw[he];rfl) 0 (by rw[he];simp[Ent.root]);rw[he]at hsh;simp only[aF,if_true]at hsh;obtain⟨_,_,hsh⟩:=hsh;obtain⟨ao,n,cap,cs,Si,me',q,q2⟩:=shr (me:=me) hsh;refine⟨ao,n,cap,cs,Si,me',q,?_⟩;simp only[Bool.or_eq_true]at hk;rcases hk with hk|hk
  ·exact .inl hk
  ·right;rw[q2];cases me<;>first|rfl|cases hk
 ·cases hf:e.flat
  ·rw[hf]at h
   simp only[cond_false]at h;split at h
   ·rename_i al hal
    obtain⟨σ,z,μ,pl,S0,cs,pl',cs',hA,hrd,hva⟩:=kD hi hv hal;split at h
    ·rename_i e' xs m' hg hm
     cases hk:(dO m'&&dO me)
     ·rw[hk]at h;cases h
     rw[hk]at h;simp only[cond_true,Option.map_eq_some_iff,Prod.mk.injEq]at h;obtain⟨zs,h1,rfl,rfl⟩:=h;obtain⟨rfl,rfl⟩:=dZ h1;simp only[Bool.and_eq_true]at hk;have e1:me= .shr:=by cases me<;>first|rfl|cases hk.2
     have e2:m'= .shr:=by cases m'<;>first|rfl|cases hk.1
     subst e1;subst e2;have e3:=hA.get.symm.trans hg;simp only[Option.some.injEq,Sigma.mk.injEq]at e3;obtain⟨rfl,e3⟩:=e3;cases e3;have e4:=hA.mode.symm.trans hm;simp only[Option.some.injEq]at e4;subst e4;obtain⟨cs2,S2,fo⟩:=hA.focus (fun b hb=>(hi.sb _ b hb).2.2)
     have e5:=fo.ok.read.symm.trans hrd
     simp only[Option.some.injEq]at e5;subst e5;have hO3:aT F w _ (.own .shr) S2 v _:=⟨cs2,hva,fo.own⟩;obtain⟨ao,n,cap,cs3,Si,q,_⟩:=eV.of_own (P:=P) hO3;exact⟨ao,n,cap,cs3,fun _=>none',.shr,⟨q.val,q.len,q.le,q.lim,q.csl,fun w' hw=>q.read w' (fun b hb=>hw b (.inr ⟨al.r,hA.root.sub b (fo.sub b hb)⟩)),fun _ _ h=>h.elim,fun _ _ _ _ h=>h.elim,fun i x hx=>Own.shr (q.own i x hx)⟩,.inr rfl⟩
    ·cases h
   ·cases h
  ·rw[hf]at h
   simp only[cond_true]at h;split at h
   ·rename_i e' xs hval
    simp only[Option.map_eq_some_iff,Prod.mk.injEq]at h;obtain⟨zs,h1,rfl,rfl⟩:=h;obtain⟨rfl,rfl⟩:=dZ h1;obtain⟨ao,n,cap,cs,Si,me',q,q2⟩:=flat hf (aP.val_ok hi hv hval);exact⟨ao,n,cap,cs,Si,me',q,.inl rfl⟩
   ·cases h

def sA(P:Program)(w:World)(ao:Option Addr)(k:Nat)(news:List Value)(v:Value):Result Value:=
 match ao with
 |some b=>((storeCells (b.add k) news).run P w).andThen fun _ w'=> .ok v w'
 |none=> .ok v w

theorem jT(hC:aG P C){T T2 ty:TypeId}{e e2:Ty}(hT:look C.tys T=some (.slice e))(hT2:look C.tys T2=some (.slice e2)){ao:Option Addr}{sLen sCap:Nat}{olds:List Value}{ax:Option Addr}{n cx:Nat}{news:List Value}
  (hold:∀w':World,w'.heap=w.heap->(Builtin.firstCells e.size sLen (.slice ao sLen sCap)).run P w'= .ok olds.toArray w')
  (hnew:∀w':World,w'.heap=w.heap->(Builtin.firstCells e.size n (.slice ax n cx)).run P w'= .ok news.toArray w')
  (hb:((sLen+n:Nat):Int)<=bJ):
  (sLen+n<=sCap->(Builtin.append_ #[T,T2] ty #[.slice ao sLen sCap,.slice ax n cx]).run P w=sA P w ao (sLen*e.size) news (.slice ao (sLen+n) sCap))/\
  (sCap<sLen+n->∃cap zs E,sLen+n<=cap/\zs.length=(cap-(sLen+n))*e.size/\(Builtin.append_ #[T,T2] ty #[.slice ao sLen sCap,.slice ax n cx]).run P w=
   .ok (.slice (some ⟨w.heap.size,0,none⟩) (sLen+n) cap) (w.drew.alloc (.cells (olds++news++zs).toArray E))):=by
 obtain⟨E,t1,t2,t3⟩:=(hC.types T _ hT).slice
 obtain⟨E2,t1',t2',t3'⟩:=(hC.types T2 _ hT2).slice
 obtain⟨i,dd,q1,q2,q3,q4,q5,q6⟩:=hC.types E _ t2
 have hz:=Own.zero none' w e .shr none'
 have hzc:=dK hz.len hz.one
 have hn:=hnew w rfl
 unfold bJ at hb
 have h63:¬(IntKind.i64.max<((sLen+n:Nat):Int)):=by
  have:IntKind.i64.max=9223372036854775807:=by decide
  omega
 refine⟨fun hfit=> ?_,fun hgrow=> ?_⟩
 ·simp only[Builtin.append_,List.getElem?_toArray,List.getElem?_cons_zero,List.getElem?_cons_succ]
  simp only[Sem.run_bind,run_underlying t1,run_underlying t1',Result.andThen,sizeOf,typeInfo,run_program,q1,Sem.run_pure,Builtin.lenOf,hfit,if_true,if_false,q3,hn,Bool.false_eq_true,not_false_eq_true,Bool.not_false];cases ao with
  |none=>simp[sA]
  |some b=>
   simp only[Sem.run_bind,Result.andThen,sA];cases hst:(storeCells (b.add (sLen*e.size)) news).run P w<;>simp[Result.andThen,hst]
 ·have h48:¬(2^48<Builtin.nextslicecap (sLen+n) sCap*i.bytes):=by
   have h1:=nextslicecap_le hgrow
   have h2:Builtin.nextslicecap (sLen+n) sCap*i.bytes<=(2*(sLen+n))*65536:=Nat.mul_le_mul h1 q4
   omega
  have hn2:=hnew w.drew rfl
  have ho2:=hold w.drew rfl
  have hcut:sLen+n<=grownCap w (sLen+n) sCap E:=by simp[grownCap,Question.cut]
  refine⟨grownCap w (sLen+n) sCap E,(Builtin.zeroCells e.zero.toArray (grownCap w (sLen+n) sCap E-(sLen+n))).toList,E,hcut,by simp[Builtin.zeroCells,hz.len],?_⟩
  have hng:¬(sLen+n<=sCap):=by omega
  simp only[Builtin.append_,List.getElem?_toArray,List.getElem?_cons_zero,List.getElem?_cons_succ];simp only[Sem.run_bind,run_underlying t1,run_underlying t1',Result.andThen,sizeOf,typeInfo,run_program,q1,Sem.run_pure,Builtin.lenOf,hng,if_false,q3,gt_iff_lt,h63,false_and,h48,
   run_choose,Question.forced,Bool.false_eq_true,run_askRoom,World.drew_eq,Bool.not_false,if_true,not_false_eq_true]
  simp only[ho2,hn2,Result.andThen,zeroValue,typeInfo,Sem.run_bind,run_program,q1,q5,Sem.run_pure,newRow,run_newObj,hzc];simp[grownCap];show w.drew.alloc _=w.drew.alloc _
  congr 2
  apply Array.ext'
  simp

end
end Go.Lf
namespace Go.Lf

def zA(C:Ctx)(d:Nat)(T T2:TypeId)(vt vs:aP):qN:=
 match look C.tys T,look C.tys T2 with
 |some (.slice e),some (.slice _)=>match vt.e,vt.s with
  | .own (.slice e') (.own me) xs,some t=>match bY (τ:= .slice e') (σ:= .slice e) xs,srcE e me vs with
   |some xs,some (ys,l)=>bif bQ (t::l)then some (((List.length xs+List.length ys:Nat):Int)<=bJ,mkE C d (.slice e) (.own me) (xs++ys),t::l)else none
   |_,_=>none
  | .nilS,_=>match srcE e (elM (lJ C d (.own .shr))) vs with
   |some (ys,l)=>bif bQ l then some (((List.length ys:Nat):Int)<=bJ,mkE C d (.slice e) (.own (elM (lJ C d (.own .shr)))) ys,l)else none
   |none=>none
  | .full e' xs,_=>match bY (τ:= .slice e') (σ:= .slice e) xs,srcE e .shr vs with
   |some xs,some (ys,l)=>bif bQ l then some (((List.length xs+List.length ys:Nat):Int)<=bJ/\0<List.length ys,mkE C d (.slice e) (.own .shr) (xs++ys),l)else none
   |_,_=>none
  | .sub r p,_=>match vt.sub? with
   |some al=>match aN al.p al.τ al.x,bI al.p al.τ al.m with
    |some ⟨.slice e',xs⟩,some (.own me)=>match bY (τ:= .slice e') (σ:= .slice e) xs,srcE e me vs with
     |some xs,some (ys,l)=>bif bQ (r::l)then some (((List.length xs+List.length ys:Nat):Int)<=bJ,.pend r p e me (xs++ys),l)else none
     |_,_=>none
    |_,_=>none
   |none=>none
  |_,_=>none
 |_,_=>none

section
variable {P:Program} {C:Ctx} {N:NP} {w0:World} {F0 H:aA} {env:St} {a:Act} {w:World} {F:aA} {S:Nat->aA} {d:Nat}

def SiA(n:Nat)(A B:Nat->aA)(i:Nat):aA:=if i<n then A i else B (i-n)

theorem qM{n:Nat}{A B:Nat->aA}{X Y:aA}(hA:∀i,Sub (A i) X)(hB:∀i,Sub (B i) Y)(hXY:Dis X Y)(dA:∀i j,i≠j->Dis (A i) (A j))(dB:∀i j,i≠j->Dis (B i) (B j)):
  ∀i j,i≠j->Dis (SiA n A B i) (SiA n A B j):=by
 intro i j hij b h1 h2
 unfold SiA at h1 h2
 by_cases hi:i<n<;>by_cases hj:j<n<;>simp only[hi,hj,if_true,if_false]at h1 h2
 ·exact dA i j hij b h1 h2
 ·exact hXY b (hA i b h1) (hB _ b h2)
 ·exact hXY b (hA j b h2) (hB _ b h1)
 ·exact dB (i-n) (j-n) (by omega) b h1 h2

theorem x8{w':World}{e:Ty}{me:Md}{xs ys:List e.den}{c1 c2 c3:List Value}{A B:Nat->aA}(l1:c1.length=xs.length*e.size)(l2:c2.length=ys.length*e.size)
  (h1:∀i x,xs[i]? =some x->Own F w' e me (A i) (seg c1 (i*e.size) e.size) x) (h2:∀i x,ys[i]? =some x->Own F w' e me (B i) (seg c2 (i*e.size) e.size) x):
  ∀i x,(xs++ys)[i]? =some x->Own F w' e me (SiA xs.length A B i) (seg (c1++c2++c3) (i*e.size) e.size) x:=by
 intro i x hx
 unfold SiA
 by_cases hi:i<xs.length
 ·simp only[hi,if_true]
  rw[List.getElem?_append_left hi]at hx;have hle:(i+1)*e.size<=xs.length*e.size:=Nat.mul_le_mul_right _ (by omega);rw[Nat.add_mul,Nat.one_mul]at hle;have:seg (c1++c2++c3) (i*e.size) e.size=seg c1 (i*e.size) e.size:=by
   unfold seg;rw[List.append_assoc,List.drop_append_of_le_length (by omega),List.take_append_of_le_length (by simp;omega)]
  rw[this];exact h1 i x hx
 ·simp only[hi,if_false]
  rw[List.getElem?_append_right (by omega)]at hx;have hj:i-xs.length<ys.length:=by
   rcases Nat.lt_or_ge (i-xs.length) ys.length with h|h
   ·exact h
   ·rw[List.getElem?_eq_none h]at hx;cases hx
  have hle:(i-xs.length+1)*e.size<=ys.length*e.size:=Nat.mul_le_mul_right _ (by omega)
  rw[Nat.add_mul,Nat.one_mul]at hle;have e1:i*e.size=c1.length+(i-xs.length)*e.size:=by
   rw[l1,<-Nat.add_mul];congr 1;omega
  have:seg (c1++c2++c3) (i*e.size) e.size=seg c2 ((i-xs.length)*e.size) e.size:=by
   unfold seg;rw[e1,List.append_assoc,List.drop_append,List.drop_of_length_le (by omega),List.nil_append,Nat.add_sub_cancel_left,List.drop_append_of_le_length (by omega),List.take_append_of_le_length (by simp;omega)]
  rw[this];exact h2 _ x hx

theorem aJ.world(hi:aJ P N w0 F0 H env a w F S){w':World}(h1:w'.os=w.os)(h2:w'.tape=w.tape)(h3:w'.output=w.output)(h4:w.heap.size<=w'.heap.size)
  (h5:∀b,F b∨(∃t,S t b)->w'.heap[b]? =w.heap[b]?) (h6:∀k,k<w0.heap.size->¬H k->w'.heap[k]? =w.heap[k]?):aJ P N w0 F0 H env a w' F S:=by
 refine⟨h1.trans hi.os,h2.trans hi.tape,h3.trans hi.output,Nat.le_trans hi.size h4,fun k hk hH=>(h6 k hk hH).trans (hi.block k hk hH),fun b hb=>Nat.lt_of_lt_of_le (hi.fb b hb) h4,hi.f0,hi.fn,
  fun t b hb=>⟨(hi.sb t b hb).1,Nat.lt_of_lt_of_le (hi.sb t b hb).2.1 h4,(hi.sb t b hb).2.2⟩,hi.sd,fun t=> ?_,hi.defers,hi.slots⟩
 refine aF.keep (fun _ h=>h) (fun b hb=>h5 b (.inl hb)) rfl ?_ ?_ (hi.ent t)
 ·intro r _
  exact⟨fun _=>rfl,fun _=>rfl,rfl,fun b hb=>h5 b (.inr ⟨r,hb⟩),fun b h1 h2=>absurd h1 h2,fun b hb=>(hi.sb r b hb).2.2⟩
 ·intro _
  exact⟨rfl,fun b hb=>h5 b (.inr ⟨t,hb⟩),fun b h1 h2=>absurd h1 h2⟩

theorem eV.fix{G Sx:aA}{e:Ty}{me me':Md}{v:Value}{n cap:Nat}{ao:Option Addr}{xs:List e.den}{cs:List Value}{Si:Nat->aA}
  (h:eV P G Sx F w e me' v n cap ao xs cs Si) (hm:e.flat=true∨me'=me):eV P G Sx F w e me v n cap ao xs cs Si:=by
 refine⟨h.val,h.len,h.le,h.lim,h.csl,h.read,h.sub,h.dis,fun i x hx=> ?_⟩
 rcases hm with hm|rfl
 ·exact Own.flat hm (h.own i x hx)
 ·exact h.own i x hx

theorem fJ{n:Nat}(h:(n:Int)<=bJ):n<=lim:=by unfold bJ at h;unfold lim;omega

theorem nZ(hC:aG P C)(hi:aJ P N w0 F0 H env a w F S)(hd:Wr N d){T T2 ty:TypeId}{e e2:Ty}(hT:look C.tys T=some (.slice e))(hT2:look C.tys T2=some (.slice e2))
  {G1 G2 Sx Sy:aA} {me:Md} {v1 v2:Value} {n1 n2 cap1 cap2:Nat} {ao1 ao2:Option Addr} {xs ys:List e.den} {cs1 cs2:List Value} {Si1 Si2:Nat->aA}
  (r1:eV P G1 Sx F w e me v1 n1 cap1 ao1 xs cs1 Si1) (r2:eV P G2 Sy F w e me v2 n2 cap2 ao2 ys cs2 Si2)
  (hgrow:(ao1=none/\cap1=0)∨(cap1<n1+n2)∨∃b off row T0,ao1=some ⟨b,off,none⟩/\Sx b/\w.heap[b]? =some (.cells row T0 (0,0))/\off+cap1*e.size<=row.size/\cs1=seg row.toList off (n1*e.size)/\∀i,¬Si1 i b)
  {used:List Nat} (hnd:bQ used=true) (hx:Sub Sx (SL S used)) (hy:Sub Sy (SL S used)) (hxy:Dis Sx Sy) (hlen:((xs.length+ys.length:Nat):Int)<=bJ):
  ∃v w' F2 S2,(Builtin.append_ #[T,T2] ty #[v1,v2]).run P w= .ok v w'/\aJ P N w0 F0 H (put (dropAll env used) d (mkE C d (.slice e) (.own me) (xs++ys))) (a.put (some d) v) w' F2 S2:=by
 obtain⟨S2,d1,d2,d3⟩:=aJ.dropAll used hi
 have e1:=r1.val
 have e2':=r2.val
 have l1:=r1.len
 have l2:=r2.len
 subst l1;subst l2
 subst e1;subst e2'
 obtain⟨g1,g2⟩:=jT (P:=P) (ty:=ty) (w:=w) hC hT hT2 (ao:=ao1) (sLen:=xs.length) (sCap:=cap1) (olds:=cs1) (ax:=ao2) (n:=ys.length) (cx:=cap2) (news:=cs2)
  (fun w' hw=>r1.read w' (fun b _=>by rw[hw])) (fun w' hw=>r2.read w' (fun b _=>by rw[hw])) hlen
 have hdis:=qM (n:=xs.length) r1.sub r2.sub hxy r1.dis r2.dis
 have hSub:∀i,Sub (SiA xs.length Si1 Si2 i) (SL S used):=by
  intro i b hb;unfold SiA at hb;split at hb
  ·exact hx b (r1.sub _ b hb)
  ·exact hy b (r2.sub _ b hb)
 have hSb:∀i b,SiA xs.length Si1 Si2 i b->b<w.heap.size:=fun i b hb=>by
  obtain⟨t,_,hb⟩:=hSub i b hb;exact(hi.sb t b hb).2.1
 have hl:(xs++ys).length=xs.length+ys.length:=by simp
 by_cases hfit:xs.length+ys.length<=cap1
 ·
  have g1:=g1 hfit
  rcases hgrow with⟨rfl,hc⟩|h|⟨b,off,row,T0,rfl,hb,hrow,hsz,hcs,hnb⟩
  ·have hx0:xs=[]:=List.eq_nil_of_length_eq_zero (by omega)
   have hy0:ys=[]:=List.eq_nil_of_length_eq_zero (by omega)
   subst hx0;subst hy0;subst hc;obtain⟨F2,S3,h5⟩:=d1.putNew (C:=C) (τ:= .slice e) (m:= .own me) (x:=([]:List e.den)) (v:= .slice none 0 0) (Sd:=none') hd (RowKit.Below.refl _ _) (fun _ h=>h) hi.fb (fun b h1 h2=>absurd h1 h2) (fun _ h=>h.elim) (.nil _ _ _ _ _)
   exact⟨_,_,F2,S3,g1,h5⟩
  ·omega
  ·
   have hn1:∀u∈cs2,u.oneCell'=true:=r2.all_one
   have hl2:=r2.csl
   have hl1:=r1.csl
   have hfit2:off+xs.length*e.size+cs2.length<=row.size:=by
    have:=Nat.mul_le_mul_right e.size hfit
    rw[Nat.add_mul]at this;omega
   have hst:=run_storeCells_at (P:=P) b (off+xs.length*e.size) T0 cs2 0 row w hrow (by omega) hn1
   simp only[Nat.add_zero]at hst;have g1':(Builtin.append_ #[T,T2] ty #[.slice (some ⟨b,off,none⟩) xs.length cap1,.slice ao2 ys.length cap2]).run P w= .ok (.slice (some ⟨b,off,none⟩) (xs.length+ys.length) cap1)
     (w.setRow b (row.toList.take (off+xs.length*e.size)++cs2++row.toList.drop (off+xs.length*e.size+cs2.length)).toArray):=by
    rw[g1];simp only[sA,kT,hst,Result.andThen]
   have hbS:SL S used b:=hx b hb
   obtain⟨tb,htb,hbt⟩:=hbS;have hbI:=hi.sb tb b hbt;generalize hw':w.setRow b (row.toList.take (off+xs.length*e.size)++cs2++row.toList.drop (off+xs.length*e.size+cs2.length)).toArray=w' at g1';have hrow':w'.heap[b]? =some (.cells (row.toList.take (off+xs.length*e.size)++cs2++row.toList.drop (off+xs.length*e.size+cs2.length)).toArray T0 (0,0)):=by
    rw[<-hw'];simp[World.setRow,Array.getElem?_modify,hrow]
   have hoth:∀k,k≠b->w'.heap[k]? =w.heap[k]? :=by
    intro k hk;rw[<-hw'];simp only[World.setRow,Array.getElem?_modify];rw[if_neg (Ne.symm hk)]
   have hsize:w'.heap.size=w.heap.size:=by rw[<-hw'];simp[World.setRow]
   have hd1:aJ P N w0 F0 H (Go.Lf.dropAll env used) a w' F S2:=d1.world (by rw[<-hw'];rfl) (by rw[<-hw'];rfl) (by rw[<-hw'];rfl) (by omega)
    (by
     rintro k (hk|⟨t,hk⟩)
     ·exact hoth k (fun e=>hbI.2.2 (e▸hk))
     ·refine hoth k (fun e=> ?_)
      subst e;exact(oQ d2 d3 hi k ⟨tb,htb,hbt⟩).2.2.2 t hk)
    (fun k hk hH=>hoth k (fun e=>by
     subst e;exact hbI.1.elim (fun h=>by omega) hH))
   have hsegA:∀i,i<xs.length->seg (row.toList.take (off+xs.length*e.size)++cs2++row.toList.drop (off+xs.length*e.size+cs2.length)) (off+i*e.size) e.size=seg cs1 (i*e.size) e.size:=by
    intro i hi';have hle:(i+1)*e.size<=xs.length*e.size:=Nat.mul_le_mul_right _ (by omega);rw[Nat.add_mul,Nat.one_mul]at hle;rw[fO _ _ _ _ rfl (by simpa using hfit2) _ _ (by simp;omega) (.inl (by omega)),hcs,dV _ _ _ _ _ hle]
   have hsegB:∀j,j<ys.length->seg (row.toList.take (off+xs.length*e.size)++cs2++row.toList.drop (off+xs.length*e.size+cs2.length)) (off+(xs.length+j)*e.size) e.size=seg cs2 (j*e.size) e.size:=by
    intro j hj;have hle:(j+1)*e.size<=ys.length*e.size:=Nat.mul_le_mul_right _ (by omega);rw[Nat.add_mul,Nat.one_mul]at hle;have h1:=jS row.toList (off+xs.length*e.size) cs2.length cs2 rfl (by simpa using hfit2);have h2:=dV (row.toList.take (off+xs.length*e.size)++cs2++row.toList.drop (off+xs.length*e.size+cs2.length)) (off+xs.length*e.size) cs2.length (j*e.size) e.size (by omega);rw[h1]at h2;rw[h2];congr 1;rw[Nat.add_mul];omega
   have hkeep:∀ {me:Md} {S1:aA} {c:List Value} {x:e.den},Sub S1 (SL S used)->¬S1 b->Own F w e me S1 c x->Own F w' e me S1 c x:=fun hs hn h=>
    h.congr (fun k hk=>hoth k (fun e=>hbI.2.2 (e▸hk))) (fun k hk=>hoth k (fun e=>hn (e▸hk)))
   have hnB:∀i,¬Si2 i b:=fun i h=>hxy b hb (r2.sub i b h)
   have hown:aT F w' (.slice e) (.own me) (SL S used) (.slice (some ⟨b,off,none⟩) (xs.length+ys.length) cap1) (xs++ys):=by
    rw[<-hl];refine⟨_,rfl,_,cap1,rfl,by omega,by rw[hl];exact fJ hlen,.inr ⟨b,off,_,T0,SiA xs.length Si1 Si2,rfl,⟨tb,htb,hbt⟩,hrow',?_,hSub,?_,hdis,?_⟩⟩
    ·simp;omega
    ·intro i h
     unfold SiA at h;split at h
     ·exact hnb _ h
     ·exact hnB _ h
    ·intro i x hx'
     unfold SiA;by_cases hi':i<xs.length
     ·simp only[hi',if_true]
      rw[List.getElem?_append_left hi']at hx';have q:=hkeep (fun b hb=>hx b (r1.sub _ b hb)) (hnb i) (r1.own i x hx')
      rw[<-hsegA i hi']at q;exact q
     ·simp only[hi',if_false]
      rw[List.getElem?_append_right (by omega)]at hx';have hj:i-xs.length<ys.length:=by
       rcases Nat.lt_or_ge (i-xs.length) ys.length with h|h
       ·exact h
       ·rw[List.getElem?_eq_none h]at hx';cases hx'
      have:=hsegB (i-xs.length) hj
      rw[show xs.length+(i-xs.length)=i from by omega]at this
      have q:=hkeep (fun b hb=>hy b (r2.sub _ b hb)) (hnB _) (r2.own _ x hx')
      rw[<-this]at q;exact q
   obtain⟨F2,S3,h5⟩:=hd1.putNew (C:=C) (τ:= .slice e) (m:= .own me) (Sd:=SL S used) hd (RowKit.Below.refl _ _) (fun _ h=>h) hd1.fb (fun b h1 h2=>absurd h1 h2)
    (fun k hk=>by have:=oQ d2 d3 hi k hk;exact⟨this.1,by omega,this.2.2⟩) hown
   exact⟨_,_,F2,S3,g1',h5⟩
 ·have hg:=g2 (by omega)
  obtain⟨cap,zs,E,k1,k2,k3⟩:=hg;have hbel:RowKit.Below w.heap.size w (w.drew.alloc (.cells (cs1++cs2++zs).toArray E)):=(RowKit.Below.refl _ _).drew.alloc (Nat.le_refl _) _;have hown:=aT.newRow (G:=F) (w':=w.drew.alloc (.cells (cs1++cs2++zs).toArray E)) (e:=e) (me:=me) (b:=w.heap.size) (row:=(cs1++cs2++zs).toArray) (T:=E)
   (Sd:=fun b=>SL S used b∨b=w.heap.size) (xs:=xs++ys) (cap:=cap) (Si:=SiA xs.length Si1 Si2) (.inr rfl) (lO w.drew _)
   (by
    have:=r1.csl;have:=r2.csl
    have hmul:cap*e.size=xs.length*e.size+ys.length*e.size+(cap-(xs.length+ys.length))*e.size:=by
     rw[<-Nat.add_mul,<-Nat.add_mul];congr 1;omega
    simp;omega) (by rw[hl];omega) (by rw[hl];exact fJ hlen)
   (fun j b hb=> .inl (hSub j b hb)) (fun j hb=>by have:=hSb j _ hb;omega) hdis (by
    have:=x8 (F:=F) (w':=w.drew.alloc (.cells (cs1++cs2++zs).toArray E)) (c3:=zs) (A:=Si1) (B:=Si2) r1.csl r2.csl
     (fun i x hx'=>(r1.own i x hx').congr (fun b hb=>hbel.block b (hi.fb b hb)) (fun b hb=>hbel.block b (by obtain⟨t,_,hb⟩:=hx b (r1.sub _ b hb);exact(hi.sb t b hb).2.1)))
     (fun i x hx'=>(r2.own i x hx').congr (fun b hb=>hbel.block b (hi.fb b hb)) (fun b hb=>hbel.block b (by obtain⟨t,_,hb⟩:=hy b (r2.sub _ b hb);exact(hi.sb t b hb).2.1)))
    simpa using this)
  rw[hl]at hown;obtain⟨F2,S3,h5⟩:=d1.putNew (C:=C) hd hbel (fun _ h=>h) (fun b h=>by have:=hi.fb b h;simp;omega) (fun b h1 h2=>absurd h1 h2)
   (by
    rintro b (hb|hb)
    ·have:=oQ d2 d3 hi b hb
     refine⟨this.1,by have:=this.2.1;simp;omega,this.2.2⟩
    ·subst hb
     refine⟨.inl hi.size,by simp,fun h=>by have:=hi.fb _ h;omega,fun t ht=>by have:=(hi.sb t _ (d3 t _ ht)).2.1;omega⟩) hown
  exact⟨_,_,F2,S3,k3,h5⟩

end
end Go.Lf
namespace Go.Lf

def TailW(w w':World)(b k:Nat):Prop:=
 (∀j,j≠b->w'.heap[j]? =w.heap[j]?)/\∃row row' T,w.heap[b]? =some (.cells row T (0,0))/\w'.heap[b]? =some (.cells row' T (0,0))/\row'.size=row.size/\
  ∀o n,o+n<=k->seg row'.toList o n=seg row.toList o n

theorem gY{F:aA}{w w':World}{b off cap:Nat}{e:Ty}{xs:List e.den}{me:Md}(ht:TailW w w' b (off+xs.length*e.size)):
  ∀(p:cM) {τ:Ty} {m:Md} {S:aA} {pl pl':aK} {cs:List Value} {x:τ.den},
   (∀k,S k->¬F k)->Own F w τ m S cs x->fM F S w pl τ.size cs->aN p τ x=some ⟨.slice e,xs⟩->bI p τ m=some (.own me)->inR p τ x->loc w p τ pl=some (.slice e,pl')->
   pl'.read w 1=some [.slice (some ⟨b,off,none⟩) xs.length cap]->0<cap->
   S b/\Own F w' τ m S cs x/\∀q μ,bI q τ m=some μ->inR q τ x->loc w' q τ pl=loc w q τ pl
 | [],τ,m,S,pl,pl',cs,x,hd,h,ho,hg,hm,hr,hl,hrd,hcap=>by
  simp only[aN,Option.some.injEq,Sigma.mk.injEq]at hg;obtain⟨rfl,hg⟩:=hg;cases hg;simp only[bI,Option.some.injEq]at hm;subst hm;simp only[loc,Option.some.injEq,Prod.mk.injEq,true_and]at hl;subst hl;have hcs:=ho.read.symm.trans hrd;simp only[Option.some.injEq]at hcs;obtain⟨ao,cap0,e1,h1,h2,h3⟩:=h;rw[hcs]at e1;simp only[List.cons.injEq,Value.slice.injEq,and_true,true_and]at e1;obtain⟨e1,e2⟩:=e1;subst e2;rcases h3 with⟨h3,_⟩|⟨b1,off1,row,T,Si,h3,hb,hrow,hsz,s,nb,d,he⟩
  ·rw[<-e1]at h3;cases h3
  rw[<-e1]at h3;simp only[Option.some.injEq,Addr.mk.injEq,and_true]at h3;obtain⟨rfl,rfl⟩:=h3;obtain⟨t1,row0,row',T0,t2,t3,t4,t5⟩:=ht;rw[hrow]at t2;injection t2 with t2;injection t2 with t2 t6;subst t2;subst t6;have hS:∀i k,Si i k->w'.heap[k]? =w.heap[k]? :=fun i k hk=>t1 k (fun e=>nb i (e▸hk))
  have hF:∀k,F k->w'.heap[k]? =w.heap[k]? :=fun k hk=>t1 k (fun e=>hd b hb (e▸hk))
  have hB:∀k,pl.isB k->w'.heap[k]? =w.heap[k]? :=fun k hk=>t1 k (fun e=>by
   cases pl with
   |val _=>exact hk
   |mem b0 o0=>cases hk;subst e;exact ho.1 hb)
  have hseg:∀i,i<xs.length->seg row'.toList (off+i*e.size) e.size=seg row.toList (off+i*e.size) e.size:=fun i hi=>t5 _ _ (by
   have:(i+1)*e.size<=xs.length*e.size:=Nat.mul_le_mul_right _ (by omega)
   rw[Nat.add_mul,Nat.one_mul]at this;omega)
  refine⟨hb,⟨ao,cap,hcs.trans (by rw[e1]),h1,h2,.inr ⟨b,off,row',T,Si,e1.symm,hb,t3,by omega,s,nb,d,fun i x hx=> ?_⟩⟩,?_⟩
  ·have hi:i<xs.length:=by
    rcases Nat.lt_or_ge i xs.length with h|h
    ·exact h
    ·rw[List.getElem?_eq_none h]at hx;cases hx
   rw[hseg i hi];exact(he i x hx).congr hF (hS i)
  ·intro q μ hq hrq
   cases q with
   |nil=>rfl
   |cons st q=>
    cases st with
    |fst=>simp[bI]at hq
    |snd=>simp[bI]at hq
    |idx i=>
     obtain⟨hi,hrq⟩:=hrq;have hi:i<xs.length:=hi;have r1:pl.read w 1=_:=hrd;have r2:pl.read w' 1=pl.read w 1:=aK.read_congr hB;simp only[loc,r2,r1];rw[if_pos hi,if_pos hi];have hle:(i+1)*e.size<=cap*e.size:=Nat.mul_le_mul_right _ (by omega);rw[Nat.add_mul,Nat.one_mul]at hle;refine cQ q (Own.list_get he hi) ?_ ?_ hq hrq (fun k hk=>hS i k hk)
     ·simp only[aK.read,hrow];rw[if_pos (by omega)]
     ·simp only[aK.read,t3];rw[if_pos (by omega),hseg i hi]
 | .fst::p,.prod A B,m,S,pl,pl',cs,x,hd,h,ho,hg,hm,hr,hl,hrd,hcap=>by
  obtain⟨c1,c2,S1,S2,rfl,s1,s2,d,o1,o2⟩:=h;have l1:=o1.len;obtain⟨g1,g2,g3⟩:=gY ht p (fun k hk=>hd k (s1 k hk)) o1 (ho.part s1 (by simp[Ty.size]) (bP _ _ _ l1)) hg hm hr hl hrd hcap
  have hS2:∀k,S2 k->w'.heap[k]? =w.heap[k]? :=fun k hk=>ht.1 k (fun e=>d b g1 (e▸hk))
  have hF:∀k,F k->w'.heap[k]? =w.heap[k]? :=fun k hk=>ht.1 k (fun e=>hd b (s1 b g1) (e▸hk))
  have hB:∀k,pl.isB k->w'.heap[k]? =w.heap[k]? :=fun k hk=>ht.1 k (fun e=>by
   cases pl with
   |val _=>exact hk
   |mem b0 o0=>cases hk;subst e;exact ho.1 (s1 _ g1))
  refine⟨s1 b g1,⟨c1,c2,S1,S2,rfl,s1,s2,d,g2,o2.congr hF hS2⟩,?_⟩
  intro q μ hq hrq;cases q with
  |nil=>rfl
  |cons st q=>
   cases st with
   |fst=>exact g3 q μ hq hrq
   |snd=>
    have hrd2:=aK.read_part ho.read (o:=A.size) (k:=B.size) (by simp[Ty.size])
    rw[bL _ _ _ _ l1 o2.len]at hrd2;exact cQ q o2 hrd2 ((aK.read_congr (fun k hk=>hB k (aK.part_isB.1 hk))).trans hrd2) hq hrq hS2
   |idx i=>simp[bI]at hq
 | .snd::p,.prod A B,m,S,pl,pl',cs,x,hd,h,ho,hg,hm,hr,hl,hrd,hcap=>by
  obtain⟨c1,c2,S1,S2,rfl,s1,s2,d,o1,o2⟩:=h;have l1:=o1.len;obtain⟨g1,g2,g3⟩:=gY ht p (fun k hk=>hd k (s2 k hk)) o2 (ho.part s2 (by simp[Ty.size]) (bL _ _ _ _ l1 o2.len)) hg hm hr hl hrd hcap
  have hS1:∀k,S1 k->w'.heap[k]? =w.heap[k]? :=fun k hk=>ht.1 k (fun e=>d b (e▸hk) g1)
  have hF:∀k,F k->w'.heap[k]? =w.heap[k]? :=fun k hk=>ht.1 k (fun e=>hd b (s2 b g1) (e▸hk))
  have hB:∀k,pl.isB k->w'.heap[k]? =w.heap[k]? :=fun k hk=>ht.1 k (fun e=>by
   cases pl with
   |val _=>exact hk
   |mem b0 o0=>cases hk;subst e;exact ho.1 (s2 _ g1))
  refine⟨s2 b g1,⟨c1,c2,S1,S2,rfl,s1,s2,d,o1.congr hF hS1,g2⟩,?_⟩
  intro q μ hq hrq;cases q with
  |nil=>rfl
  |cons st q=>
   cases st with
   |snd=>exact g3 q μ hq hrq
   |fst=>
    have hrd2:=aK.read_part ho.read (o:=0) (k:=A.size) (by simp[Ty.size])
    rw[bP _ _ _ l1]at hrd2;exact cQ q o1 hrd2 ((aK.read_congr (fun k hk=>hB k (aK.part_isB.1 hk))).trans hrd2) hq hrq hS1
   |idx i=>simp[bI]at hq
 | .idx i::p,.slice E,.own me0,S,pl,pl',cs,ys,hd,h,ho,hg,hm,hr,hl,hrd,hcap=>by
  obtain⟨ao,cap0,rfl,hc,hlim,h⟩:=h;obtain⟨hi,hr⟩:=hr;have hi:i<ys.length:=hi;rcases h with⟨_,h⟩|⟨b1,off1,row,T,Si,rfl,hb,hrow,hsz,s,nb,d,he⟩
  ·omega
  have hle:(i+1)*E.size<=cap0*E.size:=Nat.mul_le_mul_right _ (by omega)
  rw[Nat.add_mul,Nat.one_mul]at hle;have r1:pl.read w 1=_:=ho.read;have hl2:loc w p E (.mem b1 (off1+i*E.size))=some (.slice e,pl'):=by
   simp only[loc,r1]at hl
   rwa [if_pos hi]at hl
  obtain⟨g1,g2,g3⟩:=gY ht p (pl:= .mem b1 (off1+i*E.size)) (fun k hk=>hd k (s i k hk)) (Own.list_get he hi) ⟨nb i,hd _ hb,row,T,hrow,by omega,rfl⟩ hg hm hr hl2 hrd hcap
  have hbb:b1≠b:=fun e=>nb i (e▸g1)
  have hrow':w'.heap[b1]? =some (.cells row T (0,0)):=(ht.1 b1 hbb).trans hrow
  have hSj:∀j,j≠i->∀k,Si j k->w'.heap[k]? =w.heap[k]? :=fun j hj k hk=>ht.1 k (fun e=>d i j (Ne.symm hj) b g1 (e▸hk))
  have hF:∀k,F k->w'.heap[k]? =w.heap[k]? :=fun k hk=>ht.1 k (fun e=>hd b (s i b g1) (e▸hk))
  have hB:∀k,pl.isB k->w'.heap[k]? =w.heap[k]? :=fun k hk=>ht.1 k (fun e=>by
   cases pl with
   |val _=>exact hk
   |mem b0 o0=>cases hk;subst e;exact ho.1 (s i _ g1))
  refine⟨s i b g1,⟨_,cap0,rfl,hc,hlim,.inr ⟨b1,off1,row,T,Si,rfl,hb,hrow',hsz,s,nb,d,fun j x hx=> ?_⟩⟩,?_⟩
  ·by_cases hj:j=i
   ·subst hj
    have:x=ys.getD j E.dflt:=by simp[List.getD_eq_getElem?_getD,hx]
    rw[this];exact g2
   ·exact(he j x hx).congr hF (hSj j hj)
  ·intro q μ hq hrq
   cases q with
   |nil=>rfl
   |cons st q=>
    cases st with
    |fst=>simp[bI]at hq
    |snd=>simp[bI]at hq
    |idx j=>
     obtain⟨hj,hrq⟩:=hrq;have hj:j<ys.length:=hj;have r2:pl.read w' 1=pl.read w 1:=aK.read_congr hB;simp only[loc,r2,r1];rw[if_pos hj,if_pos hj];by_cases hji:j=i
     ·subst hji;exact g3 q μ hq hrq
     ·have hle2:(j+1)*E.size<=cap0*E.size:=Nat.mul_le_mul_right _ (by omega)
      rw[Nat.add_mul,Nat.one_mul]at hle2;refine cQ q (Own.list_get he hj) ?_ ?_ hq hrq (hSj j hji)
      ·simp only[aK.read,hrow];rw[if_pos (by omega)]
      ·simp only[aK.read,hrow'];rw[if_pos (by omega)]
 | .idx i::p,.arr n E,m,S,pl,pl',cs,ys,hd,h,ho,hg,hm,hr,hl,hrd,hcap=>by
  obtain⟨hn,hlen,Si,s,d,he⟩:=h;obtain⟨hi,hr⟩:=hr;have hi:i<List.length ys:=hi;have hle:(i+1)*E.size<=n*E.size:=Nat.mul_le_mul_right _ (by omega);rw[Nat.add_mul,Nat.one_mul]at hle;have hl2:loc w p E (pl.part (i*E.size) E.size)=some (.slice e,pl'):=by
   simp only[loc]at hl
   rwa [if_pos (by omega)]at hl
  obtain⟨g1,g2,g3⟩:=gY ht p (pl:=pl.part (i*E.size) E.size) (fun k hk=>hd k (s i k hk)) (Own.list_get he hi) (ho.part (s i) (by simpa[Ty.size]using hle) rfl) hg hm hr hl2 hrd hcap
  have hSj:∀j,j≠i->∀k,Si j k->w'.heap[k]? =w.heap[k]? :=fun j hj k hk=>ht.1 k (fun e=>d i j (Ne.symm hj) b g1 (e▸hk))
  have hF:∀k,F k->w'.heap[k]? =w.heap[k]? :=fun k hk=>ht.1 k (fun e=>hd b (s i b g1) (e▸hk))
  have hB:∀k,pl.isB k->w'.heap[k]? =w.heap[k]? :=fun k hk=>ht.1 k (fun e=>by
   cases pl with
   |val _=>exact hk
   |mem b0 o0=>cases hk;subst e;exact ho.1 (s i _ g1))
  refine⟨s i b g1,⟨hn,hlen,Si,s,d,fun j x hx=> ?_⟩,?_⟩
  ·by_cases hj:j=i
   ·subst hj
    have:x=List.getD ys j E.dflt:=by simp[List.getD_eq_getElem?_getD,hx]
    rw[this];exact g2
   ·exact(he j x hx).congr hF (hSj j hj)
  ·intro q μ hq hrq
   cases q with
   |nil=>rfl
   |cons st q=>
    cases st with
    |fst=>simp[bI]at hq
    |snd=>simp[bI]at hq
    |idx j=>
     obtain⟨hj,hrq⟩:=hrq;have hj:j<List.length ys:=hj;simp only[loc];rw[if_pos (by omega),if_pos (by omega)];by_cases hji:j=i
     ·subst hji;exact g3 q μ hq hrq
     ·have hle2:(j+1)*E.size<=n*E.size:=Nat.mul_le_mul_right _ (by omega)
      rw[Nat.add_mul,Nat.one_mul]at hle2;have hrd2:=aK.read_part ho.read (o:=j*E.size) (k:=E.size) (by simpa[Ty.size]using hle2);exact cQ q (Own.list_get he hj) hrd2 ((aK.read_congr (fun k hk=>hB k (aK.part_isB.1 hk))).trans hrd2) hq hrq (hSj j hji)
 | .fst::_,.int _,_,_,_,_,_,_,_,_,_,hg,_,_,_,_,_=>by simp[aN]at hg
 | .fst::_,.bool,_,_,_,_,_,_,_,_,_,hg,_,_,_,_,_=>by simp[aN]at hg
 | .fst::_,.str,_,_,_,_,_,_,_,_,_,hg,_,_,_,_,_=>by simp[aN]at hg
 | .fst::_,.abs _,_,_,_,_,_,_,_,_,_,hg,_,_,_,_,_=>by simp[aN]at hg
 | .fst::_,.unit,_,_,_,_,_,_,_,_,_,hg,_,_,_,_,_=>by simp[aN]at hg
 | .fst::_,.slice _,_,_,_,_,_,_,_,_,_,hg,_,_,_,_,_=>by simp[aN]at hg
 | .fst::_,.arr _ _,_,_,_,_,_,_,_,_,_,hg,_,_,_,_,_=>by simp[aN]at hg
 | .snd::_,.int _,_,_,_,_,_,_,_,_,_,hg,_,_,_,_,_=>by simp[aN]at hg
 | .snd::_,.bool,_,_,_,_,_,_,_,_,_,hg,_,_,_,_,_=>by simp[aN]at hg
 | .snd::_,.str,_,_,_,_,_,_,_,_,_,hg,_,_,_,_,_=>by simp[aN]at hg
 | .snd::_,.abs _,_,_,_,_,_,_,_,_,_,hg,_,_,_,_,_=>by simp[aN]at hg
 | .snd::_,.unit,_,_,_,_,_,_,_,_,_,hg,_,_,_,_,_=>by simp[aN]at hg
 | .snd::_,.slice _,_,_,_,_,_,_,_,_,_,hg,_,_,_,_,_=>by simp[aN]at hg
 | .snd::_,.arr _ _,_,_,_,_,_,_,_,_,_,hg,_,_,_,_,_=>by simp[aN]at hg
 | .idx _::_,.int _,_,_,_,_,_,_,_,_,_,hg,_,_,_,_,_=>by simp[aN]at hg
 | .idx _::_,.bool,_,_,_,_,_,_,_,_,_,hg,_,_,_,_,_=>by simp[aN]at hg
 | .idx _::_,.str,_,_,_,_,_,_,_,_,_,hg,_,_,_,_,_=>by simp[aN]at hg
 | .idx _::_,.abs _,_,_,_,_,_,_,_,_,_,hg,_,_,_,_,_=>by simp[aN]at hg
 | .idx _::_,.unit,_,_,_,_,_,_,_,_,_,hg,_,_,_,_,_=>by simp[aN]at hg
 | .idx _::_,.prod _ _,_,_,_,_,_,_,_,_,_,hg,_,_,_,_,_=>by simp[aN]at hg
 | .idx _::_,.slice _,.shr,_,_,_,_,_,_,_,_,_,hm,_,_,_,_=>by simp[bI]at hm
 | .idx _::_,.slice _,.pair _ _,_,_,_,_,_,_,_,_,_,hm,_,_,_,_=>by simp[bI]at hm

end Go.Lf
