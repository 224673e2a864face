/- convert.at: the part by hand: put together. -/
import Derived.Test.YtagdgckmikcllaaLfo
import Derived.Shelf.SlMaps.Clone
import Derived.Shelf.SlMaps.Copy
import Derived.Shelf.SlSortCmp.WholeK
import Derived.Ground.SlmcProg
import Derived.Ground.SlmpProg
import Derived.Ground.SlsfProg
import Derived.Test.YtagdgckmikcllaaProg
import Derived.Maps.RangeWalk
import Derived.Lib.SlMapMerge
import Derived.Deep.Light
set_option linter.unusedVariables false
set_option linter.unusedSimpArgs false
namespace Go.Lf

structure xG where
 τ:Ty
 m:Md
 args:List AK
 multi:Bool
 res:Ty
 mode:Md
 pre:τ.den->aH args->Prop
 fn:τ.den->aH args->res.den
def xG.f(s:xG)(x:s.τ.den):bD:={args:=s.args,multi:=s.multi,res:=s.res,mode:=s.mode,pre:=s.pre x,fn:=s.fn x}
def vT(F S0:aA)(w:World)(multi:Bool)(τ:Ty)(m:Md)(y:τ.den)(e:Ending)(w':World):Prop:=
 ∃v F' Sd,e= .returned v/\w'.os=w.os/\w'.tape=w.tape/\w'.output=w.output/\w.heap.size<=w'.heap.size/\(∀k,k<w.heap.size->¬S0 k->w'.heap[k]? =w.heap[k]?)/\
  Sub F F'/\(∀b,F' b->¬F b->w.heap.size<=b∨S0 b)/\(∀b,F' b∨Sd b->b<w'.heap.size)/\(∀b,Sd b->(w.heap.size<=b∨S0 b)/\¬F' b)/\RetV F' w' multi τ m Sd v y
def MOk(P:Program)(f:FuncId)(s:xG):Prop:=
 fV P f/\∀(w:World) (F S0:aA) (v:Value) (x:s.τ.den) vs (y:aH s.args),(∀b,F b->b<w.heap.size)->(∀k,S0 k->k<w.heap.size/\¬F k)->aT F w s.τ s.m S0 v x->cD P F w s.args vs y->s.pre x y->
  Calls P f (v::vs).toArray w (vT F S0 w s.multi s.res s.mode (s.fn x y))
def funM(C:Ctx)(stp:St->Oper->Option (Prop×St))(s:xG)(K:s.τ.den->aH s.args->KT)(fn:Func):Prop:=
 match fn.body with
 |some c=>∀x y,s.pre x y->aB s.τ x->gE s.args y->wpT C stp (K x y) c (ofL ((0,.own s.τ s.m x)::bZ s.args y 1)) (jU C fn.results.toList (s.f x) (s.fn x y)) (fun _ _=>False) (jU C fn.results.toList (s.f x) (s.fn x y))
 |none=>False

section
variable {P:Program} {C:Ctx} {N:NP} {w0:World} {F0 H:aA} {env:St} {a:Act} {w:World} {F:aA} {S:Nat->aA} {d:Nat}

theorem aJ.postM{F:aA}(hi:aJ P N w0 F0 H env a w F S){multi:Bool}{τ:Ty}{m:Md}{v:Value}{x:τ.den}{F' Sd:aA}
  (hF:Sub F F') (hF':∀b,F' b->F b∨∃t,S t b) (hS:∀b,Sd b->(∃t,S t b)/\¬F' b) (h:RetV F' w multi τ m Sd v x):
  vT F0 H w0 multi τ m x (.returned v) w:=by
 have hnew:∀b,(∃t,S t b)->(w0.heap.size<=b∨H b)/\b<w.heap.size:=by
  rintro b ⟨t,hb⟩
  obtain⟨h1,h2,_⟩:=hi.sb t b hb;exact⟨h1,h2⟩
 refine⟨v,F',Sd,rfl,hi.os,hi.tape,hi.output,hi.size,hi.block,fun b hb=>hF b (hi.f0 b hb),?_,?_,?_,h⟩
 ·intro b h1 h2
  rcases hF' b h1 with h|h
  ·exact hi.fn b h h2
  ·exact(hnew b h).1
 ·intro b h
  rcases h with h|h
  ·rcases hF' b h with h|h
   ·exact hi.fb b h
   ·exact(hnew b h).2
  ·exact(hnew b (hS b h).1).2
 ·intro b h
  exact⟨(hnew b (hS b h).1).1,(hS b h).2⟩

theorem retM_ok(hC:aG P C){s:bD}{fn:Func}{y:s.res.den}(h:jU C fn.results.toList s y env){a:Act}{w:World}(hi:Inv P N w0 F0 H env a w):
  ∃v,(results fn a.tmps).run P w= .ok v w/\vT F0 H w0 s.multi s.res s.mode y (.returned v) w:=by
 unfold jU at h
 generalize hret:retE C fn.results.toList s env=g at h
 cases g with
 |none=>cases h
 |some x=>
  simp only[]at h;subst h;obtain⟨F,S,hi⟩:=hi;have hFA:∀ {m:Md} {v:Value},dO m=true->aT (FA F S) w s.res .shr none' v x->s.multi=false->m=s.mode->vT F0 H w0 s.multi s.res s.mode x (.returned v) w:=by
   intro m v hm hv hmu hms;subst hms;have hm':s.mode= .shr:=by cases hmm:s.mode<;>first|rfl|(rw[hmm]at hm;cases hm)
   refine hi.postM (F':=FA F S) (Sd:=none') (fun b hb=> .inl hb) (fun b hb=>hb) (fun b hb=>hb.elim) ?_
   rw[hmu,hm'];exact hv
  unfold retE at hret;split at hret
  ·rename_i t hrs hmu
   have hrun:=cX (P:=P) (w:=w) (a:=a) (fn:=fn) (vs:=[a.tmps.getD t undef]) (by rw[hrs];simp[oS,Sem.run_bind,Sem.run_pure,Result.andThen])
   refine⟨_,hrun,?_⟩
   simp only[List.size_toArray,List.length_cons,List.length_nil,Nat.zero_add,dite_true];show vT F0 H w0 s.multi s.res s.mode x (.returned (a.tmps.getD t undef)) w;have hv:=aX hi (.tmp t);split at hret
   ·rename_i z l hz
    simp only[Option.some.injEq]at hret;subst hret;rcases lX hi hv hz with⟨rfl,h⟩|⟨u,rfl,h⟩
    ·refine hi.postM (F':=F) (Sd:=none') (fun b hb=>hb) (fun b hb=> .inl hb) (fun b hb=>hb.elim) ?_
     rw[hmu];exact h
    ·refine hi.postM (F':=F) (Sd:=S u) (fun b hb=>hb) (fun b hb=> .inl hb) (fun b hb=>⟨⟨u,hb⟩,(hi.sb u b hb).2.2⟩) ?_
     rw[hmu];exact h
   ·cases hm:dO s.mode
    ·rw[hm]at hret;cases hret
    ·rw[hm]at hret
     simp only[cond_true]at hret;exact hFA hm (pZ hi hv hret) hmu rfl
  ·rename_i t T hrs hmu
   cases hm:(s.res.flat||dO s.mode)
   ·rw[hm]at hret
    simp only[cond_false]at hret;unfold y5 at hret;split at hret
    ·rename_i σ m z he
     cases hT:(decide (look C.tys T=some s.res)&&decide (m=s.mode))
     ·rw[hT]at hret;cases hret
     rw[hT]at hret;simp only[cond_true]at hret;simp only[Bool.and_eq_true,decide_eq_true_eq]at hT;obtain⟨hT',hmd⟩:=hT;have:=aV hret;injection this with e1 e2;subst e1;cases e2;have h1:=hi.ent t;rw[he]at h1;obtain⟨pl,S0,cs,h1⟩:=h1;obtain⟨_,_,b,rfl,rfl,hv,hb⟩:=h1.box_inj;obtain⟨q1,q2,row,T0,q3,q4,q5⟩:=h1.2.1;have hl:=(hC.types T _ hT').loadVar q3 q4;rw[q5]at hl;have hrun:=cX (P:=P) (w:=w) (a:=a) (fn:=fn) (vs:=[bH s.res cs]) (by
      rw[hrs];simp only[List.mapM_cons,List.mapM_nil,oS,hv,asAddr,Sem.run_bind,Sem.run_pure,Result.andThen,hl])
     refine⟨_,hrun,?_⟩
     simp only[List.size_toArray,List.length_cons,List.length_nil,Nat.zero_add,dite_true];show vT F0 H w0 s.multi s.res s.mode _ (.returned (bH s.res cs)) w;refine hi.postM (F':=F) (Sd:=fun k=>S t k/\k≠b) (fun b hb=>hb) (fun b hb=> .inl hb) (fun k hk=>⟨⟨t,hk.1⟩,(hi.sb t k hk.1).2.2⟩) ?_
     rw[hmu];show aT F w s.res s.mode _ _ _;rw[<-hmd];exact⟨cs,rfl,h1.2.2⟩
    ·cases hret
   rw[hm]at hret;simp only[cond_true]at hret;unfold pI at hret;split at hret
   ·rename_i σ m z he
    cases hT:decide (look C.tys T=some s.res)
    ·rw[hT]at hret;cases hret
    rw[hT]at hret;simp only[cond_true]at hret;have hT':=of_decide_eq_true hT;have:=aV hret;injection this with e1 e2;subst e1;cases e2;have h1:=hi.ent t;rw[he]at h1;obtain⟨pl,S0,cs,h1⟩:=h1;obtain⟨_,_,b,rfl,rfl,hv,hb⟩:=h1.box_inj;obtain⟨q1,q2,row,T0,q3,q4,q5⟩:=h1.2.1;have hl:=(hC.types T _ hT').loadVar q3 q4;rw[q5]at hl;have hrun:=cX (P:=P) (w:=w) (a:=a) (fn:=fn) (vs:=[bH s.res cs]) (by
     rw[hrs];simp only[List.mapM_cons,List.mapM_nil,oS,hv,asAddr,Sem.run_bind,Sem.run_pure,Result.andThen,hl])
    refine⟨_,hrun,?_⟩
    simp only[List.size_toArray,List.length_cons,List.length_nil,Nat.zero_add,dite_true];show vT F0 H w0 s.multi s.res s.mode _ (.returned (bH s.res cs)) w;have hO:aT F w s.res m (fun k=>S t k/\k≠b) (bH s.res cs) _:=⟨cs,rfl,h1.2.2⟩
    simp only[Bool.or_eq_true]at hm;rcases hm with hm|hm
    ·refine hi.postM (F':=F) (Sd:=none') (fun b hb=>hb) (fun b hb=> .inl hb) (fun b hb=>hb.elim) ?_
     rw[hmu];exact aT.flat hm hO
    ·exact hFA hm (hO.freeze (fun k hk=>hk.imp id fun hk=>⟨t,hk.1⟩)) hmu rfl
   ·cases hret
  ·rename_i hmu
   cases hl:Nat.beq fn.results.toList.length 1
   ·rw[hl]at hret
    simp only[cond_false]at hret;split at hret
    ·rename_i vws hvs
     obtain⟨vs,k1,k2,k3⟩:=qS hi hvs;have hrun:=cX (P:=P) (w:=w) (a:=a) (fn:=fn) (vs:=vs) k2;have hne:¬vs.toArray.size=1:=by
      intro h;simp only[List.size_toArray]at h;rw[k3]at h;rw[aY.2 h]at hl;cases hl
     rw[dif_neg hne]at hrun;refine⟨_,hrun,?_⟩;split at hret
     ·rename_i z l hz
      cases hn:bQ l
      ·rw[hn]at hret;cases hret
      rw[hn]at hret;simp only[cond_true,Option.some.injEq]at hret;subst hret;refine hi.postM (F':=F) (Sd:=SL S l) (fun b hb=>hb) (fun b hb=> .inl hb) (fun b ⟨u,_,hb⟩=>⟨⟨u,hb⟩,(hi.sb u b hb).2.2⟩) ?_
      rw[hmu];exact⟨vs,rfl,uI hi k1 hz hn⟩
     ·cases hm:dO s.mode
      ·rw[hm]at hret;cases hret
      ·rw[hm]at hret
       simp only[cond_true]at hret;have hm':s.mode= .shr:=by cases hmm:s.mode<;>first|rfl|(rw[hmm]at hm;cases hm)
       refine hi.postM (F':=FA F S) (Sd:=none') (fun b hb=> .inl hb) (fun b hb=>hb) (fun b hb=>hb.elim) ?_
       rw[hmu,hm'];exact⟨vs,rfl,rE hi k1 hret⟩
    ·cases hm:dO s.mode
     ·rw[hm]at hret;cases hret
     ·rw[hm]at hret
      simp only[cond_true]at hret;obtain⟨vs,k1,k3,k4⟩:=kX hC hi hret;have hrun:=cX (P:=P) (w:=w) (a:=a) (fn:=fn) (vs:=vs) k1;have hne:¬vs.toArray.size=1:=by
       intro h;simp only[List.size_toArray]at h;rw[k3]at h;rw[aY.2 h]at hl;cases hl
      rw[dif_neg hne]at hrun;refine⟨_,hrun,?_⟩;have hm':s.mode= .shr:=by cases hmm:s.mode<;>first|rfl|(rw[hmm]at hm;cases hm)
      refine hi.postM (F':=FA F S) (Sd:=none') (fun b hb=> .inl hb) (fun b hb=>hb) (fun b hb=>hb.elim) ?_
      rw[hmu,hm'];exact⟨vs,rfl,k4⟩
   ·rw[hl]at hret;cases hret
  ·cases hret


theorem aJ.startM{τ:Ty}{m:Md}{args:List AK}{vs:List Value}{y:aH args}{v:Value}{x:τ.den}{n:Nat}{S0:aA}(hF:∀k,F k->k<w.heap.size)(hS0:∀k,S0 k->k<w.heap.size/\¬F k)
  (h2:aT F w τ m S0 v x) (ha:cD P F w args vs y) (hn:vs.length+1<=n):
  aJ P ⟨n,none,0,0,[]⟩ w F S0 (ofL ((0,.own τ m x)::bZ args y 1)) {tmps:=(v::vs).toArray++Array.replicate (n-(vs.length+1)) undef,defers:=[]} w F (fun t k=>t=0/\S0 k):=by
 have hget:∀i u,(v::vs)[i]? =some u->((v::vs).toArray++Array.replicate (n-(vs.length+1)) undef).getD i undef=u:=by
  intro i u hv;have hi:i<(v::vs).length:=by
   rcases Nat.lt_or_ge i (v::vs).length with h|h
   ·exact h
   ·rw[List.getElem?_eq_none h]at hv;cases hv
  rw[Array.getD_eq_getD_getElem?,Array.getElem?_append_left (by simpa using hi)];simp only[List.getElem?_toArray,hv,Option.getD_some]
 have hV:=hget 0 _ rfl
 have he:=mK (env:=ofL ((0,.own τ m x)::bZ args y 1)) (S:=fun t k=>t=0/\S0 k) (V:=fun t=>((v::vs).toArray++Array.replicate (n-(vs.length+1)) undef).getD t undef) (n:=1) ha
  (fun i u hv=>hget (1+i) u (by rw[Nat.add_comm];simpa using hv))
 refine⟨rfl,rfl,rfl,Nat.le_refl _,fun _ _ _=>rfl,hF,fun _ h=>h,fun b h1 h2=>absurd h1 h2,?_,?_,?_,rfl,⟨by simp;omega,(fun s h=>by cases h),fun b o h=>(by cases h),fun z hz=>by cases hz⟩⟩
 ·rintro t k ⟨rfl,hk⟩
  exact⟨.inr hk,(hS0 k hk).1,(hS0 k hk).2⟩
 ·rintro t u htu k ⟨rfl,_⟩ ⟨rfl,_⟩
  exact htu rfl
 ·intro t
  show aF P F w (ofL ((0,.own τ m x)::bZ args y 1)) _ _ t (match look ((0,.own τ m x)::bZ args y 1) t with|some e=>e|none=> .dead)
  cases t with
  |zero=>
   show ∃pl S1 cs,fH F w _ _ (.own τ m x) τ m x pl S1 cs
   obtain⟨cs,hv,ho⟩:=h2;refine⟨.val cs,(fun k=>0=0/\S0 k),cs,.inl ⟨rfl,rfl,rfl,hV.trans hv⟩,rfl,ho.mono (fun _ h=>h) (fun k hk=>⟨rfl,hk⟩)⟩
  |succ t=>
   have e1:look ((0,Ent.own τ m x)::bZ args y 1) (t+1)=look (bZ args y 1) (t+1):=rfl
   rw[e1];cases hl:look (bZ args y 1) (t+1)with
   |none=>trivial
   |some e=>exact(he.2 _ e hl).2.2

theorem MOk.intro(hC:aG P C){stp:St->Oper->Option (Prop×St)}(hstp:dM P C stp){f:FuncId}{s:xG}{fn:Func}(hdef:fV P f)(hf:P.funcs[f]? =some fn)
  (hN:C.np=⟨fn.ntmps,none,0,0,[]⟩) (hlen:Nat.ble (s.args.length+1) fn.ntmps=true) (K:s.τ.den->aH s.args->KT) (h:funM C stp s K fn):MOk P f s:=by
 refine⟨hdef,?_⟩
 intro w F S0 v x vs y hF hS0 h2 ha hpre
 unfold funM at h
 split at h
 ·rename_i c hbd
  have hl:=cD.len ha
  have hlen':s.args.length+1<=fn.ntmps:=Nat.le_of_ble_eq_true hlen
  have hst:=aJ.startM (P:=P) (n:=fn.ntmps) hF hS0 h2 ha (by omega)
  rw[<-hN]at hst;refine calls_of_wp hf hbd ?_;have hfact:aB s.τ x:=by obtain⟨cs,_,ho⟩:=h2;exact ho.fact
  refine qR hC hstp c (h x y hpre hfact (d4 ha)) ⟨F,_,by simpa using hst⟩ ?_ (fun _ _ _ _ h=>h.elim) ?_
  ·intro st a w' hq hi
   obtain⟨v,h1,h2⟩:=retM_ok hC hq hi;obtain⟨_,_,hi⟩:=hi;exact⟨hi.defers,v,h1,h2⟩
  ·intro st a w' hq hi
   obtain⟨v,h1,h2⟩:=retM_ok hC hq hi;obtain⟨_,_,hi⟩:=hi;exact⟨hi.defers,v,h1,h2⟩
 ·cases h
end
end Go.Lf
namespace Sp
noncomputable section
def uniO(u:Uni)(b:Int)(o:Opd):Bool:=u.1.getD b.toNat false&&(decide (o.1≠2)||(decide (o.2.1<(u.2.1.length:Int))&&u.2.1.getD o.2.1.toNat false))
def okQ(c:Code):Prop:=∀b,b<(cB c).length->oT c.2.2.1 (trm c b).2.2.2.1
def cP(u:Uni)(c:Code)(xs:List Int)(i:Nat):Code:=(bW u (c,xs) i).1
def xP(u:Uni)(c:Code)(xs:List Int)(i:Nat):List Int:=(bW u (c,xs) i).2
end
end Sp
namespace Go.User
open Go.Lf
noncomputable section
def S49:bD:={args:=[.val gH,.val tI,.val aM],multi:=false,res:= .bool,mode:= .shr,pre:=fun x=>(0<=x.2.1/\x.2.1<(List.length x.1.1:Int))/\(x.2.2.1.1=2->0<=x.2.2.1.2.1),fn:=fun x=>Sp.uniO x.1 x.2.1 x.2.2.1}
def C49:Ctx:=mkC 33 []
def L49(x:aH S49.args):List aW:=[]
abbrev mDn:Md:= .pair .shr (.pair mCnv .shr)
def S26m:xG:={τ:=tDn,m:=mDn,args:=[.val gH],multi:=false,res:=tDn,mode:=mDn,pre:=fun x y=>Sp.okA x.1/\Sp.okV x.1/\Sp.okQ x.1/\List.length (Sp.cB x.1)<=List.length y.1.1/\List.length x.2.1.1<=100000,fn:=fun x y=>(Sp.cP y.1 x.1 x.2.1.1 (List.length (Sp.cB x.1)),(Sp.xP y.1 x.1 x.2.1.1 (List.length (Sp.cB x.1)),()),())}
def C26m:Ctx:={mkC 49 [(49,S49),(31,S31)]with mds:=[(4,mDn),(5,.shr),(7,.shr)]}
def A26(x:tDn.den)(y:aH [.val gH]):aW:={ι:=Nat,inv:=fun i=>i<=List.length (Sp.cB x.1),dec:=fun i=>List.length (Sp.cB x.1)+1-i,ovr:=fun i=>[(2,.box tDn mDn (Sp.cP y.1 x.1 x.2.1.1 i,(Sp.xP y.1 x.1 x.2.1.1 i,()),())),(6,.shr tI ((List.length (Sp.cB x.1):Int)-1-(i:Int)))],keep:=[3,4,5]}
def T26m(x:S26m.τ.den)(y:aH S26m.args):KT:= .s (.i []) (.s (.i []) (.s (.i [A26 x y]) (.i [])))
def S26b:bD:={args:=[.val tDn,.val gH],multi:=false,res:=tDn,mode:= .shr,pre:=fun x=>Sp.okA x.1.1/\Sp.okV x.1.1/\Sp.okQ x.1.1/\List.length (Sp.cB x.1.1)<=List.length x.2.1.1/\∀i,Sp.bW x.2.1 (x.1.1,x.1.2.1.1) i=(x.1.1,x.1.2.1.1),fn:=fun x=>x.1}
def C26b:Ctx:={mkC 49 [(49,S49),(31,S31)]with mds:=[(4,.shr),(5,.shr),(7,.shr)]}
def L26b(x:aH S26b.args):List aW:=[
 {ι:=Nat,inv:=fun i=>i<=List.length (Sp.cB x.1.1),dec:=fun i=>List.length (Sp.cB x.1.1)+1-i,ovr:=fun i=>[(6,.shr tI ((List.length (Sp.cB x.1.1):Int)-1-(i:Int)))],keep:=[2,3,4,5]}]
def S15:bD:={args:=[.val bF,.val bF,.val jB],multi:=false,res:=tI,mode:= .shr,pre:=fun x=>Sp.okA x.1/\Sp.okV x.1/\Sp.okQ x.1,fn:=fun x=>Sp.fK x.1 x.2.1 x.2.2.1.1}
def C15:Ctx:={mkC 36 [(31,S31),(11,S11)]with mds:=[(7,.shr),(9,.shr)]}
def L15(x:aH S15.args):List aW:=[
 {ι:=Nat×Sp.Code,inv:=fun t=>t.1<=List.length x.2.2.1.1/\Sp.kR x.1 (List.take t.1 x.2.2.1.1)=some t.2/\Sp.okA t.2/\Sp.okV t.2/\Sp.okQ t.2,dec:=fun t=>List.length x.2.2.1.1-t.1,ovr:=fun t=>[(7,.box bF .shr t.2),(8,.shr tI (t.1:Int))],keep:=[4,5,6]}]
end
end Go.User
namespace Sp
theorem lB{n m:Int}{o:Opd}(h:oT n o)(hm:n<=m):oT m o:=fun g=>by have:=h g;omega
theorem oM{n m:Int}{i:Inst}(h:inOK n i)(hm:n<=m):inOK m i:=
 ⟨by have:=h.d;omega,lB h.a hm,lB h.b hm,lB h.c hm⟩
theorem uJ{n r:Int}(h0:0<=r)(h:r<n):oT n (bK r):=fun _=>⟨h0,h⟩
theorem oL(n:Int):oT n bM:=fun h=>absurd h (show ¬(0:Int)=2 by decide)
def Lt(m:Nm)(n:Int):Prop:=∀r v,m r=some v->0<=v/\v<n
theorem lt0(n:Int):Lt nm0 n:=fun r v h=>by cases h
theorem Lt.up{m:Nm}{n:Int}(h:Lt m n){d:Int}(hn:0<=n):Lt (upM m d n) (n+1):=by
 intro r v hv
 unfold upM at hv
 split at hv
 ·injection hv with hv;omega
 ·have:=h r v hv;omega
theorem cpN_lt:∀(l:List Inst) (n:Int) (m:Nm),0<=n->Lt m n->Lt (cpN l n m) (n+(l.length:Int))
 | [],n,m,_,h=>by simpa[cpN]using h
 |a::l,n,m,hn,h=>by
  have:=cpN_lt l (n+1) (upM m (iD a) n) (by omega) (h.up hn)
  have e:n+1+(l.length:Int)=n+((a::l).length:Int):=by rw[List.length_cons];omega
  rw[e]at this;exact this
theorem tW{m:Nm}{n k:Int}{o:Opd}(h:Lt m n)(ho:oT k o)(hk:n<=k):oT k (rnO m o):=by
 unfold rnO
 split
 ·rename_i v hv
  have:=h _ _ hv
  split
  ·exact uJ this.1 (by omega)
  ·exact ho
 ·exact ho
theorem cpL_in:∀(l:List Inst) (n:Int) (m:Nm) (k:Int),0<=n->Lt m n->n+(l.length:Int)<=k->(∀i∈l,inOK k i)->∀i∈cpL l n m,inOK k i
 | [],n,m,k,_,_,_,_,i,hi=>by simp[cpL]at hi
 |a::l,n,m,k,hn,h,hk,hl,i,hi=>by
  rw[List.length_cons]at hk;simp only[cpL,List.mem_cons]at hi;rcases hi with rfl|hi
  ·have ha:=hl a List.mem_cons_self
   exact⟨⟨hn,by show n<k;omega⟩,tW h ha.a (by omega),tW h ha.b (by omega),tW h ha.c (by omega)⟩
  ·exact cpL_in l (n+1) _ k (by omega) (h.up hn) (by omega) (fun j hj=>hl j (List.mem_cons_of_mem _ hj)) i hi
theorem yC{c:Code}(h:okA c)(hv:okV c)(hq:okQ c)(b:Int):okV (atC c b).1/\okQ (atC c b).1:=by
 rcases lM c b with e|⟨e,hb,hp,hr,ht⟩
 ·rw[e];exact⟨hv,hq⟩
 rw[e]
 show okV (eX c b)/\okQ (eX c b)
 have p:=nL hb hp
 have hl:=qE c b
 have hrg:=h.rg
 have r0:=rA0 c b
 have r1:=rA1 c b
 have r2:=rA2 c b
 have hreg:(eX c b).2.2.1=rA c b 2:=rfl
 have htr:∀k,trm (eX c b) k=((cB (eX c b)).getD k bE).2.1:=fun _=>rfl
 have hin:∀k,Sp.ins (eX c b) k=((cB (eX c b)).getD k bE).1:=fun _=>rfl
 have hle:c.2.2.1<=rA c b 2:=by omega
 have hai:∀k,k<2->∀i∈aI c b k,inOK c.2.2.1 i:=by
  intro k hk i hi;rcases oP h.t hb p hk with g|g
  ·rw[kU (by omega)]at hi;simp at hi
  ·rw[xE g.1]at hi
   exact hv.ins _ (by omega) i hi
 refine⟨⟨hv.ar,hv.lo,fun k hk i hi=> ?_⟩,fun k hk=> ?_⟩
 ·rw[hl]at hk
  rw[hreg];rw[hin]at hi;rcases rL hb k with⟨_,q⟩|⟨_,q|q⟩
  ·rw[q]at hi
   have hi:i∈lA c b 2++kA c b:=hi
   rw[lA2,lA1,lA0]at hi;simp only[List.mem_append,List.mem_singleton]at hi;rcases hi with(((hi|hi)|hi)|hi)|hi
   ·exact oM (hv.ins b.toNat (by omega) i hi) hle
   ·subst hi
    have hA:=hq b.toNat (by omega)
    exact⟨⟨by show(0:Int)<=c.2.2.1;omega,by show c.2.2.1<_;omega⟩,lB hA hle,oL _,oL _⟩
   ·exact cpL_in _ _ _ _ (by omega) (lt0 _) (by omega) (fun j hj=>oM (hai 0 (by omega) j hj) hle) i hi
   ·exact cpL_in _ _ _ _ (by omega) (lt0 _) (by omega) (fun j hj=>oM (hai 1 (by omega) j hj) hle) i hi
   ·unfold kA at hi
    obtain⟨r,hr2,rfl⟩:=List.mem_map.1 hi;have hr3:=(List.mem_filter.1 hr2).1;rw[List.mem_range]at hr3;have l0:Lt (nA c b 0) (rA c b 1):=by rw[r1];exact cpN_lt _ _ _ (by omega) (lt0 _)
    have l1:Lt (nA c b 1) (rA c b 2):=by rw[r2];exact cpN_lt _ _ _ (by omega) (lt0 _)
    have hro:oT (rA c b 2) (bK (r:Int)):=uJ (by omega) (by omega)
    exact⟨⟨by show(0:Int)<=(r:Int);omega,by show(r:Int)<_;omega⟩,uJ (by omega) (by omega),tW l0 hro (by omega),tW l1 hro (Int.le_refl _)⟩
  ·rw[q]at hi
   exact oM (hv.ins k hk i hi) hle
  ·rw[q]at hi
   simp[lK]at hi
 ·rw[hl]at hk
  rw[hreg,htr];rcases rL hb k with⟨_,q⟩|⟨_,q|q⟩
  ·rw[q];exact oL _
  ·rw[q];exact lB (hq k hk) hle
  ·rw[q];exact oL _
theorem yB{c:Code}(h:okQ c):okR c:=fun b hb h2=>(h b hb h2).1
structure RV(s:Code×List Int):Prop where
 a:okA s.1
 v:okV s.1
 q:okQ s.1
theorem stepV{s:Code×List Int}(h:RV s)(u:Uni)(b:Int):RV (dU u s b):=by
 unfold dU
 split
 ·exact h
 ·split
  ·obtain⟨h1,h2⟩:=yC h.a h.v h.q b
   exact⟨yD h.a b,h1,h2⟩
  ·exact h
theorem passV{s:Code×List Int}(h:RV s)(u:Uni):∀i,RV (bW u s i)
 |0=>h
 |i+1=>stepV (passV h u i) u _
theorem passNV{s:Code×List Int}(h:RV s)(u:Uni):∀n,RV (bT u s n)
 |0=>h
 |n+1=>passV (passNV h u n) u _
theorem passI_cB(u:Uni)(s:Code×List Int):∀i,(cB (bW u s i).1).length=(cB s.1).length
 |0=>rfl
 |i+1=>by
  have ih:=passI_cB u s i
  simp only[bW];unfold dU;split
  ·exact ih
  ·split
   ·exact(len_at _ _).trans ih
   ·exact ih
theorem uH(u:Uni)(s:Code×List Int):∀i,(bW u s i).2.length<=s.2.length+i
 |0=>Nat.le_refl _
 |i+1=>by
  have ih:=uH u s i
  simp only[bW];unfold dU;split
  ·omega
  ·split
   ·simp only[List.length_append,List.length_cons,List.length_nil];omega
   ·omega
end Sp
namespace Go.User
open Go.Proofs Go.Lf
set_option maxRecDepth 100000
theorem vc49:(eR C49 (dL [] C49) S49 L49 Try.f49)=(
let q0:=True/\True/\True;
∀(x:Sp.Uni×Int×Sp.Opd×Unit),
 let q1:=x.1.1.length;
 let q2:Int:=x.2.2.1.2.1;
 let q3:Bool:=x.1.1.getD x.2.1.toNat false;
 let q4:Bool:=true&&bif q3 then true else false;
 let q5:=q4=true->True;
 let q6:Bool:=x.2.2.1.1 !=(2:Int);
 let q7:Bool:=q4&&bif q6 then false else true;
 let q8:=q7=true->True;
 let q9:=x.1.2.1.length;
 let q10:Bool:=decide (q2<(↑q9:Int));
 let q11:=(q7&&bif q10 then true else false)=true;
 let q12:=q11->True;
 ((0:(AK.val tI).den)<=x.2.1/\x.2.1<(↑q1:Int))/\(x.2.2.1.1=(2:tI.den)->(0:tI.den)<=q2)->aB gH x.1/\aB tI x.2.1/\aB aM x.2.2.1/\True->((True/\q0)/\True)/\((True/\True/\True/\inN x.2.1 q1/\True/\True/\q5/\q5/\q5/\q5/\q8/\q8/\q8/\q8/\q8/\q8/\q8/\q12/\q12/\q12/\q12/\(q11->inN q2 q9)/\q12/\q8/\q5/\q0)/\True)/\(bif q3 then bif q6 then true else bif q10 then x.1.2.1.getD q2.toNat false else false else false)=Sp.uniO x.1 x.2.1 x.2.2.1):=by kernel_rfl
theorem vc26m:(funM C26m (dL [] C26m) S26m T26m Try.f26)=(
let q0:=(2:Nat);
let q1:=True/\True/\True;
let q2:=True/\q1;
let q3:Int:=(1:Int);
let q4:Int:=(1:tI.den);
let q5:Int:=(0:Int);
let q6:Sp.Code×(List Int×Unit)×Unit:=((q5,q5,q5,q5,q5,([]:List cC.den),([]:List bC.den),([]:List eW.den),()),(([]:List tI.den),()),());
let q7:=q6=q6;
let q8:Sp.Opd:=(q5,q5,q5,());
let q9:Sp.Block:=(([]:List aC.den),(q5,q5,q8,q8,q8,List.replicate q0 q5,()),());
let q10:=(1:Nat);
let q11:=True/\q2;
let q12:List aD:=aD.snd::aD.fst::aD.fst::([]:List aD);
∀(x:Sp.Code×(List Int×Unit)×Unit),
 let q13:=(Sp.cB x.1).length;
 let q14:Int:=(↑x.1.2.2.2.2.2.2.2.1.length:Int)-q3;
 let q15:Int:=(↑q13:Int)-q4;
 let q16:=q7/\x.1=x.1/\True;
 let q17:=q13+q10;
 ∀(y:Sp.Uni×Unit),
 let q18:=y.1.1.length;
 let q19:=y.1=y.1/\q16;
 Sp.okA x.1/\Sp.okV x.1/\Sp.okQ x.1/\q13<=q18/\x.2.1.1.length<=(100000:Nat)->
 aB ((tI.prod (tI.prod (tI.prod (tI.prod (tI.prod (cC.slice.prod (bC.slice.prod ((aC.slice.prod ((tI.prod (tI.prod (aM.prod (aM.prod (aM.prod ((Ty.arr q0 tI).prod Ty.unit)))))).prod Ty.unit)).slice.prod Ty.unit)))))))).prod (jB.prod Ty.unit)) x->
 aB gH y.1/\True->
 (q2/\True)/\
 (q2/\True/\True)/\
 ((True/\True/\True/\inK IntKind.i64 q14/\True/\True)/\True)/\
 (∃(x_1:Nat),x_1<=q13/\x=(Sp.cP y.1 x.1 x.2.1.1 x_1,(Sp.xP y.1 x.1 x.2.1.1 x_1,()),())/\q14=q15-(↑x_1:Int)/\q19)/\
 ∀(x_1:Nat),
 let q20:Sp.Code:=Sp.cP y.1 x.1 x.2.1.1 x_1;
 let q21:List Int:=Sp.xP y.1 x.1 x.2.1.1 x_1;
 let q22:Sp.Code×(List Int×Unit)×Unit:=(q20,(q21,()),());
 let q23:Int:=q15-(↑x_1:Int);
 let q24:Bool:=decide (q23≥q5);
 let q25:List Sp.Block:=q20.2.2.2.2.2.2.2.1;
 let q26:Sp.Opd:=(q25.getD q23.toNat q9).2.1.2.2.2.1;
 let q27:Bool:=Sp.uniO y.1 q23 q26;
 let q28:Int:=q23-q3;
 let q29:=(True/\inK IntKind.i64 q28/\True/\True)/\True;
 let q30:=q29/\∃(y_1:Nat),y_1<=q13/\q17-y_1<q17-x_1/\q22=(Sp.cP y.1 x.1 x.2.1.1 y_1,(Sp.xP y.1 x.1 x.2.1.1 y_1,()),())/\q28=q15-(↑y_1:Int)/\q19;
 let q31:Sp.Code×Bool×Unit:=Sp.atC q20 q23;
 let q32:Bool:=q31.2.1;
 let q33:List Int:=q23::([]:List tI.den);
 x_1<=q13->aB ((tI.prod (tI.prod (tI.prod (tI.prod (tI.prod (cC.slice.prod (bC.slice.prod ((aC.slice.prod ((tI.prod (tI.prod (aM.prod (aM.prod (aM.prod ((Ty.arr q0 tI).prod Ty.unit)))))).prod Ty.unit)).slice.prod Ty.unit)))))))).prod (jB.prod Ty.unit)) q22/\aB tI q23/\True->(q1/\True)/\(q24=true->((True/\True/\True/\True/\True/\True/\inN q23 q25.length/\True/\True/\True/\(((0:(AK.val tI).den)<=q23/\q23<(↑q18:Int))/\(q26.1=(2:tI.den)->(0:tI.den)<=q26.2.1))/\True)/\True)/\(q27=true->q30)/\(q27=false->((True/\True/\True/\(Sp.okA q20/\Sp.okV q20)/\q11)/\q1)/\((True/\True)/\True)/\(q32=true->(q1/\True/\True)/\((True/\q11)/\(↑(q21.length+q33.length):Int)<=bJ/\True/\True/\q12=q12/\True)/\q29/\∃(y_1:Nat),y_1<=q13/\q17-y_1<q17-x_1/\(q31.1,(q21++q33,()),())=(Sp.cP y.1 x.1 x.2.1.1 y_1,(Sp.xP y.1 x.1 x.2.1.1 y_1,()),())/\q28=q15-(↑y_1:Int)/\q19)/\(q32=false->q30)))/\(q24=false->((True/\True)/\True/\True)/\q22=(Sp.cP y.1 x.1 x.2.1.1 q13,(Sp.xP y.1 x.1 x.2.1.1 q13,()),()))):=by kernel_rfl
theorem vc26b:(eR C26b (dL [] C26b) S26b L26b Try.f26)=(
let q0:=(2:Nat);
let q1:=True/\True/\True;
let q2:=True/\q1;
let q3:Int:=(1:Int);
let q4:Int:=(1:tI.den);
let q5:Int:=(0:Int);
let q6:Sp.Code×(List Int×Unit)×Unit:=((q5,q5,q5,q5,q5,([]:List cC.den),([]:List bC.den),([]:List eW.den),()),(([]:List tI.den),()),());
let q7:=q6=q6;
let q8:Sp.Opd:=(q5,q5,q5,());
let q9:Sp.Block:=(([]:List aC.den),(q5,q5,q8,q8,q8,List.replicate q0 q5,()),());
let q10:=(1:Nat);
∀(x:(Sp.Code×(List Int×Unit)×Unit)×Sp.Uni×Unit),
 let q11:=(Sp.cB x.1.1).length;
 let q12:=x.2.1.1.length;
 let q13:List Sp.Block:=x.1.1.2.2.2.2.2.2.2.1;
 let q14:=q13.length;
 let q15:Int:=(↑q14:Int)-q3;
 let q16:Int:=(↑q11:Int)-q4;
 let q17:=x.1=x.1/\x.2.1=x.2.1/\q7/\x.1.1=x.1.1/\True;
 let q18:=q11+q10;
 (Sp.okA x.1.1/\Sp.okV x.1.1/\Sp.okQ x.1.1/\q11<=q12/\∀(i:Nat),Sp.bW x.2.1 (x.1.1,x.1.2.1.1) i=(x.1.1,x.1.2.1.1))->
 aB ((tI.prod (tI.prod (tI.prod (tI.prod (tI.prod (cC.slice.prod (bC.slice.prod ((aC.slice.prod ((tI.prod (tI.prod (aM.prod (aM.prod (aM.prod ((Ty.arr q0 tI).prod Ty.unit)))))).prod Ty.unit)).slice.prod Ty.unit)))))))).prod (jB.prod Ty.unit)) x.1/\aB gH x.2.1/\True->
 (q2/\True)/\
 (q2/\True/\True)/\
 ((True/\True/\True/\inK IntKind.i64 q15/\True/\True)/\True)/\
 (∃(x:Nat),x<=q11/\q15=q16-(↑x:Int)/\q17)/\
 ∀(x_1:Nat),
 let q19:Int:=q16-(↑x_1:Int);
 let q20:Bool:=decide (q19≥q5);
 let q21:Sp.Opd:=(q13.getD q19.toNat q9).2.1.2.2.2.1;
 let q22:Bool:=Sp.uniO x.2.1 q19 q21;
 let q23:Int:=q19-q3;
 let q24:=((True/\inK IntKind.i64 q23/\True/\True)/\True)/\∃(y:Nat),y<=q11/\q18-y<q18-x_1/\q23=q16-(↑y:Int)/\q17;
 let q25:Bool:=(Sp.atC x.1.1 q19).2.1;
 x_1<=q11->aB tI q19/\True->(q1/\True)/\(q20=true->((True/\True/\True/\True/\True/\True/\inN q19 q14/\True/\True/\True/\(((0:(AK.val tI).den)<=q19/\q19<(↑q12:Int))/\(q21.1=(2:tI.den)->(0:tI.den)<=q21.2.1))/\True)/\True)/\(q22=true->q24)/\(q22=false->((True/\True/\True/\(Sp.okA x.1.1/\Sp.okV x.1.1)/\True/\q2)/\q1)/\((True/\True)/\True)/\(q25=true->(q1/\True/\True)/\False)/\(q25=false->q24)))/\(q20=false->((True/\True)/\True/\True)/\x.1=x.1)):=by kernel_rfl
theorem vc15:(eR C15 (dL [] C15) S15 L15 Try.f15)=(
let q0:=True/\True/\True;
let q1:=True/\True/\q0;
let q2:=q1/\True;
let q3:=(True/\True)/\True;
let q4:Int:=(0:Int);
let q5:=q4=q4/\True;
let q6:Int:=(1:Int);
∀(x:Sp.Code×Sp.Code×(List Int×Unit)×Unit),
 let q7:=x.2.2.1.1.length;
 let q8:=x.2.1=x.2.1/\x.2.2.1=x.2.2.1/\q5;
 let q9:Int:=Sp.fK x.1 x.2.1 x.2.2.1.1;
 let q10:=q3/\(100:Int)=q9;
 Sp.okA x.1/\Sp.okV x.1/\Sp.okQ x.1->
 aB bF x.1/\aB bF x.2.1/\aB jB x.2.2.1/\True->
 q2/\
 (q0/\True/\True)/\
 q3/\
 (∃(x_1:Nat×Sp.Code),(x_1.1<=q7/\Sp.kR x.1 (List.take x_1.1 x.2.2.1.1)=Option.some x_1.2/\Sp.okA x_1.2/\Sp.okV x_1.2/\Sp.okQ x_1.2)/\x.1=x_1.2/\q4=(↑x_1.1:Int)/\q8)/\
 ∀(x_1:Nat×Sp.Code),
 let q11:Int:=(↑x_1.1:Int);
 let q12:Bool:=decide (q11<(↑q7:Int));
 let q13:Sp.Code×Bool×Unit:=Sp.atC x_1.2 (x.2.2.1.1.getD q11.toNat q4);
 let q14:Bool:= !q13.2.1;
 let q15:Int:=q11+q6;
 let q16:Bool:= !Sp.eF x_1.2 x.2.1;
 x_1.1<=q7/\Sp.kR x.1 (List.take x_1.1 x.2.2.1.1)=Option.some x_1.2/\Sp.okA x_1.2/\Sp.okV x_1.2/\Sp.okQ x_1.2->aB bF x_1.2/\aB tI q11/\True->((True/\q1)/\True)/\(q12=true->((True/\True/\True/\True/\inN q11 q7/\True/\(Sp.okA x_1.2/\Sp.okV x_1.2)/\q1)/\q0)/\(q0/\True)/\(q14=true->q10)/\(q14=false->((True/\True)/\True/\True)/\((True/\inK IntKind.i64 q15/\True/\True)/\True)/\∃(y:Nat×Sp.Code),(y.1<=q7/\Sp.kR x.1 (List.take y.1 x.2.2.1.1)=Option.some y.2/\Sp.okA y.2/\Sp.okV y.2/\Sp.okQ y.2)/\q7-y.1<q7-x_1.1/\q13.1=y.2/\q15=(↑y.1:Int)/\q8))/\(q12=false->q2/\(q16=true->q10)/\(q16=false->q3/\q4=q9))):=by kernel_rfl
end Go.User
namespace Go.User
open Go.Lf Go.Proofs
theorem ok49:FOk Try.prog 49 S49:=by
 have hC:aG Try.prog C49:=okA aS
 refine FOk.intro hC (dG hC) Try.call49 Try.func49 (by kernel_rfl) (by kernel_rfl) L49 ?_
 rw[vc49]
 simp only[zz,zy]
 rintro⟨U,b,o,u⟩ ⟨h1,h2⟩ _
 dsimp only at *
 refine⟨⟨h1,fun g=>⟨h2 g.1.2,g.2⟩⟩,?_⟩
 unfold Sp.uniO
 congr 2
 rw[Bool.eq_iff_iff]
 simp
theorem mok26:MOk Try.prog 26 S26m:=by
 have hC:aG Try.prog C26m:=okC (aE ok49 (aE ok31 aS)) rfl rfl rfl rfl rfl rfl rfl
 refine MOk.intro hC (dG hC) Try.call26 Try.func26 (by kernel_rfl) (by kernel_rfl) T26m ?_
 rw[vc26m]
 simp only[zz,zy]
 rintro⟨c,⟨xs,ux⟩,uc⟩ ⟨u,uu⟩ ⟨h1,h2,h3,h4,h5⟩ _ _
 have hb0:(([],(0,0,(0,0,0,()),(0,0,0,()),(0,0,0,()),List.replicate 2 0,()),()):Sp.Block)=Sp.bE:=rfl
 have hcB:∀c:Sp.Code,c.2.2.2.2.2.2.2.1=Sp.cB c:=fun _=>rfl
 have htr:∀(c:Sp.Code) (b:Nat),((Sp.cB c).getD b Sp.bE).2.1=Sp.trm c b:=fun _ _=>rfl
 dsimp only at *
 simp only[hb0,hcB,htr]
 have h1:Sp.okA c:=h1
 have h2:Sp.okV c:=h2
 have h3:Sp.okQ c:=h3
 have h4:(Sp.cB c).length<=u.1.length:=h4
 have h5:xs.length<=100000:=h5
 have hbd:=h1.t.bd
 have hV:=Sp.passV (s:=(c,xs)) ⟨h1,h2,h3⟩ u
 have hL:∀i,(Sp.cB (Sp.cP u c xs i)).length=(Sp.cB c).length:=fun i=>Sp.passI_cB u (c,xs) i
 have hg:∀i,(Sp.xP u c xs i).length<=xs.length+i:=fun i=>Sp.uH u (c,xs) i
 have hnext:∀i s',Sp.dU u (Sp.bW u (c,xs) i) (((Sp.cB c).length:Int)-1-(i:Int))=s'->s'.1=Sp.cP u c xs (i+1)/\s'.2=Sp.xP u c xs (i+1):=by
  rintro i s' rfl
  exact⟨rfl,rfl⟩
 refine⟨aQ (by omega) (by omega),⟨0,by omega,rfl,by omega⟩,fun i hi _=>⟨fun hb=> ?_,fun hb=>by rw[show i=(Sp.cB c).length by omega]⟩⟩
 have hk:inK .i64 (((Sp.cB c).length:Int)-1-(i:Int)-1):=aQ (by omega) (by omega)
 refine⟨⟨⟨hb,by rw[hL];omega⟩,⟨hb,by omega⟩,fun g=>((hV i).q _ (by have:=hL i;show _<(Sp.cB (Sp.cP u c xs i)).length;omega) g).1⟩,fun hu=> ?_,fun hu=>⟨⟨(hV i).a,(hV i).v⟩,fun ht=> ?_,fun ht=> ?_⟩⟩
 ·have h:=hnext i (Sp.bW u (c,xs) i) (by unfold Sp.dU;exact if_pos hu)
  exact⟨hk,i+1,by omega,by omega,by rw[<-h.1,<-h.2];rfl,by omega⟩
 ·have h:=hnext i ((Sp.atC (Sp.cP u c xs i) (((Sp.cB c).length:Int)-1-(i:Int))).1,Sp.xP u c xs i++[((Sp.cB c).length:Int)-1-(i:Int)]) (by
   unfold Sp.dU;rw[if_neg (by rw[show Sp.oR u (Sp.bW u (c,xs) i).1 (((Sp.cB c).length:Int)-1-(i:Int))=false from hu];simp)];exact if_pos ht)
  exact⟨gW (by have:=hg i;omega),hk,i+1,by omega,by omega,by rw[<-h.1,<-h.2],by omega⟩
 ·have h:=hnext i (Sp.bW u (c,xs) i) (by
   unfold Sp.dU;rw[if_neg (by rw[show Sp.oR u (Sp.bW u (c,xs) i).1 (((Sp.cB c).length:Int)-1-(i:Int))=false from hu];simp)];exact if_neg (by rw[show (Sp.atC (Sp.bW u (c,xs) i).1 (((Sp.cB c).length:Int)-1-(i:Int))).2.1=false from ht];simp))
  exact⟨hk,i+1,by omega,by omega,by rw[<-h.1,<-h.2];rfl,by omega⟩
theorem ok26b:FOk Try.prog 26 S26b:=by
 have hC:aG Try.prog C26b:=okC (aE ok49 (aE ok31 aS)) rfl rfl rfl rfl rfl rfl rfl
 refine FOk.intro hC (dG hC) Try.call26 Try.func26 (by kernel_rfl) (by kernel_rfl) L26b ?_
 rw[vc26b]
 simp only[zz,zy]
 rintro⟨⟨c,⟨xs,ux⟩,uc⟩,u,uu⟩ ⟨h1,h2,h3,h4,h5⟩ _
 have hb0:(([],(0,0,(0,0,0,()),(0,0,0,()),(0,0,0,()),List.replicate 2 0,()),()):Sp.Block)=Sp.bE:=rfl
 have hcB:∀c:Sp.Code,c.2.2.2.2.2.2.2.1=Sp.cB c:=fun _=>rfl
 have htr:∀(c:Sp.Code) (b:Nat),((Sp.cB c).getD b Sp.bE).2.1=Sp.trm c b:=fun _ _=>rfl
 dsimp only at *
 simp only[hb0,hcB,htr]
 have h1:Sp.okA c:=h1
 have h2:Sp.okV c:=h2
 have h3:Sp.okQ c:=h3
 have h4:(Sp.cB c).length<=u.1.length:=h4
 have hbd:=h1.t.bd
 refine⟨aQ (by omega) (by omega),⟨0,by omega,by omega⟩,fun i hi _ hb=> ?_⟩
 have hk:inK .i64 (((Sp.cB c).length:Int)-1-(i:Int)-1):=aQ (by omega) (by omega)
 refine⟨⟨⟨hb,by omega⟩,⟨hb,by omega⟩,fun g=>(h3 _ (by omega) g).1⟩,fun hu=>⟨hk,i+1,by omega,by omega,by omega⟩,fun hu=>⟨⟨h1,h2⟩,fun ht=> ?_,fun ht=>⟨hk,i+1,by omega,by omega,by omega⟩⟩⟩
 have e:=h5 (i+1)
 have e:Sp.dU u (Sp.bW u (c,xs) i) (((Sp.cB c).length:Int)-1-(i:Int))=(c,xs):=e
 rw[h5 i]at e
 unfold Sp.dU at e
 rw[if_neg (by rw[show Sp.oR u c (((Sp.cB c).length:Int)-1-(i:Int))=false from hu];simp),if_pos ht]at e
 have:=congrArg (fun s=>s.2.length) e
 simp at this
theorem ok15:FOk Try.prog 15 S15:=by
 have hC:aG Try.prog C15:=okC (aE ok31 (aE ok11 aS)) rfl rfl rfl rfl rfl rfl rfl
 refine FOk.intro hC (dG hC) Try.call15 Try.func15 (by kernel_rfl) (by kernel_rfl) L15 ?_
 rw[vc15]
 simp only[zz,zy]
 rintro⟨c,d,⟨l,ul⟩,u⟩ ⟨h,hv,hq⟩ hx
 dsimp only at *
 refine⟨⟨(0,c),⟨by dsimp only;omega,rfl,h,hv,hq⟩,rfl,rfl⟩,?_⟩
 rintro⟨k,e⟩ ⟨hk,hr,he,hve,hqe⟩ _
 dsimp only at *
 refine⟨fun hlt=> ?_,fun hge=> ?_⟩
 ·have hkl:k<l.length:=by omega
  have hsn:=Sp.oI (l.take k) c e (l.getD k 0) hr
  rw[<-Sp.itake hkl]at hsn;refine⟨⟨⟨by omega,by omega⟩,he,hve⟩,fun hf=> ?_,fun ht=>⟨d9 hlt hx.2.2.1.1,(k+1,_),⟨by dsimp only;omega,?_,Sp.yD he _,(Sp.yC he hve hqe _).1,(Sp.yC he hve hqe _).2⟩,by dsimp only;omega,rfl,by simp⟩⟩
  ·rw[if_neg (by rw[hf];simp)]at hsn
   have:=Sp.rB _ (List.drop (k+1) l) c hsn
   rw[List.take_append_drop]at this;unfold Sp.fK;rw[this]
  ·dsimp only
   rw[hsn,if_pos ht]
 ·rw[List.take_of_length_le (by omega)]at hr
  unfold Sp.fK;rw[hr]
  dsimp only
  exact⟨fun h=>by rw[if_neg (by rw[h];simp)],fun h=>by rw[if_pos h]⟩
end Go.User
namespace Go.Proofs
open Go.Shelf
def Try.cloneM_ren:Go.Shelf.Ren:=⟨fun|5=>55|7=>89|n=>n,fun|23=>104|25=>3|3=>3|4=>4|20=>20|n=>n,fun|n=>n⟩
theorem Try.cloneM:Go.Proofs.SlLaysW.n5 Try.prog Try.cloneM_ren:={
 mixed:=by kernel_rfl
 f5:=⟨Try.f55.name,by decide,Try.func55.trans (congrArg some (by kernel_rfl))⟩
 f7:=Try.func89.trans (congrArg some (by kernel_rfl))
 t4:=Try.underlying4
 a4:=Try.isAgg4
 z4:=Try.sizeOf4
 v4:=Try.zeroValue4
 t20:=Try.underlying20
 a20:=Try.isAgg20
 z20:=Try.sizeOf20
 v20:=Try.zeroValue20
 t23:=Try.underlying104
 a23:=Try.isAgg104
 z23:=Try.sizeOf104
 v23:=Try.zeroValue104}
def Try.copyM_ren:Go.Shelf.Ren:=⟨fun|5=>56|n=>n,fun|23=>104|24=>104|26=>3|27=>3|0=>0|4=>4|n=>n,fun|n=>n⟩
theorem Try.copyM:Go.Proofs.SlLaysX.n5 Try.prog Try.copyM_ren:={
 mixed:=by kernel_rfl
 f5:=⟨Try.f56.name,by decide,Try.func56.trans (congrArg some (by kernel_rfl))⟩
 t0:=Try.underlying0
 a0:=Try.isAgg0
 z0:=Try.sizeOf0
 v0:=Try.zeroValue0
 t4:=Try.underlying4
 a4:=Try.isAgg4
 z4:=Try.sizeOf4
 v4:=Try.zeroValue4
 t23:=Try.underlying104
 a23:=Try.isAgg104
 z23:=Try.sizeOf104
 v23:=Try.zeroValue104
 t24:=Try.underlying104
 a24:=Try.isAgg104
 z24:=Try.sizeOf104
 v24:=Try.zeroValue104
 a26:=Try.isAgg3
 z26:=Try.sizeOf3
 a27:=Try.isAgg3
 z27:=Try.sizeOf3}
def Try.sortI_ren:Go.Shelf.Ren:=⟨fun|6=>58|15=>91|14=>90|28=>108|29=>109|20=>100|21=>101|22=>102|23=>103|24=>104|25=>105|26=>106|27=>107|46=>114|47=>115|48=>116|49=>117|50=>118|57=>120|n=>n,fun|22=>51|24=>61|25=>112|3=>3|39=>94|0=>0|53=>165|55=>167|4=>4|46=>159|45=>158|50=>148|5=>5|9=>9|66=>171|70=>175|76=>177|77=>178|n=>n,fun|n=>n⟩
theorem Try.sortI:Go.Proofs.SlLaysF0.n6 Try.prog Try.sortI_ren:={
 mixed:=by kernel_rfl
 f6:=⟨Try.f58.name,by decide,Try.func58.trans (congrArg some (by kernel_rfl))⟩
 f14:=⟨Try.f90.name,by decide,Try.func90.trans (congrArg some (by kernel_rfl))⟩
 f15:=Try.func91.trans (congrArg some (by kernel_rfl))
 f20:=⟨Try.f100.name,by decide,Try.func100.trans (congrArg some (by kernel_rfl))⟩
 f21:=⟨Try.f101.name,by decide,Try.func101.trans (congrArg some (by kernel_rfl))⟩
 f22:=⟨Try.f102.name,by decide,Try.func102.trans (congrArg some (by kernel_rfl))⟩
 f23:=⟨Try.f103.name,by decide,Try.func103.trans (congrArg some (by kernel_rfl))⟩
 f24:=⟨Try.f104.name,by decide,Try.func104.trans (congrArg some (by kernel_rfl))⟩
 f25:=⟨Try.f105.name,by decide,Try.func105.trans (congrArg some (by kernel_rfl))⟩
 f26:=⟨Try.f106.name,by decide,Try.func106.trans (congrArg some (by kernel_rfl))⟩
 f27:=⟨Try.f107.name,by decide,Try.func107.trans (congrArg some (by kernel_rfl))⟩
 f28:=Try.func108.trans (congrArg some (by kernel_rfl))
 f29:=Try.func109.trans (congrArg some (by kernel_rfl))
 f46:=⟨Try.f114.name,by decide,Try.func114.trans (congrArg some (by kernel_rfl))⟩
 f47:=Try.func115.trans (congrArg some (by kernel_rfl))
 f48:=Try.func116.trans (congrArg some (by kernel_rfl))
 f49:=⟨Try.f117.name,by decide,Try.func117.trans (congrArg some (by kernel_rfl))⟩
 f50:=⟨Try.f118.name,by decide,Try.func118.trans (congrArg some (by kernel_rfl))⟩
 f57:=⟨Try.f120.name,by decide,Try.func120.trans (congrArg some (by kernel_rfl))⟩
 t0:=Try.underlying0
 a0:=Try.isAgg0
 z0:=Try.sizeOf0
 v0:=Try.zeroValue0
 t3:=Try.underlying3
 a3:=Try.isAgg3
 z3:=Try.sizeOf3
 v3:=Try.zeroValue3
 t4:=Try.underlying4
 a4:=Try.isAgg4
 z4:=Try.sizeOf4
 v4:=Try.zeroValue4
 t5:=Try.underlying5
 a5:=Try.isAgg5
 z5:=Try.sizeOf5
 v5:=Try.zeroValue5
 t9:=Try.underlying9
 a9:=Try.isAgg9
 z9:=Try.sizeOf9
 v9:=Try.zeroValue9
 t22:=Try.underlying51
 a22:=Try.isAgg51
 z22:=Try.sizeOf51
 v22:=Try.zeroValue51
 t25:=Try.underlying112
 a25:=Try.isAgg112
 z25:=Try.sizeOf112
 v25:=Try.zeroValue112
 t39:=Try.underlying94
 a39:=Try.isAgg94
 z39:=Try.sizeOf94
 v39:=Try.zeroValue94
 t45:=Try.underlying158
 a45:=Try.isAgg158
 z45:=Try.sizeOf158
 v45:=Try.zeroValue158
 t46:=Try.underlying159
 a46:=Try.isAgg159
 z46:=Try.sizeOf159
 v46:=Try.zeroValue159
 t50:=Try.underlying148
 a50:=Try.isAgg148
 z50:=Try.sizeOf148
 v50:=Try.zeroValue148
 t53:=Try.underlying165
 a53:=Try.isAgg165
 z53:=Try.sizeOf165
 v53:=Try.zeroValue165
 t55:=Try.underlying167
 a55:=Try.isAgg167
 z55:=Try.sizeOf167
 v55:=Try.zeroValue167
 t66:=Try.underlying171
 a66:=Try.isAgg171
 z66:=Try.sizeOf171
 v66:=Try.zeroValue171
 t70:=Try.underlying175
 a70:=Try.isAgg175
 z70:=Try.sizeOf175
 v70:=Try.zeroValue175
 t76:=Try.underlying177
 a76:=Try.isAgg177
 z76:=Try.sizeOf177
 v76:=Try.zeroValue177
 t77:=Try.underlying178
 a77:=Try.isAgg178
 z77:=Try.sizeOf178
 v77:=Try.zeroValue178}
end Go.Proofs
namespace Go.User
open Go Go.Proofs Go.RowKit Go.Lib Go.Lf Go.Maps Go.WideElems
noncomputable abbrev R3:Value->Option (DataW Unit×List MemPlace):=plainElem Try.prog 3
noncomputable def dOf(es:Array MapEntry):DataW Unit:= .map ((es.toList.map (rg Try.prog 3 R3)).foldr DataW.insert [])
abbrev K3:Keyed Try.prog 3:=int_keyed Try.underlying3
theorem wO{es:Array MapEntry}{ck:Nat}{x:Int->Option Int}(h:j8 es ck x){W:World}{b:Nat}(hb:W.heap[b]? =some (.map es ck)):
  W.ownsMap Try.prog 3 R3 b es.size (dOf es):=⟨es,ck,hb,rO h,Nat.le_refl _,rfl⟩
theorem has_dOf{es:Array MapEntry}{ck:Nat}{x:Int->Option Int}(h:j8 es ck x)(n:Int):Maps.has (dOf es) (.int .i64 n)=(x n).isSome:=by
 unfold dOf Maps.has
 rw[Bool.eq_iff_iff,List.any_eq_true,Option.isSome_iff_exists]
 constructor
 ·rintro⟨p,hp,hk⟩
  rw[qC,List.mem_map]at hp;obtain⟨e,he,rfl⟩:=hp;obtain⟨k,v,g1,g2,g3,g4⟩:=h.ints e he;rw[xV g1 g2 g3 g4]at hk;have hk:k=n:=by simpa[Lit.sameKey]using hk
  subst hk;exact⟨v,(h.iff k v).2 ⟨e,he,g1,g2⟩⟩
 ·rintro⟨v,hv⟩
  obtain⟨e,he,g1,g2⟩:=(h.iff n v).1 hv;obtain⟨k',v',q1,q2,q3,q4⟩:=h.ints e he;have e1:k'=n:=by rw[q1]at g1;injection g1
  subst e1;exact⟨_,qC.2 (List.mem_map.2 ⟨e,he,rfl⟩),by rw[xV q1 q2 q3 q4];simp[Lit.sameKey]⟩
theorem size_dOf(es:Array MapEntry):Maps.size (dOf es)=es.size:=by
 unfold dOf Maps.size
 simp[length_sorted]
theorem has_merge{W:World}{b n:Nat}{Dd:DataW Unit}(h:W.ownsMap Try.prog 3 R3 b n Dd){p1:Option Nat}{W1:World}{Ds:DataW Unit}(hs:SrcOf Try.prog 3 R3 W1 p1 Ds)(k:Lit):
  Maps.has (Lib.mergeD Dd Ds) k=(Maps.has Dd k||Maps.has Ds k):=by
 rcases hs with⟨_,rfl⟩|⟨b',n',_,h2⟩
 ·simp[Lib.mergeD,Maps.has]
 ·obtain⟨es,rfl,g1,g2⟩:=h2.entries K3
  unfold Lib.mergeD;rw[has_foldPut k es Dd h.isMap g2]
  rfl
def MapV(w:World)(F:aA)(p:Option Nat)(x:Int->Option Int):Prop:=(p=none/\∀n,x n=none)∨∃b es ck,p=some b/\F b/\w.heap[b]? =some (.map es ck)/\j8 es ck x
theorem MapV.src{w W:World}{F:aA}{p:Option Nat}{x:Int->Option Int}(h:MapV w F p x)(hW:∀b,F b->W.heap[b]? =w.heap[b]?){m:Nat}(hm:∀es ck,j8 es ck x->es.size<=m):
  ∃D,SrcOf Try.prog 3 R3 W p D/\(∀n,Maps.has D (.int .i64 n)=(x n).isSome)/\Maps.size D<=m:=by
 rcases h with⟨rfl,h⟩|⟨b,es,ck,rfl,hF,hb,hx⟩
 ·refine⟨.nil,.inl ⟨rfl,rfl⟩,fun n=>by rw[h n];rfl,Nat.zero_le _⟩
 ·exact⟨dOf es,.inr ⟨b,es.size,rfl,wO hx ((hW b hF).trans hb)⟩,has_dOf hx,by rw[size_dOf];exact hm _ _ hx⟩
end Go.User
namespace Go.Lf
def tab(f:Nat->Value)(n:Nat):Array Value:=((List.range n).map f).toArray
theorem tR(f:Nat->Value)(n:Nat):(tab f n).size=n:=by simp[tab]
theorem pR{f:Nat->Value}{n t:Nat}(h:t<n):(tab f n).getD t undef=f t:=by
 simp[tab,Array.getD_eq_getD_getElem?,h]
theorem tab_out{f:Nat->Value}{n t:Nat}(h:¬t<n):(tab f n).getD t undef=undef:=by
 simp[tab,Array.getD_eq_getD_getElem?,h]
theorem arr_tab(s:Array Value){n:Nat}(h:s.size=n):s=tab (fun t=>s.getD t undef) n:=by
 apply Array.ext
 ·rw[tR,h]
 ·intro i h1 h2
  simp[tab,Array.getD_eq_getD_getElem?,Array.getElem?_eq_getElem h1]
structure WpT(C:Ctx)(stp:St->Oper->Option (Prop×St))(T:KT)(c:Code)(st:St)(Qn:St->Prop)(Qx:Nat->St->Prop)(Qr:St->Prop):Prop where
 h:wpT C stp T c st Qn Qx Qr
theorem WpT.of3{α β:Type}{p:α->β->Prop}{C:Ctx}{stp:St->Oper->Option (Prop×St)}{T:α->β->KT}{c:Code}{st:α->β->St}{Qn:α->β->St->Prop}{Qx:α->β->Nat->St->Prop}{Qr:α->β->St->Prop}{G:Prop}(hG:G)
  (e:G=∀x y,p x y->wpT C stp (T x y) c (st x y) (Qn x y) (Qx x y) (Qr x y)) (x:α) (y:β) (hp:p x y):WpT C stp (T x y) c (st x y) (Qn x y) (Qx x y) (Qr x y):=by
 subst e
 exact⟨hG x y hp⟩
theorem WpT.ok{P:Program}{C:Ctx}{w0:World}{F0 H:aA}(hC:aG P C){stp:St->Oper->Option (Prop×St)}(hstp:dM P C stp){c:Code}{T:KT}{st:St}{Qn:St->Prop}{Qx:Nat->St->Prop}{Qr:St->Prop}{Q:Exit->Act->World->Prop}{a:Act}{w:World}
  (h:WpT C stp T c st Qn Qx Qr) (hi:Inv P C.np w0 F0 H st a w) (hn:∀st a w,Qn st->Inv P C.np w0 F0 H st a w->Q .normal a w) (hx:∀i st a w,Qx i st->Inv P C.np w0 F0 H st a w->Q (.exit i) a w) (hr:∀st a w,Qr st->Inv P C.np w0 F0 H st a w->Q .ret a w):c.wp P Q a w:=
 qR hC hstp c h.h hi hn hx hr
def l9:List Bool->Code->Code
 | [],c=>c
 |b::l,.seq x y=>l9 l (bif b then y else x)
 |b::l,.cond _ x y=>l9 l (bif b then y else x)
 |_::l,.block _ c=>l9 l c
 |_::l,.loop c=>l9 l c
 |_,c=>c
section
variable {P:Program} {N:NP} {w0:World} {F0 H:aA} {env:St} {a:Act} {w:World} {F:aA} {S:Nat->aA}
structure Un(B:Nat)(F:aA)(S:Nat->aA)(b:Nat):Prop where
 lo:B<=b
 f:¬F b
 s:∀t,¬S t b
theorem aJ.hand(hi:aJ P N w0 F0 H env a w F S){a':Act}(hd:a'.defers=[])(hs:a'.tmps.size=a.tmps.size)(D:List Nat)(hD:∀t,t∉D->a'.tmps.getD t undef=a.tmps.getD t undef)
  (hp:∀s,N.p=some s->s∉D) (hps:∀z∈N.ps,z.1∉D) {env':St} (he:∀t,env' t= .dead∨(t∉D/\env' t=env t/\∀r,(env t).root=some r->r∉D/\env' r=env r)):aJ P N w0 F0 H env' a' w F S:=by
 refine⟨hi.os,hi.tape,hi.output,hi.size,hi.block,hi.fb,hi.f0,hi.fn,hi.sb,hi.sd,?_,hd,⟨hs.trans hi.slots.size,fun s h=>(hD s (hp s h)).trans (hi.slots.pin s h),hi.slots.gl,fun z hz=>(hD z.1 (hps z hz)).trans (hi.slots.pins z hz)⟩⟩
 intro t
 rcases he t with h|⟨h1,h2,h3⟩
 ·rw[h];trivial
 ·rw[h2]
  refine aF.keep (t:=t) (fun _ h=>h) (fun _ _=>rfl) (hD t h1) ?_ (fun _=>⟨rfl,fun _ _=>rfl,fun b h1 h2=>absurd h1 h2⟩) (hi.ent t)
  intro r hr;obtain⟨g1,g2⟩:=h3 r hr;exact⟨fun _=>g2,fun _=>hD r g1,rfl,fun _ _=>rfl,fun b h1 h2=>absurd h1 h2,fun b hb=>(hi.sb r b hb).2.2⟩
theorem aJ.setShr(hi:aJ P N w0 F0 H env a w F S){t:Nat}{τ:Ty}{x:τ.den}(hr:∀u,(env u).root≠some t)(hv:aT F w τ .shr none' (a.tmps.getD t undef) x):
  aJ P N w0 F0 H (upd env t (.shr τ x)) a w F S:=by
 refine⟨hi.os,hi.tape,hi.output,hi.size,hi.block,hi.fb,hi.f0,hi.fn,hi.sb,hi.sd,?_,hi.defers,hi.slots⟩
 intro u
 by_cases hu:u=t
 ·subst hu
  rw[bU];exact hv
 ·rw[bG _ _ hu]
  refine aF.keep (fun _ h=>h) (fun _ _=>rfl) rfl ?_ (fun _=>⟨rfl,fun _ _=>rfl,fun b h1 h2=>absurd h1 h2⟩) (hi.ent u)
  intro r hr';have hrt:r≠t:=fun e=>hr u (e▸hr')
  exact⟨fun _=>bG _ _ hrt,fun _=>rfl,rfl,fun _ _=>rfl,fun b h1 h2=>absurd h1 h2,fun b hb=>(hi.sb r b hb).2.2⟩
theorem aJ.here(hi:aJ P N w0 F0 H env a w F S):aJ P N w F (fun b=>∃t,S t b) env a w F S:=by
 refine⟨rfl,rfl,rfl,Nat.le_refl _,fun _ _ _=>rfl,hi.fb,fun _ h=>h,fun b h hn=>absurd h hn,fun t b hb=>⟨.inr ⟨t,hb⟩,(hi.sb t b hb).2⟩,hi.sd,hi.ent,hi.defers,⟨hi.slots.size,hi.slots.pin,?_,hi.slots.pins⟩⟩
 intro b o h
 obtain⟨h1,h2⟩:=hi.glb b o h
 exact⟨h1,fun⟨t,ht⟩=>(hi.sb t b ht).2.2 h1,hi.fb b h1,h2⟩
theorem aJ.back(hi:aJ P N w0 F0 H env a w F S){env':St}{a':Act}{w':World}{F':aA}{S':Nat->aA}(h:aJ P N w F (fun b=>∃t,S t b) env' a' w' F' S'):aJ P N w0 F0 H env' a' w' F' S':=by
 refine⟨h.os.trans hi.os,h.tape.trans hi.tape,h.output.trans hi.output,Nat.le_trans hi.size h.size,?_,h.fb,fun b hb=>h.f0 b (hi.f0 b hb),?_,?_,h.sd,h.ent,h.defers,⟨h.slots.size,h.slots.pin,hi.slots.gl,h.slots.pins⟩⟩
 ·intro k hk hH
  rw[h.block k (Nat.lt_of_lt_of_le hk hi.size) ?_,hi.block k hk hH];rintro⟨t,ht⟩;rcases (hi.sb t k ht).1 with g|g
  ·omega
  ·exact hH g
 ·intro b hb hn
  by_cases hFb:F b
  ·exact hi.fn b hFb hn
  ·rcases h.fn b hb hFb with g|⟨t,g⟩
   ·exact .inl (Nat.le_trans hi.size g)
   ·exact(hi.sb t b g).1
 ·intro t b hb
  obtain⟨g1,g2,g3⟩:=h.sb t b hb;refine⟨?_,g2,g3⟩;rcases g1 with g|⟨u,g⟩
  ·exact .inl (Nat.le_trans hi.size g)
  ·exact(hi.sb u b g).1
theorem Un.back{B:Nat}{b:Nat}(hu:Un B F S b)(hb:b<w.heap.size){env':St}{a':Act}{w':World}{F':aA}{S':Nat->aA}(h:aJ P N w F (fun b=>∃t,S t b) env' a' w' F' S'):
  Un B F' S' b/\w'.heap[b]? =w.heap[b]? :=by
 refine⟨⟨hu.lo,fun hf=> ?_,fun t ht=> ?_⟩,h.block b hb fun⟨t,ht⟩=>hu.s t ht⟩
 ·rcases h.fn b hf hu.f with g|⟨t,g⟩
  ·omega
  ·exact hu.s t g
 ·rcases (h.sb t b ht).1 with g|⟨u,g⟩
  ·omega
  ·exact hu.s u g
end
end Go.Lf
namespace Sp
noncomputable section
def zD(ks:List Nat)(k:Nat):List Nat:=ks++[k]
def o9(c:Code)(b:Int)(ks:List Nat):List Inst:=ks.map (selI c.2.2.1 (nA c b 0) (nA c b 1))
end
end Sp
namespace Go.User
open Go.Lf
noncomputable section
def gN:Code:=fE.getD 4 .skip
def R29:Code:=l9 [true,true,true,true,true,true,true] gN
def base29(x:aH S29.args):List (Nat×Ent):=[(1,.shr tI x.2.1),(2,.box bF .shr x.1),(4,.box bF .shr bF.dflt),(5,.shr .bool false),(6,.addr 30 []),(8,.shr tI (Sp.cY x.1 x.2.1).2.1),(10,.box aM .shr (Sp.bK x.1.2.2.1)),(11,.own (.slice aC) (.own .shr) (Sp.lA x.1 x.2.1 2)),(12,.box (.arr 2 qT) .shr (Sp.jZ x.1 x.2.1 2)),(30,.box tWk mWk (Sp.wA x.1 x.2.1 2))]
def nR(x:aH S29.args):aW:={ι:=List Nat×Nat,inv:=fun _=>True,dec:=fun _=>0,keep:=[],ovr:=fun j=>(17,.own (.slice aC) (.own .shr) (Sp.o9 x.1 x.2.1 j.1))::(133,.shr (.abs .ptr) (some j.2))::base29 x}
def l29s(x:aH S29.args):aW:={ι:=List Nat×Nat×Nat,inv:=fun _=>True,dec:=fun _=>0,keep:=[],ovr:=fun j=>(17,.own (.slice aC) (.own .shr) (Sp.o9 x.1 x.2.1 j.1))::(18,.shr tI (j.2.2:Int))::(133,.shr (.abs .ptr) (some j.2.1))::base29 x}
def zG:Ctx:=mkC 190 [(52,S52),(57,S57)]
def G291:Prop:=∀(x:aH S29.args) (j:List Nat×Nat×Nat),List.length j.1<=3000->wpT zG (dL bsA zG) (.i []) R29 (stx (l29s x) cF j) (fun st'=>atX (nR x) cF (Sp.zD j.1 j.2.2,j.2.1) st') (fun _ _=>False) (fun _=>False)
end
end Go.User
namespace Go.User
open Go Go.Proofs Go.RowKit Go.Lib Go.Lf Go.Maps Go.WideElems
def dQ(f:Nat->Value):List (Nat×Value)->Nat->Value
 | [],t=>f t
 |p::l,t=>if t=p.1 then p.2 else dQ f l t
theorem pV{f:Nat->Value}:∀ {l:List (Nat×Value)} {t:Nat},t∉l.map (·.1)->dQ f l t=f t
 | [],t,h=>rfl
 |p::l,t,h=>by
  have h1:t≠p.1:=fun e=>h (by simp[e])
  unfold dQ;rw[if_neg h1];exact pV fun hm=>h (List.mem_cons_of_mem _ hm)
set_option maxRecDepth 100000 in
theorem tab0(f:Nat->Value):tab (dQ f []) 190= #[f 0,f 1,f 2,f 3,f 4,f 5,f 6,f 7,f 8,f 9,f 10,f 11,f 12,f 13,f 14,f 15,f 16,f 17,f 18,f 19,f 20,f 21,f 22,f 23,f 24,f 25,f 26,f 27,f 28,f 29,f 30,f 31,f 32,f 33,f 34,f 35,f 36,f 37,f 38,f 39,f 40,f 41,f 42,f 43,f 44,f 45,f 46,f 47,f 48,f 49,f 50,f 51,f 52,f 53,f 54,f 55,f 56,f 57,f 58,f 59,f 60,f 61,f 62,f 63,f 64,f 65,f 66,f 67,f 68,f 69,f 70,f 71,f 72,f 73,f 74,f 75,f 76,f 77,f 78,f 79,f 80,f 81,f 82,f 83,f 84,f 85,f 86,f 87,f 88,f 89,f 90,f 91,f 92,f 93,f 94,f 95,f 96,f 97,f 98,f 99,f 100,f 101,f 102,f 103,f 104,f 105,f 106,f 107,f 108,f 109,f 110,f 111,f 112,f 113,f 114,f 115,f 116,f 117,f 118,f 119,f 120,f 121,f 122,f 123,f 124,f 125,f 126,f 127,f 128,f 129,f 130,f 131,f 132,f 133,f 134,f 135,f 136,f 137,f 138,f 139,f 140,f 141,f 142,f 143,f 144,f 145,f 146,f 147,f 148,f 149,f 150,f 151,f 152,f 153,f 154,f 155,f 156,f 157,f 158,f 159,f 160,f 161,f 162,f 163,f 164,f 165,f 166,f 167,f 168,f 169,f 170,f 171,f 172,f 173,f 174,f 175,f 176,f 177,f 178,f 179,f 180,f 181,f 182,f 183,f 184,f 185,f 186,f 187,f 188,f 189]:=rfl
set_option maxRecDepth 100000 in
theorem tab1(f:Nat->Value)(v16 v122 v123 v124 v125 v126 v127:Value):tab (dQ f [(16,v16),(122,v122),(123,v123),(124,v124),(125,v125),(126,v126),(127,v127)]) 190= #[f 0,f 1,f 2,f 3,f 4,f 5,f 6,f 7,f 8,f 9,f 10,f 11,f 12,f 13,f 14,f 15,v16,f 17,f 18,f 19,f 20,f 21,f 22,f 23,f 24,f 25,f 26,f 27,f 28,f 29,f 30,f 31,f 32,f 33,f 34,f 35,f 36,f 37,f 38,f 39,f 40,f 41,f 42,f 43,f 44,f 45,f 46,f 47,f 48,f 49,f 50,f 51,f 52,f 53,f 54,f 55,f 56,f 57,f 58,f 59,f 60,f 61,f 62,f 63,f 64,f 65,f 66,f 67,f 68,f 69,f 70,f 71,f 72,f 73,f 74,f 75,f 76,f 77,f 78,f 79,f 80,f 81,f 82,f 83,f 84,f 85,f 86,f 87,f 88,f 89,f 90,f 91,f 92,f 93,f 94,f 95,f 96,f 97,f 98,f 99,f 100,f 101,f 102,f 103,f 104,f 105,f 106,f 107,f 108,f 109,f 110,f 111,f 112,f 113,f 114,f 115,f 116,f 117,f 118,f 119,f 120,f 121,v122,v123,v124,v125,v126,v127,f 128,f 129,f 130,f 131,f 132,f 133,f 134,f 135,f 136,f 137,f 138,f 139,f 140,f 141,f 142,f 143,f 144,f 145,f 146,f 147,f 148,f 149,f 150,f 151,f 152,f 153,f 154,f 155,f 156,f 157,f 158,f 159,f 160,f 161,f 162,f 163,f 164,f 165,f 166,f 167,f 168,f 169,f 170,f 171,f 172,f 173,f 174,f 175,f 176,f 177,f 178,f 179,f 180,f 181,f 182,f 183,f 184,f 185,f 186,f 187,f 188,f 189]:=rfl
set_option maxRecDepth 100000 in
theorem tab1n(f:Nat->Value)(v16 v122 v123 v124 v125 v126:Value):tab (dQ f [(16,v16),(122,v122),(123,v123),(124,v124),(125,v125),(126,v126)]) 190= #[f 0,f 1,f 2,f 3,f 4,f 5,f 6,f 7,f 8,f 9,f 10,f 11,f 12,f 13,f 14,f 15,v16,f 17,f 18,f 19,f 20,f 21,f 22,f 23,f 24,f 25,f 26,f 27,f 28,f 29,f 30,f 31,f 32,f 33,f 34,f 35,f 36,f 37,f 38,f 39,f 40,f 41,f 42,f 43,f 44,f 45,f 46,f 47,f 48,f 49,f 50,f 51,f 52,f 53,f 54,f 55,f 56,f 57,f 58,f 59,f 60,f 61,f 62,f 63,f 64,f 65,f 66,f 67,f 68,f 69,f 70,f 71,f 72,f 73,f 74,f 75,f 76,f 77,f 78,f 79,f 80,f 81,f 82,f 83,f 84,f 85,f 86,f 87,f 88,f 89,f 90,f 91,f 92,f 93,f 94,f 95,f 96,f 97,f 98,f 99,f 100,f 101,f 102,f 103,f 104,f 105,f 106,f 107,f 108,f 109,f 110,f 111,f 112,f 113,f 114,f 115,f 116,f 117,f 118,f 119,f 120,f 121,v122,v123,v124,v125,v126,f 127,f 128,f 129,f 130,f 131,f 132,f 133,f 134,f 135,f 136,f 137,f 138,f 139,f 140,f 141,f 142,f 143,f 144,f 145,f 146,f 147,f 148,f 149,f 150,f 151,f 152,f 153,f 154,f 155,f 156,f 157,f 158,f 159,f 160,f 161,f 162,f 163,f 164,f 165,f 166,f 167,f 168,f 169,f 170,f 171,f 172,f 173,f 174,f 175,f 176,f 177,f 178,f 179,f 180,f 181,f 182,f 183,f 184,f 185,f 186,f 187,f 188,f 189]:=rfl
set_option maxHeartbeats 1000000 in
set_option maxRecDepth 100000 in
theorem mw1(w:World)(f:Nat->Value)(b12:Nat)(p0 p1:Option Nat)(x0:Int->Option Int)(F:aA)(hF:∀b,F b->b<w.heap.size)(h12:f 12= .pointer (some ⟨b12,0,none⟩))
  (hb:b12<w.heap.size) (c0:w.cell? ⟨b12,0,none⟩=some (.map p0)) (f0:w.frozen? ⟨b12,0,none⟩=false)
  (m0:MapV w F p0 x0) (Q:Exit->Act->World->Prop)
  (hK:∀l es ck,l.map (·.1)=[16,122,123,124,125,126,127]∨l.map (·.1)=[16,122,123,124,125,126]->dQ f l 16= .map (some w.heap.size)->j8 es ck x0->Q .normal ⟨tab (dQ f l) 190,[]⟩ (w.alloc (.map es ck))):
  j9 Try.prog (fE.take 2) Q ⟨tab (dQ f []) 190,[]⟩ w:=by
 have hK1:∀v122 v123 v124 v125 v126 v127 es ck,j8 es ck x0->Q .normal ⟨#[f 0,f 1,f 2,f 3,f 4,f 5,f 6,f 7,f 8,f 9,f 10,f 11,.pointer (some ⟨b12,0,none⟩),f 13,f 14,f 15,.map (some w.heap.size),f 17,f 18,f 19,f 20,f 21,f 22,f 23,f 24,f 25,f 26,f 27,f 28,f 29,f 30,f 31,f 32,f 33,f 34,f 35,f 36,f 37,f 38,f 39,f 40,f 41,f 42,f 43,f 44,f 45,f 46,f 47,f 48,f 49,f 50,f 51,f 52,f 53,f 54,f 55,f 56,f 57,f 58,f 59,f 60,f 61,f 62,f 63,f 64,f 65,f 66,f 67,f 68,f 69,f 70,f 71,f 72,f 73,f 74,f 75,f 76,f 77,f 78,f 79,f 80,f 81,f 82,f 83,f 84,f 85,f 86,f 87,f 88,f 89,f 90,f 91,f 92,f 93,f 94,f 95,f 96,f 97,f 98,f 99,f 100,f 101,f 102,f 103,f 104,f 105,f 106,f 107,f 108,f 109,f 110,f 111,f 112,f 113,f 114,f 115,f 116,f 117,f 118,f 119,f 120,f 121,v122,v123,v124,v125,v126,v127,f 128,f 129,f 130,f 131,f 132,f 133,f 134,f 135,f 136,f 137,f 138,f 139,f 140,f 141,f 142,f 143,f 144,f 145,f 146,f 147,f 148,f 149,f 150,f 151,f 152,f 153,f 154,f 155,f 156,f 157,f 158,f 159,f 160,f 161,f 162,f 163,f 164,f 165,f 166,f 167,f 168,f 169,f 170,f 171,f 172,f 173,f 174,f 175,f 176,f 177,f 178,f 179,f 180,f 181,f 182,f 183,f 184,f 185,f 186,f 187,f 188,f 189],[]⟩ (w.alloc (.map es ck)):=fun v122 v123 v124 v125 v126 v127 es ck h=>by
  have:=hK [(16,.map (some w.heap.size)),(122,v122),(123,v123),(124,v124),(125,v125),(126,v126),(127,v127)] es ck (.inl rfl) rfl h
  rw[tab1]at this
  rwa [<-h12]
 have hK2:∀v122 v123 v124 v125 v126 es ck,j8 es ck x0->Q .normal ⟨#[f 0,f 1,f 2,f 3,f 4,f 5,f 6,f 7,f 8,f 9,f 10,f 11,.pointer (some ⟨b12,0,none⟩),f 13,f 14,f 15,.map (some w.heap.size),f 17,f 18,f 19,f 20,f 21,f 22,f 23,f 24,f 25,f 26,f 27,f 28,f 29,f 30,f 31,f 32,f 33,f 34,f 35,f 36,f 37,f 38,f 39,f 40,f 41,f 42,f 43,f 44,f 45,f 46,f 47,f 48,f 49,f 50,f 51,f 52,f 53,f 54,f 55,f 56,f 57,f 58,f 59,f 60,f 61,f 62,f 63,f 64,f 65,f 66,f 67,f 68,f 69,f 70,f 71,f 72,f 73,f 74,f 75,f 76,f 77,f 78,f 79,f 80,f 81,f 82,f 83,f 84,f 85,f 86,f 87,f 88,f 89,f 90,f 91,f 92,f 93,f 94,f 95,f 96,f 97,f 98,f 99,f 100,f 101,f 102,f 103,f 104,f 105,f 106,f 107,f 108,f 109,f 110,f 111,f 112,f 113,f 114,f 115,f 116,f 117,f 118,f 119,f 120,f 121,v122,v123,v124,v125,v126,f 127,f 128,f 129,f 130,f 131,f 132,f 133,f 134,f 135,f 136,f 137,f 138,f 139,f 140,f 141,f 142,f 143,f 144,f 145,f 146,f 147,f 148,f 149,f 150,f 151,f 152,f 153,f 154,f 155,f 156,f 157,f 158,f 159,f 160,f 161,f 162,f 163,f 164,f 165,f 166,f 167,f 168,f 169,f 170,f 171,f 172,f 173,f 174,f 175,f 176,f 177,f 178,f 179,f 180,f 181,f 182,f 183,f 184,f 185,f 186,f 187,f 188,f 189],[]⟩ (w.alloc (.map es ck)):=fun v122 v123 v124 v125 v126 es ck h=>by
  have:=hK [(16,.map (some w.heap.size)),(122,v122),(123,v123),(124,v124),(125,v125),(126,v126)] es ck (.inr rfl) rfl h
  rw[tab1n]at this
  rwa [<-h12]
 clear hK
 unfold fE pK
 simp only[Try.f29,d6,Option.getD,List.drop,List.take,j9]
 have hmm:=@run_makeMap Try.prog
 have hq:=fun w p=>run_eql_map_nil_sl (P:=Try.prog) w 104 _ _ p Try.underlying104
 rw[tab0,h12]
 rcases m0 with⟨rfl,h⟩|⟨b,es,ck,rfl,hFb,hbb,hx⟩
 ·have hcl:=AnyW.maps_Clone_nil Try.cloneM w
  change Calls Try.prog 55 _ _ _ at hcl
  go_wp2_with (first|(go_at_call 55;refine hcl.mono ?_;rintro e W ⟨rfl,rfl⟩))
  refine hK1 _ _ _ _ _ _ _ _ ?_
  have:x0=fun _=>none:=funext h
  rw[this];exact rN
 ·have hcl:=AnyW.maps_Clone Try.cloneM b es ck w hbb
  change Calls Try.prog 55 _ _ _ at hcl
  go_wp2_with (first|(go_at_call 55;refine hcl.mono ?_;rintro e W ⟨rfl,rfl⟩))
  exact hx
end Go.User
namespace Go.User
open Go Go.Proofs Go.RowKit Go.Lib Go.Lf Go.Maps Go.WideElems
set_option maxRecDepth 100000 in
theorem tab2(f:Nat->Value)(v17 v128 v129 v130 v131 v132 v133:Value):tab (dQ f [(17,v17),(128,v128),(129,v129),(130,v130),(131,v131),(132,v132),(133,v133)]) 190= #[f 0,f 1,f 2,f 3,f 4,f 5,f 6,f 7,f 8,f 9,f 10,f 11,f 12,f 13,f 14,f 15,f 16,v17,f 18,f 19,f 20,f 21,f 22,f 23,f 24,f 25,f 26,f 27,f 28,f 29,f 30,f 31,f 32,f 33,f 34,f 35,f 36,f 37,f 38,f 39,f 40,f 41,f 42,f 43,f 44,f 45,f 46,f 47,f 48,f 49,f 50,f 51,f 52,f 53,f 54,f 55,f 56,f 57,f 58,f 59,f 60,f 61,f 62,f 63,f 64,f 65,f 66,f 67,f 68,f 69,f 70,f 71,f 72,f 73,f 74,f 75,f 76,f 77,f 78,f 79,f 80,f 81,f 82,f 83,f 84,f 85,f 86,f 87,f 88,f 89,f 90,f 91,f 92,f 93,f 94,f 95,f 96,f 97,f 98,f 99,f 100,f 101,f 102,f 103,f 104,f 105,f 106,f 107,f 108,f 109,f 110,f 111,f 112,f 113,f 114,f 115,f 116,f 117,f 118,f 119,f 120,f 121,f 122,f 123,f 124,f 125,f 126,f 127,v128,v129,v130,v131,v132,v133,f 134,f 135,f 136,f 137,f 138,f 139,f 140,f 141,f 142,f 143,f 144,f 145,f 146,f 147,f 148,f 149,f 150,f 151,f 152,f 153,f 154,f 155,f 156,f 157,f 158,f 159,f 160,f 161,f 162,f 163,f 164,f 165,f 166,f 167,f 168,f 169,f 170,f 171,f 172,f 173,f 174,f 175,f 176,f 177,f 178,f 179,f 180,f 181,f 182,f 183,f 184,f 185,f 186,f 187,f 188,f 189]:=rfl
set_option maxHeartbeats 1000000 in
set_option maxRecDepth 100000 in
theorem mw2(w:World)(f:Nat->Value)(b12 M n:Nat)(p1:Option Nat)(D0 D1:DataW Unit)(h12:f 12= .pointer (some ⟨b12,0,none⟩))(h16:f 16= .map (some M))
  (hb:b12<w.heap.size) (c1:w.cell? ⟨b12,1,none⟩=some (.map p1)) (f1:w.frozen? ⟨b12,1,none⟩=false)
  (hd:w.ownsMap Try.prog 3 R3 M n D0) (hs:SrcOf Try.prog 3 R3 w p1 D1) (hne:p1≠some M) (hroom:n+Maps.size D1<=maxLen) (Q:Exit->Act->World->Prop)
  (hK:∀l W r n,l.map (·.1)=[17,128,129,130,131,132,133]->dQ f l 17= .slice none 0 0->dQ f l 133= .pointer (some ⟨r,0,none⟩)->w.heap.size<=r->
   W.ranges Try.prog 3 R3 M r n (Lib.mergeD D0 D1) (Maps.has (Lib.mergeD D0 D1)) (Maps.size (Lib.mergeD D0 D1))->w.grownBy W (some M)->Q .normal ⟨tab (dQ f l) 190,[]⟩ W):
  j9 Try.prog [fE.getD 2 .skip,fE.getD 3 .skip,l9 [false] gN] Q ⟨tab (dQ f []) 190,[]⟩ w:=by
 have hK1:∀v128 v129 v130 v131 v132 r W n,w.heap.size<=r->W.ranges Try.prog 3 R3 M r n (Lib.mergeD D0 D1) (Maps.has (Lib.mergeD D0 D1)) (Maps.size (Lib.mergeD D0 D1))->w.grownBy W (some M)->Q .normal ⟨#[f 0,f 1,f 2,f 3,f 4,f 5,f 6,f 7,f 8,f 9,f 10,f 11,.pointer (some ⟨b12,0,none⟩),f 13,f 14,f 15,.map (some M),.slice none 0 0,f 18,f 19,f 20,f 21,f 22,f 23,f 24,f 25,f 26,f 27,f 28,f 29,f 30,f 31,f 32,f 33,f 34,f 35,f 36,f 37,f 38,f 39,f 40,f 41,f 42,f 43,f 44,f 45,f 46,f 47,f 48,f 49,f 50,f 51,f 52,f 53,f 54,f 55,f 56,f 57,f 58,f 59,f 60,f 61,f 62,f 63,f 64,f 65,f 66,f 67,f 68,f 69,f 70,f 71,f 72,f 73,f 74,f 75,f 76,f 77,f 78,f 79,f 80,f 81,f 82,f 83,f 84,f 85,f 86,f 87,f 88,f 89,f 90,f 91,f 92,f 93,f 94,f 95,f 96,f 97,f 98,f 99,f 100,f 101,f 102,f 103,f 104,f 105,f 106,f 107,f 108,f 109,f 110,f 111,f 112,f 113,f 114,f 115,f 116,f 117,f 118,f 119,f 120,f 121,f 122,f 123,f 124,f 125,f 126,f 127,v128,v129,v130,v131,v132,.pointer (some ⟨r,0,none⟩),f 134,f 135,f 136,f 137,f 138,f 139,f 140,f 141,f 142,f 143,f 144,f 145,f 146,f 147,f 148,f 149,f 150,f 151,f 152,f 153,f 154,f 155,f 156,f 157,f 158,f 159,f 160,f 161,f 162,f 163,f 164,f 165,f 166,f 167,f 168,f 169,f 170,f 171,f 172,f 173,f 174,f 175,f 176,f 177,f 178,f 179,f 180,f 181,f 182,f 183,f 184,f 185,f 186,f 187,f 188,f 189],[]⟩ W:=fun v128 v129 v130 v131 v132 r W n h1 h2 h3=>by
  have:=hK [(17,.slice none 0 0),(128,v128),(129,v129),(130,v130),(131,v131),(132,v132),(133,.pointer (some ⟨r,0,none⟩))] W r n rfl rfl rfl h1 h2 h3
  rw[tab2]at this
  rwa [<-h12,<-h16]
 clear hK
 unfold gN fE pK
 simp only[Try.f29,d6,Option.getD,List.drop,List.take,j9,List.getD,l9,List.getElem?_cons_succ,List.getElem?_cons_zero,cond_false]
 rw[tab0,h12,h16]
 have hcp:=AnyX.maps_Copy_opt Try.copyM K3 R3 M n p1 D0 D1 w hd hs hne hroom
 change Calls Try.prog 56 _ _ _ at hcp
 go_wp2_with (first
  |(go_at_call 56;refine hcp.mono ?_;rintro e W ⟨rfl,hown,hgr⟩)
  |(at_range;refine wpList_range_own _ rfl _ 104 rfl 3 3 K3 Try.underlying104 _ M _ _ rfl hown ?_;intro w0 hrg0 hg0 hs0)
  |go_in)
 go_frame
 exact hK1 _ _ _ _ _ _ _ _ hgr.size hrg0 (hgr.andThen hg0 (fun j hj=>by cases hj))
set_option maxRecDepth 100000 in
theorem tab3(f:Nat->Value)(v134 v135:Value):tab (dQ f [(134,v134),(135,v135)]) 190= #[f 0,f 1,f 2,f 3,f 4,f 5,f 6,f 7,f 8,f 9,f 10,f 11,f 12,f 13,f 14,f 15,f 16,f 17,f 18,f 19,f 20,f 21,f 22,f 23,f 24,f 25,f 26,f 27,f 28,f 29,f 30,f 31,f 32,f 33,f 34,f 35,f 36,f 37,f 38,f 39,f 40,f 41,f 42,f 43,f 44,f 45,f 46,f 47,f 48,f 49,f 50,f 51,f 52,f 53,f 54,f 55,f 56,f 57,f 58,f 59,f 60,f 61,f 62,f 63,f 64,f 65,f 66,f 67,f 68,f 69,f 70,f 71,f 72,f 73,f 74,f 75,f 76,f 77,f 78,f 79,f 80,f 81,f 82,f 83,f 84,f 85,f 86,f 87,f 88,f 89,f 90,f 91,f 92,f 93,f 94,f 95,f 96,f 97,f 98,f 99,f 100,f 101,f 102,f 103,f 104,f 105,f 106,f 107,f 108,f 109,f 110,f 111,f 112,f 113,f 114,f 115,f 116,f 117,f 118,f 119,f 120,f 121,f 122,f 123,f 124,f 125,f 126,f 127,f 128,f 129,f 130,f 131,f 132,f 133,v134,v135,f 136,f 137,f 138,f 139,f 140,f 141,f 142,f 143,f 144,f 145,f 146,f 147,f 148,f 149,f 150,f 151,f 152,f 153,f 154,f 155,f 156,f 157,f 158,f 159,f 160,f 161,f 162,f 163,f 164,f 165,f 166,f 167,f 168,f 169,f 170,f 171,f 172,f 173,f 174,f 175,f 176,f 177,f 178,f 179,f 180,f 181,f 182,f 183,f 184,f 185,f 186,f 187,f 188,f 189]:=rfl
set_option maxHeartbeats 1000000 in
set_option maxRecDepth 100000 in
theorem mw3(w:World)(f:Nat->Value)(M r n:Nat)(D:DataW Unit)(left:Lit->Bool)(cnt:Nat)(h133:f 133= .pointer (some ⟨r,0,none⟩))(hrg:w.ranges Try.prog 3 R3 M r n D left cnt)(Q:Exit->Act->World->Prop)
  (hN:∀v134,cnt=0->(∀kl,left kl=false)->Q .normal ⟨tab (dQ f [(134,v134),(135,.bool false)]) 190,[]⟩ w)
  (hM:∀v134 (x c:Int) W cnt',(Lit.int .i64 x).wf=true->left (.int .i64 x)=true->W.ranges Try.prog 3 R3 M r n D (fun z=>left z&& !z.sameKey (.int .i64 x)) cnt'->cnt'<cnt->w.grownBy W (some r)->W.heap.size=w.heap.size->
   (Instr.entry (.pointer (some ⟨r,0,none⟩))).run Try.prog W= .ok (.tuple #[.int .i64 x,.int .i64 c]) W->Q .normal ⟨tab (dQ f [(134,v134),(135,.bool true)]) 190,[]⟩ W):
  (l9 [true,true,true,false] gN).wp Try.prog Q ⟨tab (dQ f []) 190,[]⟩ w:=by
 have hN1:∀v134,cnt=0->(∀kl,left kl=false)->Q .normal ⟨#[f 0,f 1,f 2,f 3,f 4,f 5,f 6,f 7,f 8,f 9,f 10,f 11,f 12,f 13,f 14,f 15,f 16,f 17,f 18,f 19,f 20,f 21,f 22,f 23,f 24,f 25,f 26,f 27,f 28,f 29,f 30,f 31,f 32,f 33,f 34,f 35,f 36,f 37,f 38,f 39,f 40,f 41,f 42,f 43,f 44,f 45,f 46,f 47,f 48,f 49,f 50,f 51,f 52,f 53,f 54,f 55,f 56,f 57,f 58,f 59,f 60,f 61,f 62,f 63,f 64,f 65,f 66,f 67,f 68,f 69,f 70,f 71,f 72,f 73,f 74,f 75,f 76,f 77,f 78,f 79,f 80,f 81,f 82,f 83,f 84,f 85,f 86,f 87,f 88,f 89,f 90,f 91,f 92,f 93,f 94,f 95,f 96,f 97,f 98,f 99,f 100,f 101,f 102,f 103,f 104,f 105,f 106,f 107,f 108,f 109,f 110,f 111,f 112,f 113,f 114,f 115,f 116,f 117,f 118,f 119,f 120,f 121,f 122,f 123,f 124,f 125,f 126,f 127,f 128,f 129,f 130,f 131,f 132,.pointer (some ⟨r,0,none⟩),v134,.bool false,f 136,f 137,f 138,f 139,f 140,f 141,f 142,f 143,f 144,f 145,f 146,f 147,f 148,f 149,f 150,f 151,f 152,f 153,f 154,f 155,f 156,f 157,f 158,f 159,f 160,f 161,f 162,f 163,f 164,f 165,f 166,f 167,f 168,f 169,f 170,f 171,f 172,f 173,f 174,f 175,f 176,f 177,f 178,f 179,f 180,f 181,f 182,f 183,f 184,f 185,f 186,f 187,f 188,f 189],[]⟩ w:=fun v134 h1 h2=>by
  have:=hN v134 h1 h2
  rw[tab3]at this
  rwa [<-h133]
 have hM1:∀v134 (x c:Int) W cnt',(Lit.int .i64 x).wf=true->left (.int .i64 x)=true->W.ranges Try.prog 3 R3 M r n D (fun z=>left z&& !z.sameKey (.int .i64 x)) cnt'->cnt'<cnt->w.grownBy W (some r)->W.heap.size=w.heap.size->
   (Instr.entry (.pointer (some ⟨r,0,none⟩))).run Try.prog W= .ok (.tuple #[.int .i64 x,.int .i64 c]) W->Q .normal ⟨#[f 0,f 1,f 2,f 3,f 4,f 5,f 6,f 7,f 8,f 9,f 10,f 11,f 12,f 13,f 14,f 15,f 16,f 17,f 18,f 19,f 20,f 21,f 22,f 23,f 24,f 25,f 26,f 27,f 28,f 29,f 30,f 31,f 32,f 33,f 34,f 35,f 36,f 37,f 38,f 39,f 40,f 41,f 42,f 43,f 44,f 45,f 46,f 47,f 48,f 49,f 50,f 51,f 52,f 53,f 54,f 55,f 56,f 57,f 58,f 59,f 60,f 61,f 62,f 63,f 64,f 65,f 66,f 67,f 68,f 69,f 70,f 71,f 72,f 73,f 74,f 75,f 76,f 77,f 78,f 79,f 80,f 81,f 82,f 83,f 84,f 85,f 86,f 87,f 88,f 89,f 90,f 91,f 92,f 93,f 94,f 95,f 96,f 97,f 98,f 99,f 100,f 101,f 102,f 103,f 104,f 105,f 106,f 107,f 108,f 109,f 110,f 111,f 112,f 113,f 114,f 115,f 116,f 117,f 118,f 119,f 120,f 121,f 122,f 123,f 124,f 125,f 126,f 127,f 128,f 129,f 130,f 131,f 132,.pointer (some ⟨r,0,none⟩),v134,.bool true,f 136,f 137,f 138,f 139,f 140,f 141,f 142,f 143,f 144,f 145,f 146,f 147,f 148,f 149,f 150,f 151,f 152,f 153,f 154,f 155,f 156,f 157,f 158,f 159,f 160,f 161,f 162,f 163,f 164,f 165,f 166,f 167,f 168,f 169,f 170,f 171,f 172,f 173,f 174,f 175,f 176,f 177,f 178,f 179,f 180,f 181,f 182,f 183,f 184,f 185,f 186,f 187,f 188,f 189],[]⟩ W:=fun v134 x c W cnt' h1 h2 h3 h4 h5 h6 h7=>by
  have:=hM v134 x c W cnt' h1 h2 h3 h4 h5 h6 h7
  rw[tab3]at this
  rwa [<-h133]
 clear hN hM
 unfold gN fE pK
 simp only[Try.f29,d6,Option.getD,List.drop,List.take,j9,List.getD,l9,List.getElem?_cons_succ,List.getElem?_cons_zero,cond_false,cond_true]
 rw[tab0,h133]
 go_wp2_with (first
  |(at_next;refine wpList_next_ranges_ii _ rfl _ rfl 3 3 .i64 .i64 K3 Try.underlying3 Try.underlying3 M r n _ _ _ rfl hrg ?_ ?_)
  |go_in)
 ·intro hc0 hl0
  go_wp2
  exact hN1 _ hc0 hl0
 ·intro x c w1 cnt1 hwx hwc hlx hat hrg1 hlt hg1 hs1 hen
  go_wp2
  exact hM1 _ x c w1 cnt1 hwx hlx hrg1 hlt hg1 hs1 hen
set_option maxRecDepth 100000 in
theorem tab4(f:Nat->Value)(v18 v136 v137:Value):tab (dQ f [(18,v18),(136,v136),(137,v137)]) 190= #[f 0,f 1,f 2,f 3,f 4,f 5,f 6,f 7,f 8,f 9,f 10,f 11,f 12,f 13,f 14,f 15,f 16,f 17,v18,f 19,f 20,f 21,f 22,f 23,f 24,f 25,f 26,f 27,f 28,f 29,f 30,f 31,f 32,f 33,f 34,f 35,f 36,f 37,f 38,f 39,f 40,f 41,f 42,f 43,f 44,f 45,f 46,f 47,f 48,f 49,f 50,f 51,f 52,f 53,f 54,f 55,f 56,f 57,f 58,f 59,f 60,f 61,f 62,f 63,f 64,f 65,f 66,f 67,f 68,f 69,f 70,f 71,f 72,f 73,f 74,f 75,f 76,f 77,f 78,f 79,f 80,f 81,f 82,f 83,f 84,f 85,f 86,f 87,f 88,f 89,f 90,f 91,f 92,f 93,f 94,f 95,f 96,f 97,f 98,f 99,f 100,f 101,f 102,f 103,f 104,f 105,f 106,f 107,f 108,f 109,f 110,f 111,f 112,f 113,f 114,f 115,f 116,f 117,f 118,f 119,f 120,f 121,f 122,f 123,f 124,f 125,f 126,f 127,f 128,f 129,f 130,f 131,f 132,f 133,f 134,f 135,v136,v137,f 138,f 139,f 140,f 141,f 142,f 143,f 144,f 145,f 146,f 147,f 148,f 149,f 150,f 151,f 152,f 153,f 154,f 155,f 156,f 157,f 158,f 159,f 160,f 161,f 162,f 163,f 164,f 165,f 166,f 167,f 168,f 169,f 170,f 171,f 172,f 173,f 174,f 175,f 176,f 177,f 178,f 179,f 180,f 181,f 182,f 183,f 184,f 185,f 186,f 187,f 188,f 189]:=rfl
set_option maxHeartbeats 1000000 in
set_option maxRecDepth 100000 in
theorem mw4(w:World)(f:Nat->Value)(r:Nat)(x c:Int)(h133:f 133= .pointer (some ⟨r,0,none⟩))(hen:(Instr.entry (.pointer (some ⟨r,0,none⟩))).run Try.prog w= .ok (.tuple #[.int .i64 x,.int .i64 c]) w)(Q:Exit->Act->World->Prop)
  (hK:∀v136 v137,Q .normal ⟨tab (dQ f [(18,.int .i64 x),(136,v136),(137,v137)]) 190,[]⟩ w):
  (l9 [true,true,true,true,true,true,false] gN).wp Try.prog Q ⟨tab (dQ f []) 190,[]⟩ w:=by
 have hK1:∀v136 v137,Q .normal ⟨#[f 0,f 1,f 2,f 3,f 4,f 5,f 6,f 7,f 8,f 9,f 10,f 11,f 12,f 13,f 14,f 15,f 16,f 17,.int .i64 x,f 19,f 20,f 21,f 22,f 23,f 24,f 25,f 26,f 27,f 28,f 29,f 30,f 31,f 32,f 33,f 34,f 35,f 36,f 37,f 38,f 39,f 40,f 41,f 42,f 43,f 44,f 45,f 46,f 47,f 48,f 49,f 50,f 51,f 52,f 53,f 54,f 55,f 56,f 57,f 58,f 59,f 60,f 61,f 62,f 63,f 64,f 65,f 66,f 67,f 68,f 69,f 70,f 71,f 72,f 73,f 74,f 75,f 76,f 77,f 78,f 79,f 80,f 81,f 82,f 83,f 84,f 85,f 86,f 87,f 88,f 89,f 90,f 91,f 92,f 93,f 94,f 95,f 96,f 97,f 98,f 99,f 100,f 101,f 102,f 103,f 104,f 105,f 106,f 107,f 108,f 109,f 110,f 111,f 112,f 113,f 114,f 115,f 116,f 117,f 118,f 119,f 120,f 121,f 122,f 123,f 124,f 125,f 126,f 127,f 128,f 129,f 130,f 131,f 132,.pointer (some ⟨r,0,none⟩),f 134,f 135,v136,v137,f 138,f 139,f 140,f 141,f 142,f 143,f 144,f 145,f 146,f 147,f 148,f 149,f 150,f 151,f 152,f 153,f 154,f 155,f 156,f 157,f 158,f 159,f 160,f 161,f 162,f 163,f 164,f 165,f 166,f 167,f 168,f 169,f 170,f 171,f 172,f 173,f 174,f 175,f 176,f 177,f 178,f 179,f 180,f 181,f 182,f 183,f 184,f 185,f 186,f 187,f 188,f 189],[]⟩ w:=fun v136 v137=>by
  have:=hK v136 v137
  rw[tab4]at this
  rwa [<-h133]
 clear hK
 unfold gN fE pK
 simp only[Try.f29,d6,Option.getD,List.drop,List.take,j9,List.getD,l9,List.getElem?_cons_succ,List.getElem?_cons_zero,cond_false,cond_true]
 rw[tab0,h133]
 go_wp2
 exact hK1 _ _
end Go.User
namespace Go.User
open Go Go.Proofs Go.RowKit Go.Lib Go.Lf Go.Sort
set_option maxHeartbeats 1000000 in
set_option maxRecDepth 100000 in
theorem cl59(W:World)(x y a0 a1 a2 a3 a5 a6 a7 a8 a9 a10 a11 a12 a13 a14 b0 b1 b2 b3 b5 b6 b7 b8 b9 b10 b11 b12 b13 b14:Int)(hx:0<=x/\x<5000)(hy:0<=y/\y<5000):
  Calls Try.prog 59 #[.agg #[.int .i64 a0,.int .i64 a1,.int .i64 a2,.int .i64 a3,.int .i64 x,.int .i32 a5,.int .i64 a6,.int .i64 a7,.int .i32 a8,.int .i64 a9,.int .i64 a10,.int .i32 a11,.int .i64 a12,.int .i64 a13,.int .i32 a14],
   .agg #[.int .i64 b0,.int .i64 b1,.int .i64 b2,.int .i64 b3,.int .i64 y,.int .i32 b5,.int .i64 b6,.int .i64 b7,.int .i32 b8,.int .i64 b9,.int .i64 b10,.int .i32 b11,.int .i64 b12,.int .i64 b13,.int .i32 b14]] W
   fun e w'=>e= .returned (.int .i64 (x-y))/\∃q os',w'=grow (W.drewN q) os':=by
 have hw:IntKind.i64.wrap (x-y)=x-y:=by
  have h1: -5000<x-y:=by omega
  have h2:x-y<5000:=by omega
  generalize x-y=z at *
  simp[IntKind.wrap,IntKind.bits,IntKind.signed]
  omega
 go_enter Try.func59,Try.ntmps59
 go_wp2
 go_returns
 exact⟨rfl,0,_,by rw[alloc_eq_grow,alloc_eq_grow,grow_grow];rfl⟩
abbrev Kn:=Fin 5000
noncomputable def nX(g:Nat->Sp.Inst)(r:Kn):List Value:=[ci (g r) 0,ci (g r) 1,ci (g r) 2,ci (g r) 3,.int .i64 (r.val:Int),ci (g r) 5,ci (g r) 6,ci (g r) 7,ci (g r) 8,ci (g r) 9,ci (g r) 10,ci (g r) 11,ci (g r) 12,ci (g r) 13,ci (g r) 14]
theorem encS_ci{g:Nat->Sp.Inst}(hg:∀r,ci (g r) 4= .int .i64 (r:Int))(r:Kn):nX g r=(List.range 15).map (ci (g r)):=by
 unfold nX
 rw[<-hg r]
 rfl
def cfS(x y:Kn):Int:=(x.val:Int)-(y.val:Int)
theorem ltS(x y:Kn):ltOf cfS x y=decide (x.val<y.val):=by
 unfold ltOf cfS
 rw[decide_eq_decide]
 omega
theorem swoS:SWO (ltOf cfS) where
 irrefl x:=by rw[ltS];simp
 trans x y z h1 h2:=by rw[ltS]at *;simp at *;omega
 ntrans x y z h1 h2:=by rw[ltS]at *;simp at *;omega
theorem cmpS(g:Nat->Sp.Inst)(blk off size:Nat)(w:World):CmpLays Try.prog 59 #[] (nX g) 15 cfS blk off size w:=by
 intro m os dk hs x y
 exact cl59 _ x.val y.val _ _ _ _ _ _ _ _ _ _ _ _ _ _ _ _ _ _ _ _ _ _ _ _ _ _ _ _ ⟨by omega,by have:=x.isLt;omega⟩ ⟨by omega,by have:=y.isLt;omega⟩
theorem srt58(g:Nat->Sp.Inst)(hg:∀r,ci (g r) 4= .int .i64 (r:Int))(blk off cap:Nat)(d:Array Kn)(w:World)(hH:HoldsK (nX g) 15 w blk off d)(hblk:blk<w.heap.size)(hsz:d.size<5000):
  Calls Try.prog 58 #[.slice (some ⟨blk,off,none⟩) d.size cap,.func (.func 59) #[] #[]] w fun e w'=>e= .returned (.tuple #[])/\∃d' n os,PermIn 0 d.size d d'/\SortedIn (ltOf cfS) 0 d.size d'/\w'=sortWorldK (nX g) 15 w blk off n d' os:=by
 have eg:∀args w,(callFunc 59 args).run Try.prog w= .ok (.enter 59 args) w:=enters_of Try.func59 (by kernel_rfl) rfl
 exact AnyQ.slices_SortFunc Try.sortI 15 Try.isAgg61 Try.sizeOf61 (nX g) (fun _=>rfl) (fun x v hv=>by
  simp only[nX,List.mem_cons,List.not_mem_nil,or_false]at hv;rcases hv with rfl|rfl|rfl|rfl|rfl|rfl|rfl|rfl|rfl|rfl|rfl|rfl|rfl|rfl|rfl<;>rfl) cfS swoS 59 #[] blk off cap d w eg (cmpS g blk off d.size w) hH hblk (by omega)
theorem putK_at(off:Nat)(d:Array Value)(c:Array Value){j:Nat}(h:j<d.size)(hc:off+j<c.size):(putCells id off d c)[off+j]? =some d[j]! :=by
 unfold putCells
 rw[Array.getElem?_mapIdx,Array.getElem?_eq_getElem hc]
 simp only[Option.map_some]
 rw[if_pos ⟨by omega,by omega⟩,Nat.add_sub_cancel_left]
 rfl
theorem putK_size(off:Nat)(d:Array Value)(c:Array Value):(putCells id off d c).size=c.size:=by
 unfold putCells
 rw[Array.size_mapIdx]
theorem putK_heap(w:World)(b off:Nat)(d:Array Value)(k:Nat):(putRow id w b off d).heap[k]? =if b=k then(w.heap[k]?).map (onCells (putCells id off d))else w.heap[k]? :=by
 unfold putRow mapBlock
 rw[Array.getElem?_modify]
theorem uB(w:World)(b off:Nat)(d:Array Value):(putRow id w b off d).heap.size=w.heap.size:=by
 unfold putRow mapBlock
 simp
theorem growK_heap(w:World)(os:Array Obj){k:Nat}(h:k<w.heap.size):(Go.Sort.grow w os).heap[k]? =w.heap[k]? :=by
 unfold Go.Sort.grow
 rw[Array.getElem?_append_left h]
theorem flat_at(g:Nat->Sp.Inst)(hg:∀r,ci (g r) 4= .int .i64 (r:Int))(d:Array Kn){i j:Nat}(hi:i<d.size)(hj:j<15):(flatK (nX g) 15 d)[i*15+j]! =ci (g d[i]!.val) j:=by
 have ht:i*15+j<d.size*15:=by omega
 rw[get_flatK _ _ _ _ ht,show(i*15+j)/15=i by omega,show(i*15+j)%15=j by omega,encS_ci hg]
 simp[hj]
theorem row_insts{w:World}{F S0:aA}{v:Value}{x:List Sp.Inst}(h:aT F w (.slice aC) (.own .shr) S0 v x):
  (∃cap,v= .slice none 0 cap/\x=[])∨∃b off cap row T,v= .slice (some ⟨b,off,none⟩) x.length cap/\x.length<=cap/\S0 b/\w.heap[b]? =some (.cells row T (0,0))/\off+cap*15<=row.size/\(∀i,i<x.length->∀j,j<15->row[off+i*15+j]? =some (ci (x.getD i cZ) j))/\∀i∈x,RgI i:=by
 obtain⟨cs,rfl,ao,cap,rfl,h1,h2,h3⟩:=h
 have h1:x.length<=cap:=h1
 rcases h3 with⟨rfl,rfl⟩|⟨b,off,row,T,Si,rfl,h4,h5,h6,_,_,_,h7⟩
 ·left
  have:x=[]:=List.eq_nil_of_length_eq_zero (by omega)
  subst this;exact⟨0,rfl,rfl⟩
 ·right
  have hs:Ty.size aC=15:=rfl
  rw[hs]at h6;have hel:∀i (hi:i<x.length),(∀j,j<15->row[off+i*15+j]? =some (ci (x.getD i cZ) j))/\RgI (x.getD i cZ):=by
   intro i hi;obtain⟨q1,_,q3,q4⟩:=uX (h7 i _ (List.getElem?_eq_getElem hi));rw[hs]at q1;rw[Sp.gat hi];refine⟨fun j hj=> ?_,q3,q4⟩
   have h2:(seg row.toList (off+i*15) 15)[j]? =some (ci x[i] j):=by
    rw[q1];rcases j with _|_|_|_|_|_|_|_|_|_|_|_|_|_|_|j<;>first|rfl|omega
   unfold seg at h2;rw[List.getElem?_take,if_pos hj,List.getElem?_drop]at h2
   simpa using h2
  refine⟨b,off,cap,row,T,rfl,h1,h4,h5,h6,fun i hi=>(hel i hi).1,fun z hz=> ?_⟩
  obtain⟨i,hi,rfl⟩:=List.getElem_of_mem hz;have:=(hel i hi).2
  rwa [Sp.gat hi]at this
theorem own_insts{w:World}{F S0:aA}{b off cap:Nat}{row:Array Value}{T:TypeId}{x:List Sp.Inst}(h1:x.length<=cap)(hl:x.length<=lim)(h4:S0 b)(h5:w.heap[b]? =some (.cells row T (0,0)))(h6:off+cap*15<=row.size)
  (h7:∀i,i<x.length->∀j,j<15->row[off+i*15+j]? =some (ci (x.getD i cZ) j)) (h8:∀i∈x,RgI i):aT F w (.slice aC) (.own .shr) S0 (.slice (some ⟨b,off,none⟩) x.length cap) x:=by
 have hs:Ty.size aC=15:=rfl
 refine⟨[.slice (some ⟨b,off,none⟩) x.length cap],rfl,some ⟨b,off,none⟩,cap,rfl,h1,hl,.inr ⟨b,off,row,T,fun _=>none',rfl,h4,h5,by rw[hs];exact h6,fun _ _ h=>h.elim,fun _ h=>h,fun _ _ _ _ h _=>h,?_⟩⟩
 intro i z hz
 obtain⟨hi,rfl⟩:=List.getElem?_eq_some_iff.1 hz
 rw[hs,seg_map (c:=ci x[i]) ?_]
 ·exact inst_mk (h8 _ (List.getElem_mem hi))
 ·intro j hj
  have:=h7 i hi j hj
  rw[Sp.gat hi]at this
  simpa using this
def kn(k:Nat):Kn:=⟨k%5000,Nat.mod_lt _ (by omega)⟩
theorem kn_val{k:Nat}(h:k<5000):(kn k).val=k:=Nat.mod_eq_of_lt h
theorem sort58(hnone:∀(p:Option Addr) (cap:Nat) (fv:Value) (w:World),Calls Try.prog 58 #[.slice p 0 cap,fv] w fun e w'=>e= .returned (.tuple #[])/\w'=w)
  (g:Nat->Sp.Inst) (hg:∀r,ci (g r) 4= .int .i64 (r:Int)) {w:World} {F S0:aA} {v:Value} {ks:List Nat} (hF:∀b,F b->b<w.heap.size) (hS0:∀b,S0 b->b<w.heap.size/\¬F b)
  (hown:aT F w (.slice aC) (.own .shr) S0 v (ks.map g)) (hk:∀k∈ks,k<5000) (hl:ks.length<5000):
  Calls Try.prog 58 #[v,.func (.func 59) #[] #[]] w fun e w'=>e= .returned (.tuple #[])/\w'.os=w.os/\w'.tape=w.tape/\w'.output=w.output/\w.heap.size<=w'.heap.size/\(∀k,k<w.heap.size->¬S0 k->w'.heap[k]? =w.heap[k]?)/\
   ∃ks':List Nat,ks'.Perm ks/\ks'.Pairwise (· <= ·)/\aT F w' (.slice aC) (.own .shr) S0 v (ks'.map g):=by
 rcases row_insts hown with⟨cap,rfl,h0⟩|⟨b,off,cap,row,T,rfl,h1,h4,h5,h6,h7,h8⟩
 ·refine(hnone none cap _ w).mono ?_
  rintro e w' ⟨rfl,rfl⟩
  have:ks=[]:=List.map_eq_nil_iff.1 h0
  subst this;exact⟨rfl,rfl,rfl,rfl,Nat.le_refl _,fun _ _ _=>rfl,[],List.Perm.refl _,List.Pairwise.nil,hown⟩
 ·rw[List.length_map]at h1 h7⊢
  have hb:=hS0 b h4
  generalize hd:(ks.map kn).toArray=d
  have hds:d.size=ks.length:=by rw[<-hd];simp
  have hdv:d.toList.map (·.val)=ks:=by
   rw[<-hd];simp only[List.map_map]
   conv=>rhs;rw[<-List.map_id ks]
   exact List.map_congr_left fun k hk'=>kn_val (hk k hk')
  have hdj:∀i,i<ks.length->g (d[i]!).val=(ks.map g).getD i cZ:=by
   intro i hi;have e1:d[i]! =d[i]'(by omega):=getElem!_pos d i (by omega);have e2:(d[i]'(by omega)).val=ks[i]:=by
    have:=congrArg (fun l=>l[i]?) hdv
    simp only[List.getElem?_map]at this;rw[List.getElem?_eq_getElem (by simpa[hds]using hi),List.getElem?_eq_getElem hi]at this
    simpa using this
   rw[e1,e2,Sp.gat (by simpa using hi),List.getElem_map]
  have hH:HoldsK (nX g) 15 w b off d:=by
   intro j hj;rw[size_flatK,hds]at hj;have e0:j=j/15*15+j%15:=by omega
   have e1:=flat_at g hg d (i:=j/15) (j:=j%15) (by omega) (by omega)
   rw[<-e0,hdj _ (by omega)]at e1;refine⟨?_,by simp[World.frozen?,h5]⟩
   rw[e1,id];have:=h7 (j/15) (by omega) (j%15) (by omega);rw[show off+j/15*15+j%15=off+j by omega]at this
   simp[World.cell?,h5,this]
  have hcall:=srt58 g hg b off cap d w hH hb.1 (by omega)
  rw[hds]at hcall;refine hcall.mono ?_;rintro e w' ⟨rfl,d',n,os,hp,hso,rfl⟩;obtain⟨p1,p2,p3⟩:=hp;have hsz:(sortWorldK (nX g) 15 w b off n d' os).heap.size=w.heap.size+os.size:=by
   unfold sortWorldK putRowK Go.Sort.grow;rw[Array.size_append,uB];rfl
  have hkk:∀k,k<w.heap.size->(sortWorldK (nX g) 15 w b off n d' os).heap[k]? =if b=k then(w.heap[k]?).map (onCells (putCells id off (flatK (nX g) 15 d')))else w.heap[k]? :=by
   intro k hk;unfold sortWorldK putRowK;rw[growK_heap _ _ (by rw[uB];exact hk),putK_heap]
   rfl
  have hperm:d'.toList.Perm d.toList:=by
   have a1:d'.extract 0 ks.length=d':=by rw[<-hds,<-p1];exact Array.extract_size
   have a2:d.extract 0 ks.length=d:=by rw[<-hds];exact Array.extract_size
   rwa [a1,a2]at p3
  have hperm2:(d'.toList.map (·.val)).Perm ks:=by
   have:=hperm.map (fun r:Kn=>r.val)
   rwa [hdv]at this
  have hlen:(d'.toList.map (·.val)).length=ks.length:=hperm2.length_eq
  have hpos:∀i (hi:i<ks.length),(d'.toList.map (·.val))[i]'(by omega)=(d'[i]!).val:=by
   intro i hi;have e1:d'[i]! =d'[i]'(by omega):=getElem!_pos d' i (by omega);rw[List.getElem_map,e1]
   simp
  refine⟨rfl,rfl,rfl,rfl,by rw[hsz];omega,fun k q1 q2=> ?_,d'.toList.map (·.val),hperm2,?_,?_⟩
  ·rw[hkk k q1,if_neg (fun(e:b=k)=>q2 (by rw[<-e];exact h4))]
  ·rw[List.pairwise_iff_getElem]
   intro i j hi hj hij;rw[hlen]at hi hj;have:=hso i j (Nat.zero_le _) hij hj;rw[ltS]at this;rw[hpos i hi,hpos j hj]
   simpa using this
  ·have hrow:w.heap[b]?.map (onCells (putCells id off (flatK (nX g) 15 d')))=some (.cells (putCells id off (flatK (nX g) 15 d') row) T (0,0)):=by rw[h5];rfl
   have hlm:((d'.toList.map (·.val)).map g).length=ks.length:=by rw[List.length_map,hlen]
   have:=own_insts (F:=F) (S0:=S0) (x:=(d'.toList.map (·.val)).map g) (cap:=cap) (off:=off) (b:=b) (w:=sortWorldK (nX g) 15 w b off n d' os) (row:=putCells id off (flatK (nX g) 15 d') row) (T:=T)
    (by rw[hlm];exact h1) (by rw[hlm];unfold lim;omega) h4 (by rw[hkk b hb.1,if_pos rfl];exact hrow) (by rw[putK_size];exact h6) (fun i hi j hj=>by
     rw[hlm]at hi;have hfl:i*15+j<(flatK (nX g) 15 d').size:=by rw[size_flatK];omega
     rw[Nat.add_assoc,putK_at off _ _ hfl (by omega),flat_at g hg d' (by omega) hj,Sp.gat (by rw[hlm];exact hi),List.getElem_map,hpos i hi]) (fun z hz=>by
     obtain⟨k,hk',rfl⟩:=List.mem_map.1 hz;exact h8 _ (List.mem_map.2 ⟨k,hperm2.mem_iff.1 hk',rfl⟩))
   rw[hlm]at this;exact this
set_option maxRecDepth 100000 in
theorem tab5(f:Nat->Value)(v155 v156:Value):tab (dQ f [(155,v155),(156,v156)]) 190= #[f 0,f 1,f 2,f 3,f 4,f 5,f 6,f 7,f 8,f 9,f 10,f 11,f 12,f 13,f 14,f 15,f 16,f 17,f 18,f 19,f 20,f 21,f 22,f 23,f 24,f 25,f 26,f 27,f 28,f 29,f 30,f 31,f 32,f 33,f 34,f 35,f 36,f 37,f 38,f 39,f 40,f 41,f 42,f 43,f 44,f 45,f 46,f 47,f 48,f 49,f 50,f 51,f 52,f 53,f 54,f 55,f 56,f 57,f 58,f 59,f 60,f 61,f 62,f 63,f 64,f 65,f 66,f 67,f 68,f 69,f 70,f 71,f 72,f 73,f 74,f 75,f 76,f 77,f 78,f 79,f 80,f 81,f 82,f 83,f 84,f 85,f 86,f 87,f 88,f 89,f 90,f 91,f 92,f 93,f 94,f 95,f 96,f 97,f 98,f 99,f 100,f 101,f 102,f 103,f 104,f 105,f 106,f 107,f 108,f 109,f 110,f 111,f 112,f 113,f 114,f 115,f 116,f 117,f 118,f 119,f 120,f 121,f 122,f 123,f 124,f 125,f 126,f 127,f 128,f 129,f 130,f 131,f 132,f 133,f 134,f 135,f 136,f 137,f 138,f 139,f 140,f 141,f 142,f 143,f 144,f 145,f 146,f 147,f 148,f 149,f 150,f 151,f 152,f 153,f 154,v155,v156,f 157,f 158,f 159,f 160,f 161,f 162,f 163,f 164,f 165,f 166,f 167,f 168,f 169,f 170,f 171,f 172,f 173,f 174,f 175,f 176,f 177,f 178,f 179,f 180,f 181,f 182,f 183,f 184,f 185,f 186,f 187,f 188,f 189]:=rfl
set_option maxHeartbeats 1000000 in
set_option maxRecDepth 100000 in
theorem mw5(w:World)(f:Nat->Value)(v:Value)(R:World->Prop)(h17:f 17=v)(hs:Calls Try.prog 58 #[v,.func (.func 59) #[] #[]] w fun e w'=>e= .returned (.tuple #[])/\R w')(Q:Exit->Act->World->Prop)
  (hK:∀v155 v156 W,R W->Q .normal ⟨tab (dQ f [(155,v155),(156,v156)]) 190,[]⟩ W):(fE.getD 5 .skip).wp Try.prog Q ⟨tab (dQ f []) 190,[]⟩ w:=by
 have hK1:∀v155 v156 W,R W->Q .normal ⟨#[f 0,f 1,f 2,f 3,f 4,f 5,f 6,f 7,f 8,f 9,f 10,f 11,f 12,f 13,f 14,f 15,f 16,v,f 18,f 19,f 20,f 21,f 22,f 23,f 24,f 25,f 26,f 27,f 28,f 29,f 30,f 31,f 32,f 33,f 34,f 35,f 36,f 37,f 38,f 39,f 40,f 41,f 42,f 43,f 44,f 45,f 46,f 47,f 48,f 49,f 50,f 51,f 52,f 53,f 54,f 55,f 56,f 57,f 58,f 59,f 60,f 61,f 62,f 63,f 64,f 65,f 66,f 67,f 68,f 69,f 70,f 71,f 72,f 73,f 74,f 75,f 76,f 77,f 78,f 79,f 80,f 81,f 82,f 83,f 84,f 85,f 86,f 87,f 88,f 89,f 90,f 91,f 92,f 93,f 94,f 95,f 96,f 97,f 98,f 99,f 100,f 101,f 102,f 103,f 104,f 105,f 106,f 107,f 108,f 109,f 110,f 111,f 112,f 113,f 114,f 115,f 116,f 117,f 118,f 119,f 120,f 121,f 122,f 123,f 124,f 125,f 126,f 127,f 128,f 129,f 130,f 131,f 132,f 133,f 134,f 135,f 136,f 137,f 138,f 139,f 140,f 141,f 142,f 143,f 144,f 145,f 146,f 147,f 148,f 149,f 150,f 151,f 152,f 153,f 154,v155,v156,f 157,f 158,f 159,f 160,f 161,f 162,f 163,f 164,f 165,f 166,f 167,f 168,f 169,f 170,f 171,f 172,f 173,f 174,f 175,f 176,f 177,f 178,f 179,f 180,f 181,f 182,f 183,f 184,f 185,f 186,f 187,f 188,f 189],[]⟩ W:=fun v155 v156 W h=>by
  have:=hK v155 v156 W h
  rw[tab5]at this
  rwa [<-h17]
 clear hK
 unfold fE pK
 simp only[Try.f29,d6,Option.getD,List.drop,List.take,j9,List.getD,l9,List.getElem?_cons_succ,List.getElem?_cons_zero,cond_false,cond_true]
 rw[tab0,h17]
 go_wp2_with (first|(go_at_call 58;refine hs.mono ?_;rintro e W ⟨rfl,hR⟩))
 exact hR
end Go.User
namespace Go.User
open Go.Proofs Go.Lf
set_option maxRecDepth 100000
theorem vc291:(G291)=(
let q0:Int:=(0:Int);
let q1:=(2:Nat);
let q2:Int:=(1:Int);
let q3:Sp.Code:=(q0,q0,q0,q0,q0,([]:List cC.den),([]:List bC.den),([]:List eW.den),());
∀(x:Sp.Code×Int×Unit),
 let q4:Sp.Opd:=Sp.bK x.1.2.2.1;
 let q5:List Sp.Nm:=Sp.jZ x.1 x.2.1 q1;
 let q6:Int:=(Sp.cY x.1 x.2.1).2.1;
 let q7:List Sp.Inst:=Sp.lA x.1 x.2.1 q1;
 let q8:Sp.Wk:=Sp.wA x.1 x.2.1 q1;
 ∀(j:List Nat×Nat×Nat),
 let q9:List Sp.Inst:=Sp.o9 x.1 x.2.1 j.1;
 let q10:Sp.Opd:=Sp.bK (↑j.2.2:Int);
 let q11:List Sp.Inst:=((4:Int),q0,q0,q10,q4,Sp.rnO (q5.getD q0.toNat fun(x:Int)=>Option.none) q10,Sp.rnO (q5.getD q2.toNat fun(x:Int)=>Option.none) q10,())::([]:List aC.den);
 j.1.length<=(3000:Nat)->((True/\True/\True/\True/\inN q0 q1/\True/\True/\True/\True/\inN q2 q1/\True/\True/\True/\True/\True/\True/\True)/\(↑(q9.length+q11.length):Int)<=bJ/\True/\True)/\q9++q11=Sp.o9 x.1 x.2.1 (Sp.zD j.1 j.2.2)/\Option.some j.2.1=Option.some j.2.1/\x.2.1=x.2.1/\x.1=x.1/\q3=q3/\false=false/\([]:List aD)=([]:List aD)/\q6=q6/\q4=q4/\q7=q7/\q5=q5/\q8=q8/\True):=by kernel_rfl
end Go.User
namespace Go.User
open Go Go.Proofs Go.RowKit Go.Lib Go.Lf
theorem reg291:G291:=by
 rw[vc291]
 simp only[zz,zy]
 intro x j hj
 refine⟨⟨⟨⟨by omega,by omega⟩,⟨by omega,by omega⟩⟩,?_⟩,?_⟩
 ·have:(Sp.o9 x.1 x.2.1 j.1).length=j.1.length:=by simp[Sp.o9]
  rw[this];exact gW (by omega)
 ·show Sp.o9 x.1 x.2.1 j.1++[Sp.selI x.1.2.2.1 (Sp.nA x.1 x.2.1 0) (Sp.nA x.1 x.2.1 1) j.2.2]=Sp.o9 x.1 x.2.1 (Sp.zD j.1 j.2.2)
  unfold Sp.o9 Sp.zD;rw[List.map_append]
  rfl
theorem reg291w(x:aH S29.args)(j:List Nat×Nat×Nat)(hj:List.length j.1<=3000):WpT zG (dL bsA zG) (.i []) R29 (stx (l29s x) cF j) (fun st'=>atX (nR x) cF (Sp.zD j.1 j.2.2,j.2.1) st') (fun _ _=>False) (fun _=>False):=
 @WpT.of3 (aH S29.args) (List Nat×Nat×Nat) (fun _ j=>List.length j.1<=3000) zG (dL bsA zG) (fun _ _=> .i []) R29 (fun x j=>stx (l29s x) cF j) (fun x j st'=>atX (nR x) cF (Sp.zD j.1 j.2.2,j.2.1) st') (fun _ _ _ _=>False) (fun _ _ _=>False) G291 @reg291 (by kernel_rfl) x j hj
end Go.User
namespace Sp
theorem cpN_dom:∀(l:List Inst) (n:Int) (m:Nm) (k:Int),((cpN l n m) k).isSome=true->(m k).isSome=true∨∃i∈l,iD i=k
 | [],_,_,_,h=> .inl h
 |a::l,n,m,k,h=>by
  rcases cpN_dom l (n+1) (upM m (iD a) n) k h with h|⟨i,hi,e⟩
  ·unfold upM at h
   split at h
   ·rename_i e;exact .inr ⟨a,List.mem_cons_self,e.symm⟩
   ·exact .inl h
  ·exact .inr ⟨i,List.mem_cons_of_mem _ hi,e⟩
theorem nA_dom{c:Code}(h:okA c){b:Int}(hb:0<=b/\b<((cB c).length:Int))(p:xF c b){k:Nat}(hk:k<2)(n:Int)(hs:((nA c b k) n).isSome=true):0<=n/\n<c.2.2.1:=by
 unfold nA at hs
 rcases cpN_dom _ _ _ _ hs with h1|⟨i,hi,e⟩
 ·cases h1
 ·rcases oP h.t hb p hk with g|g
  ·rw[kU (by omega)]at hi;cases hi
  ·rw[xE g.1]at hi
   have:=h.dn ((cY c b).1.getD k 0).toNat (by omega) i hi
   omega
def Up(l:List Nat):Prop:=l.Pairwise (· < ·)
theorem up_ext:∀ {l m:List Nat},Up l->Up m->(∀x,x∈l↔x∈m)->l=m
 | [],[],_,_,_=>rfl
 | [],b::m,_,_,h=>by have:=(h b).2 List.mem_cons_self;cases this
 |a::l,[],_,_,h=>by have:=(h a).1 List.mem_cons_self;cases this
 |a::l,b::m,h1,h2,h=>by
  have h1':=List.pairwise_cons.1 h1
  have h2':=List.pairwise_cons.1 h2
  have e:a=b:=by
   have q1:=(h a).1 List.mem_cons_self
   have q2:=(h b).2 List.mem_cons_self
   rcases List.mem_cons.1 q1 with q1|q1
   ·exact q1
   rcases List.mem_cons.1 q2 with q2|q2
   ·exact q2.symm
   have:=h2'.1 a q1
   have:=h1'.1 b q2
   omega
  subst e;rw[up_ext h1'.2 h2'.2 fun x=>⟨fun hx=> ?_,fun hx=> ?_⟩]
  ·rcases List.mem_cons.1 ((h x).1 (List.mem_cons_of_mem _ hx))with e|q
   ·have:=h1'.1 x hx;omega
   ·exact q
  ·rcases List.mem_cons.1 ((h x).2 (List.mem_cons_of_mem _ hx))with e|q
   ·have:=h2'.1 x hx;omega
   ·exact q
theorem sels_sel{c:Code}{b:Int}{ks:List Nat}(hs:ks.Pairwise (· <= ·))(hn:ks.Nodup)(hm:∀k,k∈ks↔(((nA c b 0) (k:Int)).isSome||((nA c b 1) (k:Int)).isSome)=true)(hr:∀k∈ks,k<c.2.2.1.toNat):o9 c b ks=kA c b:=by
 unfold o9 kA
 congr 1
 refine up_ext ?_ ?_ fun x=> ?_
 ·exact(hs.and hn).imp fun h=>by omega
 ·exact List.Pairwise.filter _ List.pairwise_lt_range
 ·rw[List.mem_filter,List.mem_range]
  exact⟨fun h=>⟨hr x h,(hm x).1 h⟩,fun h=>(hm x).2 h.2⟩
end Sp
namespace Go.User
open Go Go.Proofs Go.RowKit Go.Lib Go.Lf Go.Maps Go.WideElems
theorem sI{es:Array MapEntry}{ck:Nat}{x:Int->Option Int}(h:j8 es ck x){B:Nat}(hx:∀n,(x n).isSome=true->0<=n/\n<(B:Int)):es.size<=B:=by
 have hst:=(MapKept.stamped_iff es ck).1 h.st
 have hp:(es.toList.map (fun e:MapEntry=>RowKit.intOf e.key)).Nodup:=by
  rw[List.nodup_iff_pairwise_ne,List.pairwise_map];refine hst.2.2.imp_of_mem ?_;intro a b ha hb hne e;obtain⟨k1,v1,a1,_⟩:=h.ints a ha;obtain⟨k2,v2,b1,_⟩:=h.ints b hb;rw[a1,b1]at e hne;have e:k1=k2:=e;exact hne (by rw[e])
 have hsub:∀n∈es.toList.map (fun e:MapEntry=>RowKit.intOf e.key),n∈(List.range B).map (fun n:Nat=>(n:Int)):=by
  intro n hn;obtain⟨e,he,rfl⟩:=List.mem_map.1 hn;obtain⟨k1,v1,a1,a2,_⟩:=h.ints e he;have:=hx k1 (by rw[(h.iff k1 v1).2 ⟨e,he,a1,a2⟩];rfl);rw[a1,List.mem_map];refine⟨k1.toNat,List.mem_range.2 (by omega),?_⟩;show((k1.toNat:Nat):Int)=k1;omega
 have:=hp.length_le_of_subset hsub
 simpa using this
theorem ranges_at{w w':World}{M r n:Nat}{D:DataW Unit}{left:Lit->Bool}{cnt:Nat}(h:w.ranges Try.prog 3 R3 M r n D left cnt)(h1:w'.heap[M]? =w.heap[M]?)(h2:w'.heap[r]? =w.heap[r]?):w'.ranges Try.prog 3 R3 M r n D left cnt:=by
 obtain⟨es,clock,since,seen,c0,a1,a2,a3,a4,a5,a6⟩:=h
 exact⟨es,clock,since,seen,c0,h1.trans a1,a2,a3,a4,h2.trans a5,a6⟩
theorem t8{w:World}{M r n:Nat}{D:DataW Unit}{left:Lit->Bool}{cnt:Nat}(h:w.ranges Try.prog 3 R3 M r n D left cnt){k:Int}(hk:left (.int .i64 k)=true):Maps.has D (.int .i64 k)=true:=by
 obtain⟨es,clock,since,seen,c0,a1,a2,a3,rfl,a5,a6,a7,a8,a9,_⟩:=h
 obtain⟨x,hx,e⟩:=a9 _ hk
 unfold Maps.has
 rw[List.any_eq_true]
 exact⟨_,qC.2 (List.mem_map.2 ⟨x,hx,rfl⟩),by rw[e];simp[Lit.sameKey]⟩
theorem names_at{N:NP}{w0:World}{F0 H:aA}{env:St}{a:Act}{w:World}{F:aA}{S:Nat->aA}(hi:aJ Try.prog N w0 F0 H env a w F S){n0 n1:Int->Option Int}(h:env 12= .box (.arr 2 qT) .shr [n0,n1]):
  ∃b12 p0 p1,a.tmps.getD 12 undef= .pointer (some ⟨b12,0,none⟩)/\b12<w.heap.size/\w.cell? ⟨b12,0,none⟩=some (.map p0)/\w.cell? ⟨b12,1,none⟩=some (.map p1)/\w.frozen? ⟨b12,0,none⟩=false/\w.frozen? ⟨b12,1,none⟩=false/\MapV w F p0 n0/\MapV w F p1 n1:=by
 have he:=hi.ent 12
 rw[h]at he
 obtain⟨pl,S0,cs,hr⟩:=he
 obtain⟨_,_,b,rfl,rfl,hv,hs⟩:=hr.box_inj
 obtain⟨_,hpl,_,hlen,Si,_,_,hel⟩:=hr
 obtain⟨_,_,row,T,hrow,hsz,hseg⟩:=hpl
 have key:∀ {v:Value} {x:Int->Option Int},iI F w .map [v] x->∃p,v= .map p/\MapV w F p x:=by
  rintro v x ⟨v',e,h2⟩
  simp only[List.cons.injEq,and_true]at e;subst e;rcases h2 with⟨rfl,h2⟩|⟨b,es,ck,rfl,h3,h4,h5⟩
  ·exact⟨none,rfl,.inl ⟨rfl,h2⟩⟩
  ·exact⟨some b,rfl,.inr ⟨b,es,ck,rfl,h3,h4,h5⟩⟩
 have hs2:Ty.size (.arr 2 qT)=2:=rfl
 rw[hs2]at hsz hseg
 have hcs:∃v0 v1,cs=[v0,v1]:=by
  rcases cs with _|⟨v0,_|⟨v1,_|⟨v2,r⟩⟩⟩
  ·simp at hlen;exact absurd hlen (by decide)
  ·simp at hlen;exact absurd hlen (by decide)
  ·exact⟨v0,v1,rfl⟩
  ·exact absurd hlen (by show ¬_=2*1;simp)
 obtain⟨v0,v1,rfl⟩:=hcs
 have e0:=hel 0 n0 rfl
 have e1:=hel 1 n1 rfl
 obtain⟨p0,rfl,m0⟩:=key e0
 obtain⟨p1,rfl,m1⟩:=key e1
 have hr0:row[0]? =some (.map p0):=by
  have:=congrArg (fun l=>l[0]?) hseg
  unfold seg at this
  simpa[List.getElem?_take]using this
 have hr1:row[1]? =some (.map p1):=by
  have:=congrArg (fun l=>l[1]?) hseg
  unfold seg at this
  simpa[List.getElem?_take]using this
 exact⟨b,p0,p1,hv,(hi.sb 12 b hs).2.1,by simp[World.cell?,hrow,hr0],by simp[World.cell?,hrow,hr1],by simp[World.frozen?,hrow],by simp[World.frozen?,hrow],m0,m1⟩
end Go.User
