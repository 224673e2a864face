/- Owners that become shared. -/
import Derived.Test.YtagdgckmikcllaaLfd
set_option linter.unusedVariables false
set_option linter.unusedSimpArgs false
namespace Go.Lf

def appE(C:Ctx)(d:Nat)(st:St)(T T2:TypeId)(vx vy:aP):Option (Prop×St):=
 match look C.tys T,look C.tys T2,vx.e,vx.sub? with
 |some (.slice e),some (.slice _),.sub _ _,some al=>match aN al.p al.τ al.x,bI al.p al.τ al.m with
  |some ⟨.slice e',xs⟩,some (.own me)=>match bY (τ:= .slice e') (σ:= .slice e) xs,srcE e me vy with
   |some xs,some (ys,l)=>bif bQ (al.r::l)&& !Nat.beq d al.r then
     some (((List.length xs+List.length ys:Nat):Int)<=bJ,put (lF (dropAll st l) al.r) d (.pend al.r al.p e me (xs++ys)))else none
   |_,_=>none
  |_,_=>none
 |_,_,_,_=>none

section
variable {P:Program} {C:Ctx} {N:NP} {w0:World} {F0 H:aA} {env:St} {a:Act} {w:World} {F:aA} {S:Nat->aA} {d:Nat}

theorem appE_core(hC:aG P C)(hi:aJ P N w0 F0 H env a w F S)(hd:Wr N d){T T2 ty:TypeId}{e e2:Ty}(hT:look C.tys T=some (.slice e))(hT2:look C.tys T2=some (.slice e2))
  {l:Al} {xs ys:List e.den} {me:Md} {pl:aK} {S0:aA} {cs:List Value} {pl':aK} {cs':List Value} (hA:qQ F w env (fun t=>a.tmps.getD t undef) S l (.slice e) xs (.own me) pl S0 cs pl') (hrd:pl'.read w 1=some cs')
  {G2:aA} {v2:Value} {n2 cap2:Nat} {ao2:Option Addr} {cs2:List Value} {Si2:Nat->aA} {used:List Nat}
  (r2:eV P G2 (SL S used) F w e me v2 n2 cap2 ao2 ys cs2 Si2) (hn:bQ (l.r::used)=true) (hdr:d≠l.r) (hlen:((xs.length+ys.length:Nat):Int)<=bJ):
  ∃v w' F2 S2,(Builtin.append_ #[T,T2] ty #[bH (.slice e) cs',v2]).run P w= .ok v w'/\aJ P N w0 F0 H (put (lF (dropAll env used) l.r) d (.pend l.r l.p e me (xs++ys))) (a.put (some d) v) w' F2 S2:=by
 obtain⟨hnr,_⟩:=d8 hn
 obtain⟨cs1',S',f⟩:=hA.focus (fun b hb=>(hi.sb _ b hb).2.2)
 have e0:=f.ok.read.symm.trans hrd
 simp only[Option.some.injEq]at e0;subst e0
 obtain⟨ao1,n1,cap1,c1,Si1,r1,hgr⟩:=eV.of_own (P:=P) (w:=w) (F:=F) (Sx:=S') (v:=bH (.slice e) cs1') (xs:=xs) (me:=me) ⟨cs1',rfl,f.own⟩
 have ev1:=r1.val
 have ev2:=r2.val
 have l1:=r1.len
 have l2:=r2.len
 subst l1;subst l2;subst ev2
 have hcs1:cs1'=[.slice ao1 xs.length cap1]:=by
  obtain⟨ao,cap,q,_⟩:=f.own;rw[q]at ev1⊢;simp only[bH,Ty.isAgg,Bool.false_eq_true,if_false,List.headD_cons]at ev1;rw[ev1]
 obtain⟨g1,g2⟩:=jT (P:=P) (ty:=ty) (w:=w) hC hT hT2 (ao:=ao1) (sLen:=xs.length) (sCap:=cap1) (olds:=c1) (ax:=ao2) (n:=ys.length) (cx:=cap2) (news:=cs2)
  (fun w' hw=>by rw[<-ev1];exact r1.read w' (fun b _=>by rw[hw])) (fun w' hw=>r2.read w' (fun b _=>by rw[hw])) hlen
 rw[<-ev1]at g1 g2
 have hl:(xs++ys).length=xs.length+ys.length:=by simp
 have hm:=hA.mode
 have hS'S:∀b,S' b->S l.r b:=fun b hb=>hA.root.sub b (f.sub b hb)
 have hUr:∀b,SL S used b->¬S l.r b:=by
  rintro b ⟨t,ht,hb⟩ hr
  exact hi.sd t l.r (fun e=>hnr (e▸ht)) b hb hr
 have hUF:∀b,SL S used b->¬F b:=by rintro b ⟨t,ht,hb⟩;exact(hi.sb t b hb).2.2
 by_cases hfit:xs.length+ys.length<=cap1
 ·have g1:=g1 hfit
  rcases hgr with⟨rfl,hc⟩|⟨b,off,row,T0,rfl,hb,hrow,hsz,hcs,hnb⟩
  ·have hx0:xs=[]:=List.eq_nil_of_length_eq_zero (by omega)
   have hy0:ys=[]:=List.eq_nil_of_length_eq_zero (by omega)
   subst hx0;subst hy0;subst hc;obtain⟨S2,h5⟩:=uD (e:=e) (me:=me) (xs:=[]) (ys:=[]) (v:= .slice none 0 0) (used:=used) (X:=none') hi hd hA.root hA.get hA.mode hA.inr hn hdr hA.loc (w':=w) rfl rfl rfl (Nat.le_refl _) (fun _ _ _=>rfl) (fun _ _=>rfl)
    hA.root.2.2 hA.root.2.1 (fun _ _ _ _=>rfl) (fun _ h=>h.elim) (fun S' cs' _=> .nil _ _ _ _ _)
   exact⟨_,_,F,S2,g1,h5⟩
  ·have hn1:∀u∈cs2,u.oneCell'=true:=r2.all_one
   have hl2:=r2.csl
   have hl1:=r1.csl
   have hfit2:off+xs.length*e.size+cs2.length<=row.size:=by
    have:=Nat.mul_le_mul_right e.size hfit
    rw[Nat.add_mul]at this;omega
   have hst:=run_storeCells_at (P:=P) b (off+xs.length*e.size) T0 cs2 0 row w hrow (by omega) hn1
   simp only[Nat.add_zero]at hst;have g1':(Builtin.append_ #[T,T2] ty #[bH (.slice e) cs1',.slice ao2 ys.length cap2]).run P w= .ok (.slice (some ⟨b,off,none⟩) (xs.length+ys.length) cap1)
     (w.setRow b (row.toList.take (off+xs.length*e.size)++cs2++row.toList.drop (off+xs.length*e.size+cs2.length)).toArray):=by
    rw[g1];simp only[sA,kT,hst,Result.andThen]
   generalize hrw:(row.toList.take (off+xs.length*e.size)++cs2++row.toList.drop (off+xs.length*e.size+cs2.length))=jJ at g1'
   generalize hw':w.setRow b jJ.toArray=w' at g1'
   have hrow':w'.heap[b]? =some (.cells jJ.toArray T0 (0,0)):=by
    rw[<-hw'];simp[World.setRow,Array.getElem?_modify,hrow]
   have hoth:∀k,k≠b->w'.heap[k]? =w.heap[k]? :=by
    intro k hk;rw[<-hw'];simp only[World.setRow,Array.getElem?_modify];rw[if_neg (Ne.symm hk)]
   have hsize:w'.heap.size=w.heap.size:=by rw[<-hw'];simp[World.setRow]
   have hrl:jJ.length=row.size:=by rw[<-hrw];simp;omega
   have hseg:∀o n,o+n<=off+xs.length*e.size->seg jJ o n=seg row.toList o n:=by
    intro o n ho;rw[<-hrw];exact fO _ _ _ _ rfl (by simpa using hfit2) _ _ (by simp;omega) (.inl ho)
   have hbr:S l.r b:=hS'S b hb
   have htail:TailW w w' b (off+xs.length*e.size):=⟨hoth,row,jJ.toArray,T0,hrow,hrow',by simpa using hrl,fun o n ho=>by simpa using hseg o n ho⟩
   have hrd1:pl'.read w 1=some [.slice (some ⟨b,off,none⟩) xs.length cap1]:=by rw[hrd,hcs1]
   have hroot':Own F w' l.τ l.m S0 cs l.x/\∀q μ,bI q l.τ l.m=some μ->inR q l.τ l.x->loc w' q l.τ pl=loc w q l.τ pl:=by
    by_cases hc0:cap1=0
    ·have hy0:ys=[]:=List.eq_nil_of_length_eq_zero (by omega)
     have hc2:cs2=[]:=by subst hy0;exact List.eq_nil_of_length_eq_zero (by simpa using hl2)
     have hr2:jJ=row.toList:=by rw[<-hrw,hc2];simp
     have hall:∀k:Nat,w'.heap[k]? =w.heap[k]? :=by
      intro k;by_cases hk:k=b
      ·subst hk;rw[hrow',hrow,hr2]
      ·exact hoth k hk
     refine⟨hA.root.2.2.congr (fun b _=>hall b) (fun b _=>hall b),fun q μ hq hr=> ?_⟩
     exact cQ q hA.root.2.2 hA.root.2.1.read ((aK.read_congr (fun k _=>hall k)).trans hA.root.2.1.read) hq hr (fun b _=>hall b)
    ·exact(gY htail l.p (fun k hk=>(hi.sb _ k (hA.root.sub k hk)).2.2) hA.root.2.2 hA.root.2.1 hA.get hA.mode hA.inr hA.loc hrd1 (by omega)).2
   have hplb:∀k,pl.isB k->k≠b:=by
    intro k hk e;have h0:=hA.root.2.1;have hk':pl.isB b:=e▸hk;cases pl with
    |val _=>exact hk
    |mem b0 o0=>have h1:b=b0:=hk';rw[<-h1]at h0;exact h0.1 (f.sub b hb)
   have hpl'b:∀k,pl'.isB k->k≠b:=by
    intro k hk e;have h0:=f.ok;have hk':pl'.isB b:=e▸hk;cases pl' with
    |val _=>exact hk
    |mem b0 o0=>have h1:b=b0:=hk';rw[<-h1]at h0;exact h0.1 hb
   obtain⟨S2,h5⟩:=uD (e:=e) (me:=me) (xs:=xs) (ys:=ys) (v:= .slice (some ⟨b,off,none⟩) (xs.length+ys.length) cap1) (used:=used) (X:=SL S used) hi hd hA.root hA.get hA.mode hA.inr hn hdr hA.loc (w':=w')
    (by rw[<-hw'];rfl) (by rw[<-hw'];rfl) (by rw[<-hw'];rfl) (by omega) (fun k hk hH=>hoth k (fun e=>by subst e;exact(hi.sb _ k hbr).1.elim (fun h=>by omega) hH))
    (by
     rintro k (hk|⟨t,ht,_,hk⟩)
     ·exact hoth k (fun e=>(hi.sb _ b hbr).2.2 (e▸hk))
     ·exact hoth k (fun e=>hi.sd t l.r ht b (e▸hk) hbr))
    hroot'.1 (hA.root.2.1.congr (fun k hk=>hoth k (hplb k hk))) hroot'.2 (fun b hb=> .inl hb)
    (by
     intro S2 cs2' f2;have hrd2:pl'.read w' 1=some [.slice (some ⟨b,off,none⟩) xs.length cap1]:=(aK.read_congr (fun k hk=>hoth k (hpl'b k hk))).trans hrd1
     have e1:=f2.ok.read.symm.trans hrd2
     simp only[Option.some.injEq]at e1;subst e1;obtain⟨ao,cap,q1,q2,q3,q4⟩:=f2.own;simp only[List.cons.injEq,Value.slice.injEq,and_true,true_and]at q1;obtain⟨rfl,rfl⟩:=q1;rcases q4 with⟨q4,_⟩|⟨b',off',row',T',Si',q4,q5,q6,q7,q8,q9,q10,q11⟩
     ·cases q4
     injection q4 with q4;injection q4 with q4 q4';subst q4;subst q4';rw[hrow']at q6;injection q6 with q6;injection q6 with q6;subst q6;rw[<-hl];refine⟨_,rfl,_,cap1,rfl,by omega,by rw[hl];exact fJ hlen,.inr ⟨b,off,jJ.toArray,T',SiA xs.length Si' Si2,rfl,.inl q5,by rw[hrow'];congr 1;congr 1<;>simp_all,?_,?_,?_,?_,?_⟩⟩
     ·simp;omega
     ·intro i k hk
      unfold SiA at hk;split at hk
      ·exact .inl (q8 i k hk)
      ·exact .inr (r2.sub _ k hk)
     ·intro i h
      unfold SiA at h;split at h
      ·exact q9 _ h
      ·exact hUr b (r2.sub _ b h) hbr
     ·exact qM (X:=S2) (Y:=SL S used) q8 r2.sub (fun k h1 h2=>hUr k h2 (hA.root.sub k (f2.sub k h1))) q10 r2.dis
     ·intro i x hx'
      unfold SiA;by_cases hi':i<xs.length
      ·simp only[hi',if_true]
       rw[List.getElem?_append_left hi']at hx';exact q11 i x hx'
      ·simp only[hi',if_false]
       rw[List.getElem?_append_right (by omega)]at hx';have hj:i-xs.length<ys.length:=by
        rcases Nat.lt_or_ge (i-xs.length) ys.length with h|h
        ·exact h
        ·rw[List.getElem?_eq_none h]at hx';cases hx'
       have hle:(i-xs.length+1)*e.size<=ys.length*e.size:=Nat.mul_le_mul_right _ (by omega)
       rw[Nat.add_mul,Nat.one_mul]at hle;have h1:=jS row.toList (off+xs.length*e.size) cs2.length cs2 rfl (by simpa using hfit2);rw[hrw]at h1;have h2:=dV jJ (off+xs.length*e.size) cs2.length ((i-xs.length)*e.size) e.size (by omega);rw[h1]at h2;have h3:off+i*e.size=off+xs.length*e.size+(i-xs.length)*e.size:=by
        have:i*e.size=xs.length*e.size+(i-xs.length)*e.size:=by rw[<-Nat.add_mul];congr 1;omega
        omega
       have h4:=(r2.own _ x hx').congr (w':=w') (fun k hk=>hoth k (fun e=>(hi.sb _ b hbr).2.2 (e▸hk))) (fun k hk=>hoth k (fun e=>hUr b (e▸r2.sub _ k hk) hbr))
       rw[h2]at h4;simp only[h3];exact h4)
   exact⟨_,_,F,S2,g1',h5⟩
 ·obtain⟨cap,zs,E,k1,k2,k3⟩:=g2 (by omega)
  generalize hw':w.drew.alloc (.cells (c1++cs2++zs).toArray E)=w' at k3
  have hbel:RowKit.Below w.heap.size w w':=by rw[<-hw'];exact(RowKit.Below.refl _ _).drew.alloc (Nat.le_refl _) _
  have hsz:w'.heap.size=w.heap.size+1:=by rw[<-hw'];simp
  have hnew:w'.heap[w.heap.size]? =some (.cells (c1++cs2++zs).toArray E (0,0)):=by rw[<-hw'];exact lO w.drew _
  have hold:∀k,k<w.heap.size->w'.heap[k]? =w.heap[k]? :=hbel.block
  have hSlt:∀t b,S t b->b<w.heap.size:=fun t b hb=>(hi.sb t b hb).2.1
  have hplb:∀k,pl.isB k->k<w.heap.size:=fun k hk=>hSlt l.r k (hA.root.isB hk)
  obtain⟨S2,h5⟩:=uD (e:=e) (me:=me) (xs:=xs) (ys:=ys) (v:= .slice (some ⟨w.heap.size,0,none⟩) (xs.length+ys.length) cap) (used:=used) (X:=fun b=>SL S used b∨b=w.heap.size) hi hd hA.root hA.get hA.mode hA.inr hn hdr hA.loc (w':=w')
   hbel.os hbel.tape hbel.output (by omega) (fun k hk _=>hold k (Nat.lt_of_lt_of_le hk hi.size))
   (by
    rintro k (hk|⟨t,_,_,hk⟩)
    ·exact hold k (hi.fb k hk)
    ·exact hold k (hSlt t k hk))
   (hA.root.2.2.congr (fun b hb=>hold b (hi.fb b hb)) (fun b hb=>hold b (hSlt _ b (hA.root.sub b hb)))) (hA.root.2.1.congr (fun k hk=>hold k (hplb k hk)))
   (fun q μ hq hr=>cQ q hA.root.2.2 hA.root.2.1.read ((aK.read_congr (fun k hk=>hold k (hplb k hk))).trans hA.root.2.1.read) hq hr (fun b hb=>hold b (hSlt _ b (hA.root.sub b hb))))
   (fun b hb=>hb.elim .inl (fun h=> .inr ⟨h,by omega⟩))
   (by
    intro S2 cs2' f2;have hrd2:pl'.read w' 1=some cs1':=by
     refine(aK.read_congr (fun k hk=>hold k ?_)).trans hrd
     exact(f.blk k hk).elim (fun h=>hSlt _ k (hA.root.sub k h)) (hplb k)
    have e1:=f2.ok.read.symm.trans hrd2
    simp only[Option.some.injEq]at e1;subst e1;obtain⟨ao',n',cap',c1',Si1',r1',hgr'⟩:=eV.of_own (P:=P) (w:=w') (F:=F) (Sx:=S2) (v:=bH (.slice e) cs2') (xs:=xs) (me:=me) ⟨cs2',rfl,f2.own⟩;have e2:=ev1.symm.trans r1'.val;injection e2 with e2 e3 e4;subst e2;subst e3;subst e4;have hcc:c1'=c1:=by
     rcases hgr with⟨h1,h2⟩|⟨b,off,row,T0,h1,hb,hrow,hsz',hcs,hnb⟩
     ·have hx0:xs=[]:=List.eq_nil_of_length_eq_zero (by have:=r1.le;omega)
      have q1:=r1.csl;have q2:=r1'.csl
      rw[hx0]at q1 q2;simp only[List.length_nil,Nat.zero_mul]at q1 q2;rw[List.eq_nil_of_length_eq_zero q1,List.eq_nil_of_length_eq_zero q2]
     ·rcases hgr' with⟨h1',h2'⟩|⟨b',off',row',T0',h1',hb',hrow',hsz'',hcs',hnb'⟩
      ·rw[h1]at h1';cases h1'
      ·rw[h1]at h1'
       injection h1' with h1';injection h1' with h1' h1'';subst h1';subst h1'';rw[hold b (hSlt l.r b (hS'S b hb)),hrow]at hrow';injection hrow' with hrow';injection hrow' with hrow';rw[hcs,hcs',hrow']
    subst hcc;have hown:=aT.newRow (G:=F) (w':=w') (e:=e) (me:=me) (b:=w.heap.size) (row:=(c1'++cs2++zs).toArray) (T:=E)
     (Sd:=fun k=>S2 k∨SL S used k∨k=w.heap.size) (xs:=xs++ys) (cap:=cap) (Si:=SiA xs.length Si1' Si2) (.inr (.inr rfl)) hnew
     (by
      have:=r1.csl;have:=r2.csl
      have hmul:cap*e.size=xs.length*e.size+ys.length*e.size+(cap-(xs.length+ys.length))*e.size:=by
       rw[<-Nat.add_mul,<-Nat.add_mul];congr 1;omega
      simp;omega) (by rw[hl];omega) (by rw[hl];exact fJ hlen)
     (by
      intro i k hk;unfold SiA at hk;split at hk
      ·exact .inl (r1'.sub _ k hk)
      ·exact .inr (.inl (r2.sub _ k hk)))
     (by
      intro i hk;unfold SiA at hk;split at hk
      ·have:=hSlt l.r _ (hA.root.sub _ (f2.sub _ (r1'.sub _ _ hk)));omega
      ·obtain⟨t,_,hb⟩:=r2.sub _ _ hk
       have:=hSlt t _ hb;omega)
     (qM (X:=S2) (Y:=SL S used) r1'.sub r2.sub (fun k h1 h2=>hUr k h2 (hA.root.sub k (f2.sub k h1))) r1'.dis r2.dis)
     (by
      have:=x8 (F:=F) (w':=w') (c3:=zs) (A:=Si1') (B:=Si2) r1'.csl r2.csl (fun i x hx'=>r1'.own i x hx')
       (fun i x hx'=>(r2.own i x hx').congr (fun b hb=>hold b (hi.fb b hb)) (fun b hb=>by obtain⟨t,_,hb⟩:=r2.sub _ b hb;exact hold b (hSlt t b hb)))
      simpa using this)
    rw[hl]at hown;exact hown)
  exact⟨_,_,F,S2,k3,h5⟩
end
end Go.Lf
namespace Go.Lf

def preP:cM->cM->Prop
 | [],_=>True
 |x::q,y::p=>x=y/\preP q p
 |_::_,[]=>False
theorem uC:∀ {q p:cM},preP q p->∃s,p=q++s
 | [],p,_=>⟨p,rfl⟩
 |x::q,y::p,h=>by
  obtain⟨s,hs⟩:=uC h.2;exact⟨s,by rw[h.1,hs];rfl⟩
def sW:cM->cM->Bool
 | .fst::q,.fst::p=>sW q p
 | .fst::_,.snd::_=>true
 | .snd::_,.fst::_=>true
 | .snd::q,.snd::p=>sW q p
 | .idx _::q,.idx _::p=>sW q p
 |_,_=>false
def iP(r:Nat)(p:cM)(e:Ent):Prop:=match e with
 | .addr _ _=>True
 | .sub r' q=>bif Nat.beq r' r then(bif sW q p then True else preP q p)else True
 |e=>match e.root with
  |some r'=>bif Nat.beq r' r then False else True
  |none=>True
theorem zB{r:Nat}{p:cM}{e:Ent}(h:iP r p e):e.root≠some r∨(∃q,e= .addr r q)∨∃q,e= .sub r q/\(sW q p=true∨preP q p):=by
 unfold iP at h
 split at h
 ·rename_i r' q
  by_cases hr:r'=r
  ·subst hr;exact .inr (.inl ⟨q,rfl⟩)
  ·left;simp[Ent.root,hr]
 ·rename_i r' q
  by_cases hr:r'=r
  ·subst hr
   rw[Nat.beq_refl]at h;refine .inr (.inr ⟨q,rfl,?_⟩);cases hd:sW q p
   ·rw[hd]at h;exact .inr h
   ·exact .inl rfl
  ·left;simp[Ent.root,hr]
 ·left
  split at h
  ·rename_i r' hr
   rw[hr];intro he;injection he with he;subst he;rw[Nat.beq_refl]at h;exact h
  ·rename_i hr
   rw[hr];simp

theorem lH:∀(p q:cM) (τ:Ty) (x:τ.den) {σ:Ty} {y:σ.den},aN p τ x=some ⟨σ,y⟩->inR (p++q) τ x->inR q σ y
 | [],q,τ,x,σ,y,h,h1=>by
  simp only[aN,Option.some.injEq,Sigma.mk.injEq]at h;obtain⟨rfl,h⟩:=h;cases h;exact h1
 | .fst::p,q,.prod a b,x,_,_,h,h1=>lH p q a x.1 h h1
 | .snd::p,q,.prod a b,x,_,_,h,h1=>lH p q b x.2 h h1
 | .idx i::p,q,.slice e,x,_,_,h,h1=>lH p q e _ h h1.2
 | .idx i::p,q,.arr n e,x,_,_,h,h1=>lH p q e _ h h1.2
 | .fst::_,_,.int _,_,_,_,h,_=>by simp[aN]at h
 | .fst::_,_,.bool,_,_,_,h,_=>by simp[aN]at h
 | .fst::_,_,.str,_,_,_,h,_=>by simp[aN]at h
 | .fst::_,_,.abs _,_,_,_,h,_=>by simp[aN]at h
 | .fst::_,_,.unit,_,_,_,h,_=>by simp[aN]at h
 | .fst::_,_,.slice _,_,_,_,h,_=>by simp[aN]at h
 | .fst::_,_,.arr _ _,_,_,_,h,_=>by simp[aN]at h
 | .snd::_,_,.int _,_,_,_,h,_=>by simp[aN]at h
 | .snd::_,_,.bool,_,_,_,h,_=>by simp[aN]at h
 | .snd::_,_,.str,_,_,_,h,_=>by simp[aN]at h
 | .snd::_,_,.abs _,_,_,_,h,_=>by simp[aN]at h
 | .snd::_,_,.unit,_,_,_,h,_=>by simp[aN]at h
 | .snd::_,_,.slice _,_,_,_,h,_=>by simp[aN]at h
 | .snd::_,_,.arr _ _,_,_,_,h,_=>by simp[aN]at h
 | .idx _::_,_,.int _,_,_,_,h,_=>by simp[aN]at h
 | .idx _::_,_,.bool,_,_,_,h,_=>by simp[aN]at h
 | .idx _::_,_,.str,_,_,_,h,_=>by simp[aN]at h
 | .idx _::_,_,.abs _,_,_,_,h,_=>by simp[aN]at h
 | .idx _::_,_,.unit,_,_,_,h,_=>by simp[aN]at h
 | .idx _::_,_,.prod _ _,_,_,_,h,_=>by simp[aN]at h

theorem dis_ok{F:aA}{w w':World}{b off cap:Nat}{e:Ty}{xs:List e.den}{me:Md}(ht:TailW w w' b (off+xs.length*e.size)):
  ∀(q p:cM) {τ:Ty} {m:Md} {S:aA} {pl pl' pl2:aK} {cs:List Value} {x:τ.den} {σ:Ty} {y:σ.den} {μ:Md},sW q p=true->
   (∀k,S k->¬F k)->Own F w τ m S cs x->fM F S w pl τ.size cs->aN p τ x=some ⟨.slice e,xs⟩->bI p τ m=some (.own me)->inR p τ x->loc w p τ pl=some (.slice e,pl')->
   pl'.read w 1=some [.slice (some ⟨b,off,none⟩) xs.length cap]->0<cap->
   aN q τ x=some ⟨σ,y⟩->bI q τ m=some μ->inR q τ x->loc w q τ pl=some (σ,pl2)->¬pl2.isB b:=by
 have nob:∀ {S:aA} {pl:aK} {n:Nat} {cs:List Value},fM F S w pl n cs->S b->¬pl.isB b:=by
  intro S pl n cs h hS hk;cases pl with
  |val _=>exact hk
  |mem b0 o0=>cases hk;exact h.1 hS
 intro q
 induction q with
 |nil=>intro p τ m S pl pl' pl2 cs x σ y μ h;cases p<;>simp[sW]at h
 |cons s q ih=>
  intro p τ m S pl pl' pl2 cs x σ y μ hdis hd hO hP hg hm hr hl hrd hcap hgq hmq hrq hlq;cases p with
  |nil=>cases s<;>simp[sW]at hdis
  |cons t p=>
   cases s<;>cases t<;>first|(simp[sW]at hdis;done)|skip
   ·
    cases τ<;>first|(simp[aN]at hg;done)|skip
    obtain⟨c1,c2,S1,S2,rfl,s1,s2,d,o1,o2⟩:=hO;have h1:=hP.part s1 (by simp[Ty.size]) (bP _ _ _ o1.len);exact ih p hdis (fun k hk=>hd k (s1 k hk)) o1 h1 hg hm hr hl hrd hcap hgq hmq hrq hlq
   ·
    cases τ<;>first|(simp[aN]at hg;done)|skip
    obtain⟨c1,c2,S1,S2,rfl,s1,s2,d,o1,o2⟩:=hO;have h1:=hP.part s1 (by simp[Ty.size]) (bP _ _ _ o1.len);have h2:=hP.part s2 (by simp[Ty.size]) (bL _ _ _ _ o1.len o2.len);have hb:=(gY ht p (fun k hk=>hd k (s2 k hk)) o2 h2 hg hm hr hl hrd hcap).1
    obtain⟨pl3,cs3,Sq,f⟩:=focus q (fun k hk=>hd k (s1 k hk)) o1 h1 hgq hmq hrq
    have e1:=f.loc.symm.trans hlq
    simp only[Option.some.injEq,Prod.mk.injEq,true_and]at e1;subst e1;intro hk;rcases f.blk b hk with h|h
    ·exact d b h hb
    ·exact nob hP (s2 b hb) (aK.part_isB.1 h)
   ·
    cases τ<;>first|(simp[aN]at hg;done)|skip
    obtain⟨c1,c2,S1,S2,rfl,s1,s2,d,o1,o2⟩:=hO;have h1:=hP.part s1 (by simp[Ty.size]) (bP _ _ _ o1.len);have h2:=hP.part s2 (by simp[Ty.size]) (bL _ _ _ _ o1.len o2.len);have hb:=(gY ht p (fun k hk=>hd k (s1 k hk)) o1 h1 hg hm hr hl hrd hcap).1
    obtain⟨pl3,cs3,Sq,f⟩:=focus q (fun k hk=>hd k (s2 k hk)) o2 h2 hgq hmq hrq
    have e1:=f.loc.symm.trans hlq
    simp only[Option.some.injEq,Prod.mk.injEq,true_and]at e1;subst e1;intro hk;rcases f.blk b hk with h|h
    ·exact d b hb h
    ·exact nob hP (s1 b hb) (aK.part_isB.1 h)
   ·
    cases τ<;>first|(simp[aN]at hg;done)|skip
    obtain⟨c1,c2,S1,S2,rfl,s1,s2,d,o1,o2⟩:=hO;have h2:=hP.part s2 (by simp[Ty.size]) (bL _ _ _ _ o1.len o2.len);exact ih p hdis (fun k hk=>hd k (s2 k hk)) o2 h2 hg hm hr hl hrd hcap hgq hmq hrq hlq
   ·
    rename_i j i;cases τ<;>first|(simp[aN]at hg;done)|skip
    ·rename_i E
     cases m<;>first|(simp[bI]at hm;done)|skip
     rename_i me0;obtain⟨ao,cap0,rfl,hc,hlim,h⟩:=hO;obtain⟨hi,hr⟩:=hr;obtain⟨hj,hrq⟩:=hrq;have hi:i<List.length x:=hi;have hj:j<List.length x:=hj;rcases h with⟨_,h⟩|⟨b1,off1,row,T,Si,rfl,hb,hrow,hsz,s,nb,d,he⟩
     ·omega
     have hle:(i+1)*E.size<=cap0*E.size:=Nat.mul_le_mul_right _ (by omega)
     rw[Nat.add_mul,Nat.one_mul]at hle;have hle2:(j+1)*E.size<=cap0*E.size:=Nat.mul_le_mul_right _ (by omega);rw[Nat.add_mul,Nat.one_mul]at hle2;have r1:pl.read w 1=_:=hP.read;have hl2:loc w p E (.mem b1 (off1+i*E.size))=some (.slice e,pl'):=by
      simp only[loc,r1]at hl
      rwa [if_pos hi]at hl
     have hlq2:loc w q E (.mem b1 (off1+j*E.size))=some (σ,pl2):=by
      simp only[loc,r1]at hlq
      rwa [if_pos hj]at hlq
     have hpi:fM F (Si i) w (.mem b1 (off1+i*E.size)) E.size _:=⟨nb i,hd _ hb,row,T,hrow,by omega,rfl⟩
     have hpj:fM F (Si j) w (.mem b1 (off1+j*E.size)) E.size _:=⟨nb j,hd _ hb,row,T,hrow,by omega,rfl⟩
     by_cases hji:j=i
     ·subst hji
      exact ih p hdis (fun k hk=>hd k (s j k hk)) (Own.list_get he hj) hpj hg hm hr hl2 hrd hcap hgq hmq hrq hlq2
     ·have hbi:=(gY ht p (fun k hk=>hd k (s i k hk)) (Own.list_get he hi) hpi hg hm hr hl2 hrd hcap).1
      obtain⟨pl3,cs3,Sq,f⟩:=focus q (fun k hk=>hd k (s j k hk)) (Own.list_get he hj) hpj hgq hmq hrq
      have e1:=f.loc.symm.trans hlq2
      simp only[Option.some.injEq,Prod.mk.injEq,true_and]at e1;subst e1;intro hk;rcases f.blk b hk with h|h
      ·exact d i j (Ne.symm hji) b hbi h
      ·cases h;exact nb i hbi
    ·rename_i n E
     obtain⟨hn,hlen,Si,s,d,he⟩:=hO;obtain⟨hi,hr⟩:=hr;obtain⟨hj,hrq⟩:=hrq;have hi:i<List.length x:=hi;have hj:j<List.length x:=hj;have hle:(i+1)*E.size<=n*E.size:=Nat.mul_le_mul_right _ (by omega);rw[Nat.add_mul,Nat.one_mul]at hle;have hle2:(j+1)*E.size<=n*E.size:=Nat.mul_le_mul_right _ (by omega);rw[Nat.add_mul,Nat.one_mul]at hle2;have hl2:loc w p E (pl.part (i*E.size) E.size)=some (.slice e,pl'):=by
      simp only[loc]at hl
      rwa [if_pos (by omega)]at hl
     have hlq2:loc w q E (pl.part (j*E.size) E.size)=some (σ,pl2):=by
      simp only[loc]at hlq
      rwa [if_pos (by omega)]at hlq
     have hpi:=hP.part (s i) (o:=i*E.size) (k:=E.size) (by simpa[Ty.size]using hle) rfl
     have hpj:=hP.part (s j) (o:=j*E.size) (k:=E.size) (by simpa[Ty.size]using hle2) rfl
     by_cases hji:j=i
     ·subst hji
      exact ih p hdis (fun k hk=>hd k (s j k hk)) (Own.list_get he hj) hpj hg hm hr hl2 hrd hcap hgq hmq hrq hlq2
     ·have hbi:=(gY ht p (fun k hk=>hd k (s i k hk)) (Own.list_get he hi) hpi hg hm hr hl2 hrd hcap).1
      obtain⟨pl3,cs3,Sq,f⟩:=focus q (fun k hk=>hd k (s j k hk)) (Own.list_get he hj) hpj hgq hmq hrq
      have e1:=f.loc.symm.trans hlq2
      simp only[Option.some.injEq,Prod.mk.injEq,true_and]at e1;subst e1;intro hk;rcases f.blk b hk with h|h
      ·exact d i j (Ne.symm hji) b hbi h
      ·exact nob hP (s i b hbi) (aK.part_isB.1 h)

section
variable {P:Program} {C:Ctx} {N:NP} {w0:World} {F0 H:aA} {env:St} {a:Act} {w:World} {F:aA} {S:Nat->aA} {d:Nat}

theorem rH(hi:aJ P N w0 F0 H env a w F S)(hd:Wr N d){r:Nat}{p:cM}{τ:Ty}{m:Md}{x:τ.den}{pl pl':aK}{S0:aA}{cs:List Value}{e:Ty}{me:Md}{xs ys:List e.den}{used:List Nat}{v:Value}
  (hR:fH F w (S r) (a.tmps.getD r undef) (env r) τ m x pl S0 cs) (hg:aN p τ x=some ⟨.slice e,xs⟩) (hm:bI p τ m=some (.own me)) (hir:inR p τ x) (hn:bQ (r::used)=true) (hdr:d≠r)
  (hl:loc w p τ pl=some (.slice e,pl')) {w':World} (h1:w'.os=w.os) (h2:w'.tape=w.tape) (h3:w'.output=w.output) (h4:w.heap.size<=w'.heap.size) (h6:∀k,k<w0.heap.size->¬H k->w'.heap[k]? =w.heap[k]?)
  (h5:∀b,F b∨(∃t,t≠r/\t∉used/\S t b)->w'.heap[b]? =w.heap[b]?)
  (hO:Own F w' τ m S0 cs x) (hPl:fM F S0 w' pl τ.size cs) (hloc:∀q μ,bI q τ m=some μ->inR q τ x->loc w' q τ pl=loc w q τ pl)
  (hok:∀t,iP r p (Go.Lf.dropAll env used t)) (hsub:∀q σ y μ pl2,(sW q p=true∨preP q p)->aN q τ x=some ⟨σ,y⟩->bI q τ m=some μ->inR q τ x->loc w q τ pl=some (σ,pl2)->pl2.read w' σ.size=pl2.read w σ.size)
  {X:aA} (hX:∀b,X b->SL S used b∨(b=w.heap.size/\b<w'.heap.size))
  (hval:∀S' cs',vU F w' τ m S0 pl x p (.slice e) xs (.own me) pl' cs' S'->aT F w' (.slice e) (.own me) (fun k=>S' k∨X k) v (xs++ys)):
  ∃S2,aJ P N w0 F0 H (Go.Lf.put (Go.Lf.dropAll env used) d (.pend r p e me (xs++ys))) (a.put (some d) v) w' F S2:=by
 obtain⟨hnr,_⟩:=d8 hn
 have hi2:=hi.dropAll' used
 have ho:(env r).isOwner=true:=hR.isOwner
 have hdrop:=gO used ho hnr
 have hXS:∀b,X b->(w0.heap.size<=b∨H b)/\b<w'.heap.size/\¬F b/\∀t,t∉used->¬S t b:=by
  intro b hb;rcases hX b hb with⟨u,hu,h⟩|⟨rfl,h⟩
  ·obtain⟨q1,q2,q3⟩:=hi.sb u b h
   exact⟨q1,by omega,q3,fun t ht hk=>hi.sd t u (fun e=>ht (e▸hu)) b hk h⟩
  ·exact⟨.inl hi.size,h,fun hf=>by have:=hi.fb _ hf;omega,fun t _ ht=>by have:=(hi.sb t _ ht).2.1;omega⟩
 have hXr:∀k,X k->¬S0 k/\¬pl.isB k:=fun k hk=>⟨fun h=>(hXS k hk).2.2.2 r hnr (hR.sub k h),fun h=>(hXS k hk).2.2.2 r hnr (hR.isB h)⟩
 have hR':fH F w' (fun k=>S r k∨X k) (a.tmps.getD r undef) (env r) τ m x pl (fun k=>S0 k∨X k) cs:=by
  refine⟨?_,?_,hO.mono (fun _ h=>h) (fun k hk=> .inl hk)⟩
  ·rcases hR.1 with⟨g1,g2,g3,g4⟩|⟨g1,b,g2,g3,g4,g5⟩
   ·left;exact⟨g1,g2,by rw[g3],g4⟩
   ·right
    refine⟨g1,b,g2,?_,g4,.inl g5⟩
    rw[g3]
    funext k
    apply propext
    constructor
    ·rintro (⟨h,h'⟩|h)
     ·exact⟨.inl h,h'⟩
     ·exact⟨.inr h,fun e=>(hXr k h).2 (by rw[g2,e];rfl)⟩
    ·rintro⟨h|h,h'⟩
     ·exact .inl ⟨h,h'⟩
     ·exact .inr h
  ·cases pl with
   |val _=>exact hPl
   |mem b off=>
    obtain⟨q1,q2,q3⟩:=hPl;exact⟨fun h=>h.elim q1 (fun h=>(hXr b h).2 rfl),q2,q3⟩
 have hi3:aJ P N w0 F0 H (Go.Lf.dropAll env used) a w' F (fun t=>if t=r then(fun k=>S r k∨X k)else if t∈used then none' else S t):=by
  refine⟨h1.trans hi.os,h2.trans hi.tape,h3.trans hi.output,Nat.le_trans hi.size h4,fun k hk hH=>(h6 k hk hH).trans (hi.block k hk hH),fun b hb=>Nat.lt_of_lt_of_le (hi.fb b hb) h4,hi.f0,hi.fn,?_,?_,?_,hi.defers,hi.slots⟩
  ·intro t b ht
   by_cases h:t=r
   ·simp only[h,if_true]at ht
    rcases ht with ht|ht
    ·obtain⟨g1,g2,g3⟩:=hi.sb r b ht;exact⟨g1,by omega,g3⟩
    ·exact⟨(hXS b ht).1,(hXS b ht).2.1,(hXS b ht).2.2.1⟩
   ·simp only[h,if_false]at ht
    split at ht
    ·exact ht.elim
    ·obtain⟨g1,g2,g3⟩:=hi.sb t b ht;exact⟨g1,by omega,g3⟩
  ·have aux:∀t b,t≠r->(if t∈used then none' else S t) b->¬(S r b∨X b):=by
    intro t b ht hb hx;split at hb
    ·exact hb
    ·rename_i htu
     rcases hx with hx|hx
     ·exact hi.sd t r ht b hb hx
     ·exact(hXS b hx).2.2.2 t htu hb
   intro t u htu b hb1 hb2;by_cases h:t=r
   ·simp only[h,if_true]at hb1
    have hu:u≠r:=fun e=>htu (h.trans e.symm)
    simp only[hu,if_false]at hb2;exact aux u b hu hb2 hb1
   ·simp only[h,if_false]at hb1
    by_cases h':u=r
    ·simp only[h',if_true]at hb2
     exact aux t b h hb1 hb2
    ·simp only[h',if_false]at hb2
     split at hb1
     ·exact hb1
     ·split at hb2
      ·exact hb2
      ·exact hi.sd t u htu b hb1 hb2
  ·intro t
   by_cases h:t=r
   ·subst h
    rw[hdrop];rcases hR.1 with⟨g1,_⟩|⟨g1,_⟩
    ·rw[g1]at hR'⊢
     simp only[aF,if_true];exact⟨_,_,_,hR'⟩
    ·rw[g1]at hR'⊢
     simp only[aF,if_true];exact⟨_,_,_,hR'⟩
   ·have hent:=hi2.ent t
    rcases zB (hok t)with hk2|⟨p2,hk2⟩|⟨p2,hk2,hpre⟩
    ·refine aF.keep (fun _ h=>h) (fun b hb=>h5 b (.inl hb)) rfl ?_ ?_ hent
     ·intro q hq
      have hqr:q≠r:=fun e=>hk2 (e▸hq)
      refine⟨fun _=>rfl,fun _=>rfl,by simp[hqr],fun b hb=> ?_,fun b h1 h2=>absurd h1 h2,fun b hb=>(hi2.sb q b hb).2.2⟩
      split at hb
      ·exact hb.elim
      ·rename_i hqu;exact h5 b (.inr ⟨q,hqr,hqu,hb⟩)
     ·intro _
      refine⟨by simp[h],fun b hb=> ?_,fun b h1 h2=>absurd h1 h2⟩
      split at hb
      ·exact hb.elim
      ·rename_i htu;exact h5 b (.inr ⟨t,h,htu,hb⟩)
    ·rw[hk2]at hent⊢
     simp only[aF]at hent⊢;obtain⟨τ1,m1,x1,pl1,S1,cs1,σ,μ,b,off,g1,g2,g4,g5,g6,g7⟩:=hent;rw[hdrop]at g1;simp only[hnr,if_false]at g1;obtain⟨e1,e2,e3,e4⟩:=g1.uniq hR;injection e1 with e5 e6;subst e5;cases e6;subst e2;subst e3;subst e4;rw[<-hdrop]at hR';simp only[if_true];exact⟨_,_,_,_,_,_,σ,μ,b,off,hR',(hloc p2 μ g6 g7).trans g2,g4,g5,g6,g7⟩
    ·rw[hk2]at hent⊢
     simp only[aF]at hent⊢;obtain⟨τ1,m1,x1,pl1,S1,cs1,σ,μ,pl3,cs3,g1,g2,g3,g4,g5,g6,g7⟩:=hent;rw[hdrop]at g1;simp only[hnr,if_false]at g1;obtain⟨e1,e2,e3,e4⟩:=g1.uniq hR;injection e1 with e5 e6;subst e5;cases e6;subst e2;subst e3;subst e4;rw[<-hdrop]at hR';simp only[if_true];obtain⟨⟨σ0,y0⟩,hg0⟩:=Option.isSome_iff_exists.1 g5;have hσ:σ0=σ:=by
      obtain⟨pl4,cs4,S4,f4⟩:=focus p2 (fun b hb=>(hi.sb r b (hR.sub b hb)).2.2) hR.2.2 hR.2.1 hg0 g6 g7
      have:=f4.loc.symm.trans g2
      simp only[Option.some.injEq,Prod.mk.injEq]at this;exact this.1
     subst hσ;exact⟨_,_,_,_,_,_,σ0,μ,pl3,cs3,hR',(hloc p2 μ g6 g7).trans g2,(hsub p2 σ0 y0 μ pl3 hpre hg0 g6 g7 g2).trans g3,g4,g5,g6,g7⟩
 have hdisj:∀b,S0 b->¬F b:=fun b hb=>(hi.sb r b (hR.sub b hb)).2.2
 obtain⟨pl2,cs',S',f⟩:=focus p hdisj hO hPl hg hm hir
 have hpl:pl2=pl':=by
  have:=f.loc.symm.trans ((hloc p _ hm hir).trans hl)
  simp only[Option.some.injEq,Prod.mk.injEq,true_and]at this;exact this
 subst hpl
 obtain⟨cp,hv1,hv2⟩:=hval S' cs' f
 have hVd:∀s,(a.put (some d) v).tmps.getD s undef=if s=d then v else a.tmps.getD s undef:=fun s=>Act.getD_put (by rw[hi.slots.size];exact hd.1)
 refine⟨_,hi3.put (Sd:=none') hd (RowKit.Below.refl _ _) (fun _ h=>h) hi3.fb (fun b h1 h2=>absurd h1 h2) (fun _ h=>h.elim) ?_⟩
 have hk:Go.Lf.dropAll env used r=env r:=hdrop
 have henv:Go.Lf.put (Go.Lf.dropAll env used) d (.pend r p e me (xs++ys)) r=env r:=by
  unfold Go.Lf.put;cases (Go.Lf.dropAll env used d).isOwner
  ·simp only[cond_false];rw[bG _ _ (Ne.symm hdr)];exact hk
  ·simp only[cond_true]
   rw[bG _ _ (Ne.symm hdr)];unfold cV eY;rw[hk,Ent.owner_root ho]
 simp only[aF,hVd,if_true,henv,Ne.symm hdr,if_false]
 refine⟨τ,m,x,pl,fun k=>S0 k∨X k,cs,xs,pl2,fun k=>S' k∨X k,fun k=>S' k∨X k,cp,hR',f.toPlug.enlarge hXr,hm,hir,hg,hv1,hv2,?_,?_⟩
 ·intro k hk
  exact hk.imp (fun h=>hR.sub k (f.sub k h)) id
 ·intro k hk
  refine⟨fun h=>h.2 hk,fun hb=> ?_⟩
  rcases hk with hk|hk
  ·have hb':=f.sub k hk
   cases pl with
   |val _=>exact hb
   |mem b0 o0=>
    cases hb
    exact hPl.1 hb'
  ·exact(hXr k hk).2 hb

theorem appE_coreN(hC:aG P C)(hi:aJ P N w0 F0 H env a w F S)(hd:Wr N d){T T2 ty:TypeId}{e e2:Ty}(hT:look C.tys T=some (.slice e))(hT2:look C.tys T2=some (.slice e2))
  {l:Al} {xs ys:List e.den} {me:Md} {pl:aK} {S0:aA} {cs:List Value} {pl':aK} {cs':List Value} (hA:qQ F w env (fun t=>a.tmps.getD t undef) S l (.slice e) xs (.own me) pl S0 cs pl') (hrd:pl'.read w 1=some cs')
  {G2:aA} {v2:Value} {n2 cap2:Nat} {ao2:Option Addr} {cs2:List Value} {Si2:Nat->aA} {used:List Nat}
  (r2:eV P G2 (SL S used) F w e me v2 n2 cap2 ao2 ys cs2 Si2) (hn:bQ (l.r::used)=true) (hdr:d≠l.r) (hlen:((xs.length+ys.length:Nat):Int)<=bJ) (hok:∀t,iP l.r l.p (dropAll env used t)):
  ∃v w' F2 S2,(Builtin.append_ #[T,T2] ty #[bH (.slice e) cs',v2]).run P w= .ok v w'/\aJ P N w0 F0 H (put (dropAll env used) d (.pend l.r l.p e me (xs++ys))) (a.put (some d) v) w' F2 S2:=by
 obtain⟨hnr,_⟩:=d8 hn
 obtain⟨cs1',S',f⟩:=hA.focus (fun b hb=>(hi.sb _ b hb).2.2)
 have e0:=f.ok.read.symm.trans hrd
 simp only[Option.some.injEq]at e0;subst e0
 obtain⟨ao1,n1,cap1,c1,Si1,r1,hgr⟩:=eV.of_own (P:=P) (w:=w) (F:=F) (Sx:=S') (v:=bH (.slice e) cs1') (xs:=xs) (me:=me) ⟨cs1',rfl,f.own⟩
 have ev1:=r1.val
 have ev2:=r2.val
 have l1:=r1.len
 have l2:=r2.len
 subst l1;subst l2;subst ev2
 have hcs1:cs1'=[.slice ao1 xs.length cap1]:=by
  obtain⟨ao,cap,q,_⟩:=f.own;rw[q]at ev1⊢;simp only[bH,Ty.isAgg,Bool.false_eq_true,if_false,List.headD_cons]at ev1;rw[ev1]
 obtain⟨g1,g2⟩:=jT (P:=P) (ty:=ty) (w:=w) hC hT hT2 (ao:=ao1) (sLen:=xs.length) (sCap:=cap1) (olds:=c1) (ax:=ao2) (n:=ys.length) (cx:=cap2) (news:=cs2)
  (fun w' hw=>by rw[<-ev1];exact r1.read w' (fun b _=>by rw[hw])) (fun w' hw=>r2.read w' (fun b _=>by rw[hw])) hlen
 rw[<-ev1]at g1 g2
 have hl:(xs++ys).length=xs.length+ys.length:=by simp
 have hm:=hA.mode
 have hS'S:∀b,S' b->S l.r b:=fun b hb=>hA.root.sub b (f.sub b hb)
 have hUr:∀b,SL S used b->¬S l.r b:=by
  rintro b ⟨t,ht,hb⟩ hr
  exact hi.sd t l.r (fun e=>hnr (e▸ht)) b hb hr
 have hUF:∀b,SL S used b->¬F b:=by rintro b ⟨t,ht,hb⟩;exact(hi.sb t b hb).2.2
 by_cases hfit:xs.length+ys.length<=cap1
 ·have g1:=g1 hfit
  rcases hgr with⟨rfl,hc⟩|⟨b,off,row,T0,rfl,hb,hrow,hsz,hcs,hnb⟩
  ·have hx0:xs=[]:=List.eq_nil_of_length_eq_zero (by omega)
   have hy0:ys=[]:=List.eq_nil_of_length_eq_zero (by omega)
   subst hx0;subst hy0;subst hc;obtain⟨S2,h5⟩:=rH (e:=e) (me:=me) (xs:=[]) (ys:=[]) (v:= .slice none 0 0) (used:=used) (X:=none') hi hd hA.root hA.get hA.mode hA.inr hn hdr hA.loc (w':=w) rfl rfl rfl (Nat.le_refl _) (fun _ _ _=>rfl) (fun _ _=>rfl)
    hA.root.2.2 hA.root.2.1 (fun _ _ _ _=>rfl) hok (fun _ _ _ _ _ _ _ _ _ _=>rfl) (fun _ h=>h.elim) (fun S' cs' _=> .nil _ _ _ _ _)
   exact⟨_,_,F,S2,g1,h5⟩
  ·have hn1:∀u∈cs2,u.oneCell'=true:=r2.all_one
   have hl2:=r2.csl
   have hl1:=r1.csl
   have hfit2:off+xs.length*e.size+cs2.length<=row.size:=by
    have:=Nat.mul_le_mul_right e.size hfit
    rw[Nat.add_mul]at this;omega
   have hst:=run_storeCells_at (P:=P) b (off+xs.length*e.size) T0 cs2 0 row w hrow (by omega) hn1
   simp only[Nat.add_zero]at hst;have g1':(Builtin.append_ #[T,T2] ty #[bH (.slice e) cs1',.slice ao2 ys.length cap2]).run P w= .ok (.slice (some ⟨b,off,none⟩) (xs.length+ys.length) cap1)
     (w.setRow b (row.toList.take (off+xs.length*e.size)++cs2++row.toList.drop (off+xs.length*e.size+cs2.length)).toArray):=by
    rw[g1];simp only[sA,kT,hst,Result.andThen]
   generalize hrw:(row.toList.take (off+xs.length*e.size)++cs2++row.toList.drop (off+xs.length*e.size+cs2.length))=jJ at g1'
   generalize hw':w.setRow b jJ.toArray=w' at g1'
   have hrow':w'.heap[b]? =some (.cells jJ.toArray T0 (0,0)):=by
    rw[<-hw'];simp[World.setRow,Array.getElem?_modify,hrow]
   have hoth:∀k,k≠b->w'.heap[k]? =w.heap[k]? :=by
    intro k hk;rw[<-hw'];simp only[World.setRow,Array.getElem?_modify];rw[if_neg (Ne.symm hk)]
   have hsize:w'.heap.size=w.heap.size:=by rw[<-hw'];simp[World.setRow]
   have hrl:jJ.length=row.size:=by rw[<-hrw];simp;omega
   have hseg:∀o n,o+n<=off+xs.length*e.size->seg jJ o n=seg row.toList o n:=by
    intro o n ho;rw[<-hrw];exact fO _ _ _ _ rfl (by simpa using hfit2) _ _ (by simp;omega) (.inl ho)
   have hbr:S l.r b:=hS'S b hb
   have htail:TailW w w' b (off+xs.length*e.size):=⟨hoth,row,jJ.toArray,T0,hrow,hrow',by simpa using hrl,fun o n ho=>by simpa using hseg o n ho⟩
   have hrd1:pl'.read w 1=some [.slice (some ⟨b,off,none⟩) xs.length cap1]:=by rw[hrd,hcs1]
   have hroot':Own F w' l.τ l.m S0 cs l.x/\∀q μ,bI q l.τ l.m=some μ->inR q l.τ l.x->loc w' q l.τ pl=loc w q l.τ pl:=by
    by_cases hc0:cap1=0
    ·have hy0:ys=[]:=List.eq_nil_of_length_eq_zero (by omega)
     have hc2:cs2=[]:=by subst hy0;exact List.eq_nil_of_length_eq_zero (by simpa using hl2)
     have hr2:jJ=row.toList:=by rw[<-hrw,hc2];simp
     have hall:∀k:Nat,w'.heap[k]? =w.heap[k]? :=by
      intro k;by_cases hk:k=b
      ·subst hk;rw[hrow',hrow,hr2]
      ·exact hoth k hk
     refine⟨hA.root.2.2.congr (fun b _=>hall b) (fun b _=>hall b),fun q μ hq hr=> ?_⟩
     exact cQ q hA.root.2.2 hA.root.2.1.read ((aK.read_congr (fun k _=>hall k)).trans hA.root.2.1.read) hq hr (fun b _=>hall b)
    ·exact(gY htail l.p (fun k hk=>(hi.sb _ k (hA.root.sub k hk)).2.2) hA.root.2.2 hA.root.2.1 hA.get hA.mode hA.inr hA.loc hrd1 (by omega)).2
   have hplb:∀k,pl.isB k->k≠b:=by
    intro k hk e;have h0:=hA.root.2.1;have hk':pl.isB b:=e▸hk;cases pl with
    |val _=>exact hk
    |mem b0 o0=>have h1:b=b0:=hk';rw[<-h1]at h0;exact h0.1 (f.sub b hb)
   have hpl'b:∀k,pl'.isB k->k≠b:=by
    intro k hk e;have h0:=f.ok;have hk':pl'.isB b:=e▸hk;cases pl' with
    |val _=>exact hk
    |mem b0 o0=>have h1:b=b0:=hk';rw[<-h1]at h0;exact h0.1 hb
   have hsub:∀(q:cM) (σ:Ty) (y:σ.den) (μ:Md) (pl2:aK),(sW q l.p=true∨preP q l.p)->aN q l.τ l.x=some ⟨σ,y⟩->bI q l.τ l.m=some μ->inR q l.τ l.x->loc w q l.τ pl=some (σ,pl2)->pl2.read w' σ.size=pl2.read w σ.size:=by
    intro q σ y μ pl2 hpre hgq hmq hrq hlq;by_cases hc0:cap1=0
    ·have hy0:ys=[]:=List.eq_nil_of_length_eq_zero (by omega)
     have hc2:cs2=[]:=by subst hy0;exact List.eq_nil_of_length_eq_zero (by simpa using hl2)
     have hr2:jJ=row.toList:=by rw[<-hrw,hc2];simp
     refine aK.read_congr fun k _=> ?_
     by_cases hk:k=b
     ·subst hk;rw[hrow',hrow,hr2]
     ·exact hoth k hk
    ·rcases hpre with hdis|hpre
     ·exact aK.read_congr fun k hk=>hoth k (fun e=>dis_ok htail q l.p hdis (fun k hk=>(hi.sb _ k (hA.root.sub k hk)).2.2) hA.root.2.2 hA.root.2.1 hA.get hA.mode hA.inr hA.loc hrd1 (by omega) hgq hmq hrq hlq (e▸hk))
     obtain⟨s,hs⟩:=uC hpre;have hd0:∀k,S0 k->¬F k:=fun k hk=>(hi.sb _ k (hA.root.sub k hk)).2.2
     obtain⟨pl3,cs3,Sq,fq⟩:=focus q hd0 hA.root.2.2 hA.root.2.1 hgq hmq hrq;have e1:=fq.loc.symm.trans hlq;simp only[Option.some.injEq,Prod.mk.injEq,true_and]at e1;subst e1;have hg2:=hA.get;rw[hs,gR,hgq]at hg2;have hm2:=hA.mode;rw[hs,gT q s l.τ l.m l.x hgq hmq]at hm2;have hr2:=hA.inr;rw[hs]at hr2;have hl2':=hA.loc;rw[hs,iL,fq.loc]at hl2';have hSb:=(gY htail s (fun k hk=>hd0 k (fq.sub k hk)) fq.own fq.ok hg2 hm2 (lH q s l.τ l.x hgq hr2) hl2' hrd1 (by omega)).1
     refine aK.read_congr fun k hk=>hoth k ?_
     rintro rfl
     have h0:=fq.ok
     cases pl3 with
     |val _=>exact hk
     |mem b0 o0=>have h1:k=b0:=hk;rw[<-h1]at h0;exact h0.1 hSb
   obtain⟨S2,h5⟩:=rH (e:=e) (me:=me) (xs:=xs) (ys:=ys) (v:= .slice (some ⟨b,off,none⟩) (xs.length+ys.length) cap1) (used:=used) (X:=SL S used) hi hd hA.root hA.get hA.mode hA.inr hn hdr hA.loc (w':=w')
    (by rw[<-hw'];rfl) (by rw[<-hw'];rfl) (by rw[<-hw'];rfl) (by omega) (fun k hk hH=>hoth k (fun e=>by subst e;exact(hi.sb _ k hbr).1.elim (fun h=>by omega) hH))
    (by
     rintro k (hk|⟨t,ht,_,hk⟩)
     ·exact hoth k (fun e=>(hi.sb _ b hbr).2.2 (e▸hk))
     ·exact hoth k (fun e=>hi.sd t l.r ht b (e▸hk) hbr))
    hroot'.1 (hA.root.2.1.congr (fun k hk=>hoth k (hplb k hk))) hroot'.2 hok hsub (fun b hb=> .inl hb)
    (by
     intro S2 cs2' f2;have hrd2:pl'.read w' 1=some [.slice (some ⟨b,off,none⟩) xs.length cap1]:=(aK.read_congr (fun k hk=>hoth k (hpl'b k hk))).trans hrd1
     have e1:=f2.ok.read.symm.trans hrd2
     simp only[Option.some.injEq]at e1;subst e1;obtain⟨ao,cap,q1,q2,q3,q4⟩:=f2.own;simp only[List.cons.injEq,Value.slice.injEq,and_true,true_and]at q1;obtain⟨rfl,rfl⟩:=q1;rcases q4 with⟨q4,_⟩|⟨b',off',row',T',Si',q4,q5,q6,q7,q8,q9,q10,q11⟩
     ·cases q4
     injection q4 with q4;injection q4 with q4 q4';subst q4;subst q4';rw[hrow']at q6;injection q6 with q6;injection q6 with q6;subst q6;rw[<-hl];refine⟨_,rfl,_,cap1,rfl,by omega,by rw[hl];exact fJ hlen,.inr ⟨b,off,jJ.toArray,T',SiA xs.length Si' Si2,rfl,.inl q5,by rw[hrow'];congr 1;congr 1<;>simp_all,?_,?_,?_,?_,?_⟩⟩
     ·simp;omega
     ·intro i k hk
      unfold SiA at hk;split at hk
      ·exact .inl (q8 i k hk)
      ·exact .inr (r2.sub _ k hk)
     ·intro i h
      unfold SiA at h;split at h
      ·exact q9 _ h
      ·exact hUr b (r2.sub _ b h) hbr
     ·exact qM (X:=S2) (Y:=SL S used) q8 r2.sub (fun k h1 h2=>hUr k h2 (hA.root.sub k (f2.sub k h1))) q10 r2.dis
     ·intro i x hx'
      unfold SiA;by_cases hi':i<xs.length
      ·simp only[hi',if_true]
       rw[List.getElem?_append_left hi']at hx';exact q11 i x hx'
      ·simp only[hi',if_false]
       rw[List.getElem?_append_right (by omega)]at hx';have hj:i-xs.length<ys.length:=by
        rcases Nat.lt_or_ge (i-xs.length) ys.length with h|h
        ·exact h
        ·rw[List.getElem?_eq_none h]at hx';cases hx'
       have hle:(i-xs.length+1)*e.size<=ys.length*e.size:=Nat.mul_le_mul_right _ (by omega)
       rw[Nat.add_mul,Nat.one_mul]at hle;have h1:=jS row.toList (off+xs.length*e.size) cs2.length cs2 rfl (by simpa using hfit2);rw[hrw]at h1;have h2:=dV jJ (off+xs.length*e.size) cs2.length ((i-xs.length)*e.size) e.size (by omega);rw[h1]at h2;have h3:off+i*e.size=off+xs.length*e.size+(i-xs.length)*e.size:=by
        have:i*e.size=xs.length*e.size+(i-xs.length)*e.size:=by rw[<-Nat.add_mul];congr 1;omega
        omega
       have h4:=(r2.own _ x hx').congr (w':=w') (fun k hk=>hoth k (fun e=>(hi.sb _ b hbr).2.2 (e▸hk))) (fun k hk=>hoth k (fun e=>hUr b (e▸r2.sub _ k hk) hbr))
       rw[h2]at h4;simp only[h3];exact h4)
   exact⟨_,_,F,S2,g1',h5⟩
 ·obtain⟨cap,zs,E,k1,k2,k3⟩:=g2 (by omega)
  generalize hw':w.drew.alloc (.cells (c1++cs2++zs).toArray E)=w' at k3
  have hbel:RowKit.Below w.heap.size w w':=by rw[<-hw'];exact(RowKit.Below.refl _ _).drew.alloc (Nat.le_refl _) _
  have hsz:w'.heap.size=w.heap.size+1:=by rw[<-hw'];simp
  have hnew:w'.heap[w.heap.size]? =some (.cells (c1++cs2++zs).toArray E (0,0)):=by rw[<-hw'];exact lO w.drew _
  have hold:∀k,k<w.heap.size->w'.heap[k]? =w.heap[k]? :=hbel.block
  have hSlt:∀t b,S t b->b<w.heap.size:=fun t b hb=>(hi.sb t b hb).2.1
  have hplb:∀k,pl.isB k->k<w.heap.size:=fun k hk=>hSlt l.r k (hA.root.isB hk)
  obtain⟨S2,h5⟩:=rH (e:=e) (me:=me) (xs:=xs) (ys:=ys) (v:= .slice (some ⟨w.heap.size,0,none⟩) (xs.length+ys.length) cap) (used:=used) (X:=fun b=>SL S used b∨b=w.heap.size) hi hd hA.root hA.get hA.mode hA.inr hn hdr hA.loc (w':=w')
   hbel.os hbel.tape hbel.output (by omega) (fun k hk _=>hold k (Nat.lt_of_lt_of_le hk hi.size))
   (by
    rintro k (hk|⟨t,_,_,hk⟩)
    ·exact hold k (hi.fb k hk)
    ·exact hold k (hSlt t k hk))
   (hA.root.2.2.congr (fun b hb=>hold b (hi.fb b hb)) (fun b hb=>hold b (hSlt _ b (hA.root.sub b hb)))) (hA.root.2.1.congr (fun k hk=>hold k (hplb k hk)))
   (fun q μ hq hr=>cQ q hA.root.2.2 hA.root.2.1.read ((aK.read_congr (fun k hk=>hold k (hplb k hk))).trans hA.root.2.1.read) hq hr (fun b hb=>hold b (hSlt _ b (hA.root.sub b hb)))) hok
   (by
    intro q σ y μ pl2 _ hgq hmq hrq hlq;obtain⟨pl3,cs3,Sq,fq⟩:=focus q (fun k hk=>(hi.sb _ k (hA.root.sub k hk)).2.2) hA.root.2.2 hA.root.2.1 hgq hmq hrq
    have e1:=fq.loc.symm.trans hlq
    simp only[Option.some.injEq,Prod.mk.injEq,true_and]at e1;subst e1;exact aK.read_congr fun k hk=>hold k ((fq.blk k hk).elim (fun h=>hSlt _ k (hA.root.sub k h)) (hplb k)))
   (fun b hb=>hb.elim .inl (fun h=> .inr ⟨h,by omega⟩))
   (by
    intro S2 cs2' f2;have hrd2:pl'.read w' 1=some cs1':=by
     refine(aK.read_congr (fun k hk=>hold k ?_)).trans hrd
     exact(f.blk k hk).elim (fun h=>hSlt _ k (hA.root.sub k h)) (hplb k)
    have e1:=f2.ok.read.symm.trans hrd2
    simp only[Option.some.injEq]at e1;subst e1;obtain⟨ao',n',cap',c1',Si1',r1',hgr'⟩:=eV.of_own (P:=P) (w:=w') (F:=F) (Sx:=S2) (v:=bH (.slice e) cs2') (xs:=xs) (me:=me) ⟨cs2',rfl,f2.own⟩;have e2:=ev1.symm.trans r1'.val;injection e2 with e2 e3 e4;subst e2;subst e3;subst e4;have hcc:c1'=c1:=by
     rcases hgr with⟨h1,h2⟩|⟨b,off,row,T0,h1,hb,hrow,hsz',hcs,hnb⟩
     ·have hx0:xs=[]:=List.eq_nil_of_length_eq_zero (by have:=r1.le;omega)
      have q1:=r1.csl;have q2:=r1'.csl
      rw[hx0]at q1 q2;simp only[List.length_nil,Nat.zero_mul]at q1 q2;rw[List.eq_nil_of_length_eq_zero q1,List.eq_nil_of_length_eq_zero q2]
     ·rcases hgr' with⟨h1',h2'⟩|⟨b',off',row',T0',h1',hb',hrow',hsz'',hcs',hnb'⟩
      ·rw[h1]at h1';cases h1'
      ·rw[h1]at h1'
       injection h1' with h1';injection h1' with h1' h1'';subst h1';subst h1'';rw[hold b (hSlt l.r b (hS'S b hb)),hrow]at hrow';injection hrow' with hrow';injection hrow' with hrow';rw[hcs,hcs',hrow']
    subst hcc;have hown:=aT.newRow (G:=F) (w':=w') (e:=e) (me:=me) (b:=w.heap.size) (row:=(c1'++cs2++zs).toArray) (T:=E)
     (Sd:=fun k=>S2 k∨SL S used k∨k=w.heap.size) (xs:=xs++ys) (cap:=cap) (Si:=SiA xs.length Si1' Si2) (.inr (.inr rfl)) hnew
     (by
      have:=r1.csl;have:=r2.csl
      have hmul:cap*e.size=xs.length*e.size+ys.length*e.size+(cap-(xs.length+ys.length))*e.size:=by
       rw[<-Nat.add_mul,<-Nat.add_mul];congr 1;omega
      simp;omega) (by rw[hl];omega) (by rw[hl];exact fJ hlen)
     (by
      intro i k hk;unfold SiA at hk;split at hk
      ·exact .inl (r1'.sub _ k hk)
      ·exact .inr (.inl (r2.sub _ k hk)))
     (by
      intro i hk;unfold SiA at hk;split at hk
      ·have:=hSlt l.r _ (hA.root.sub _ (f2.sub _ (r1'.sub _ _ hk)));omega
      ·obtain⟨t,_,hb⟩:=r2.sub _ _ hk
       have:=hSlt t _ hb;omega)
     (qM (X:=S2) (Y:=SL S used) r1'.sub r2.sub (fun k h1 h2=>hUr k h2 (hA.root.sub k (f2.sub k h1))) r1'.dis r2.dis)
     (by
      have:=x8 (F:=F) (w':=w') (c3:=zs) (A:=Si1') (B:=Si2) r1'.csl r2.csl (fun i x hx'=>r1'.own i x hx')
       (fun i x hx'=>(r2.own i x hx').congr (fun b hb=>hold b (hi.fb b hb)) (fun b hb=>by obtain⟨t,_,hb⟩:=r2.sub _ b hb;exact hold b (hSlt t b hb)))
      simpa using this)
    rw[hl]at hown;exact hown)
  exact⟨_,_,F,S2,k3,h5⟩
end
end Go.Lf
namespace Go.Lf

def Tab(pd:Bool)(C:Ctx)(env0:St)(ops:Array Oper)(rows:List Row):Prop:=
 ∀i r,rows[i]? =some r->∃o c,ops[i]? =some o/\yQ pd C env0 (rows.take i) o=some (c,r)/\c

theorem fR{α:Type}{l:List α}:cW l=true↔l=[]:=by cases l<;>simp[cW]
theorem fQ{α:Type}{x:Option α}:isNone x=true↔x=none:=by cases x<;>simp[isNone]

structure vS(pd:Bool)(C:Ctx)(env0:St)(l:List Row)(o:Oper)(r:Row):Prop where
 guard:∃gs,mC l o.guard=some (r.gb,r.ch,gs)/\r.rs=gs++gB (stR false l env0) o.op.operands.toList
 dst:o.dst=some r.d
 op:(∃c,opE C o (bR (stR false l env0))=some (c,r.e,r.used)/\(r.gb=true->c)/\r.pd=none)∨
  (∃c r0 p0,pd=true/\wM C o (bR (stR false l env0))=some (c,r.e,r.used,r0,p0)/\c/\r.pd=some (r0,p0))
 fresh:(env0 r.d).isOwner=false
 new:bS l r.d=none
 cond:r.ch=[]∨(r.used=[]/\r.e.isOwner=false)∨r.gb=true
 opd:chB l r.ch o.op=true

theorem genRow_ok{pd:Bool}{C:Ctx}{env0:St}{l:List Row}{o:Oper}{c:Prop}{r:Row}(h:yQ pd C env0 l o=some (c,r))(hc:c):vS pd C env0 l o r:=by
 unfold yQ at h
 split at h
 ·rename_i gb ch gs d c0 e used hg hd ho
  cases hb:(!(env0 d).isOwner&&isNone (bS l d)&&((cW ch||(cW used&& !e.isOwner))||eD C.gow d)&&chB l ch o.op)
  ·rw[hb]at h;cases h
  rw[hb]at h;simp only[cond_true,Option.some.injEq,Prod.mk.injEq]at h;obtain⟨rfl,rfl⟩:=h;simp only[Bool.and_eq_true,Bool.not_eq_true',fQ]at hb;obtain⟨⟨⟨h1,h2⟩,h3⟩,h4⟩:=hb;refine⟨⟨gs,hg,rfl⟩,hd,.inl ⟨c0,ho,?_,rfl⟩,h1,h2,?_,h4⟩
  ·intro hgb
   cases hch:cW ch
   ·rw[hch]at hc
    cases hu:(cW used&& !e.isOwner)
    ·rw[hu]at hc;exact hc.2
    ·rw[hu]at hc;exact hc hgb
   ·rw[hch]at hc;exact hc
  ·cases hch:cW ch
   ·rw[hch]at hc
    cases hu:(cW used&& !e.isOwner)
    ·rw[hu]at hc;exact .inr (.inr hc.1)
    ·simp only[Bool.and_eq_true,Bool.not_eq_true',fR]at hu
     exact .inr (.inl hu)
   ·exact .inl (fR.1 hch)
 ·rename_i gb ch gs d hg hd ho
  cases pd with
  |false=>cases h
  |true=>
   simp only[cond_true]at h;split at h
   ·rename_i c0 e used r0 p0 hp
    cases hb:(!(env0 d).isOwner&&isNone (bS l d)&&cW ch&&chB l ch o.op)
    ·rw[hb]at h;cases h
    rw[hb]at h;simp only[cond_true,Option.some.injEq,Prod.mk.injEq]at h;obtain⟨rfl,rfl⟩:=h;simp only[Bool.and_eq_true,Bool.not_eq_true',fR,fQ]at hb;obtain⟨⟨⟨h1,h2⟩,h3⟩,h4⟩:=hb;exact⟨⟨gs,hg,rfl⟩,hd,.inr ⟨c0,r0,p0,rfl,hp,hc,rfl⟩,h1,h2,.inl h3,h4⟩
   ·cases h
 ·cases h

theorem iM{pd:Bool}{C:Ctx}{env0:St}{ops:Array Oper}:∀(os:List Oper) (l:List Row) {c:Prop} {rows:List Row} {t:List Oper},fC pd C env0 os l=(c,rows,t)->c->
  (∀j,os[j]? =ops[l.length+j]?)->Tab pd C env0 ops l->Tab pd C env0 ops rows/\∀j,t[j]? =ops[rows.length+j]?
 | [],l,c,rows,t,h,hc,hl,ht=>by
  simp only[fC,Prod.mk.injEq]at h;obtain⟨rfl,rfl,rfl⟩:=h;exact⟨ht,hl⟩
 |o::os,l,c,rows,t,h,hc,hl,ht=>by
  simp only[fC]at h;split at h
  ·rename_i c1 r hr
   simp only[Prod.mk.injEq]at h;obtain⟨rfl,rfl,rfl⟩:=h;refine iM os (l++[r]) (c:=(fC pd C env0 os (l++[r])).1) rfl hc.2 (fun j=> ?_) ?_
   ·have:=hl (j+1)
    simpa[Nat.add_assoc,Nat.add_comm 1 j]using this
   ·intro i q hq
    rcases Nat.lt_trichotomy i l.length with hi|hi|hi
    ·rw[List.getElem?_append_left hi]at hq
     obtain⟨o',c2,g1,g2,g3⟩:=ht i q hq;exact⟨o',c2,g1,by rw[List.take_append_of_le_length (by omega)];exact g2,g3⟩
    ·subst hi
     simp at hq;subst hq
     exact⟨o,c1,by simpa using(hl 0).symm,by rw[List.take_left'];exact hr;rfl,hc.1⟩
    ·rw[List.getElem?_append_right (by omega),List.getElem?_eq_none (by simp;omega)]at hq;cases hq
  ·simp only[Prod.mk.injEq]at h
   obtain⟨rfl,rfl,rfl⟩:=h;exact⟨ht,hl⟩

section
variable {pd:Bool} {C:Ctx} {env0:St} {ops:Array Oper} {rows:List Row}

theorem Tab.facts(ht:Tab pd C env0 ops rows){i:Nat}{r:Row}(h:rows[i]? =some r):∃o,ops[i]? =some o/\vS pd C env0 (rows.take i) o r:=by
 obtain⟨o,c,h1,h2,h3⟩:=ht i r h
 exact⟨o,h1,genRow_ok h2 h3⟩

theorem Tab.inj(ht:Tab pd C env0 ops rows){i j:Nat}{r q:Row}(h1:rows[i]? =some r)(h2:rows[j]? =some q)(h:r.d=q.d):i=j:=by
 have aux:∀ {i j:Nat} {r q:Row},rows[i]? =some r->rows[j]? =some q->r.d=q.d->i<j->False:=by
  intro i j r q h1 h2 h hij;obtain⟨o,_,hf⟩:=ht.facts h2;have hm:r∈rows.take j:=by
   refine List.mem_iff_getElem?.2 ⟨i,?_⟩
   rw[List.getElem?_take,if_pos hij];exact h1
  have hn:=hf.new
  have:bS (rows.take j) r.d=none:=by rw[h];exact hn
  have h3:∀(l:List Row),r∈l->bS l r.d≠none:=by
   intro l
   induction l with
   |nil=>intro h;cases h
   |cons x l ih=>
    intro hx;simp only[bS];cases hb:Nat.beq x.d r.d
    ·simp only[cond_false]
     rcases List.mem_cons.1 hx with rfl|hx
     ·rw[Nat.beq_refl]at hb;cases hb
     ·exact ih hx
    ·simp
  exact h3 _ hm this
 rcases Nat.lt_trichotomy i j with hij|hij|hij
 ·exact(aux h1 h2 h hij).elim
 ·exact hij
 ·exact(aux h2 h1 h.symm hij).elim

def UD(rows:List Row):Prop:=∀(i j:Nat) (r q:Row),rows[i]? =some r->rows[j]? =some q->r.d=q.d->i=j
theorem Tab.ud(ht:Tab pd C env0 ops rows):UD rows:=fun _ _ _ _ h1 h2 h=>ht.inj h1 h2 h

theorem UD.look(ht:UD rows){T:Nat->Bool}{i:Nat}{r:Row}(h:rows[i]? =some r)(hT:T i=true):bS (sel rows T 0) r.d=some r:=by
 refine oX (s6 rows 0 h (by simpa using hT)) ?_
 intro q hq hd
 obtain⟨j,h1,_⟩:=iS rows 0 hq
 have:=ht _ _ _ _ h1 h hd
 subst this
 rw[h]at h1;injection h1 with h1;exact h1.symm

theorem UD.look_none(ht:UD rows){T:Nat->Bool}{i:Nat}{r:Row}(h:rows[i]? =some r)(hT:T i=false):bS (sel rows T 0) r.d=none:=by
 refine uR ?_
 intro q hq hd
 obtain⟨j,h1,h2⟩:=iS rows 0 hq
 have:=ht _ _ _ _ h1 h hd
 subst this
 simp only[Nat.zero_add]at h2
 rw[hT]at h2;cases h2

def Holds(rows:List Row)(x:Nat×Bool):Prop:=∃r,rows[x.1]? =some r/\r.e= .shr .bool x.2

theorem vN{a b:Bool}:bbeq a b=true↔a=b:=by cases a<;>cases b<;>simp[bbeq]

theorem Tab.gb(ht:Tab pd C env0 ops rows):∀(i:Nat) {r:Row},rows[i]? =some r->(r.gb=true↔∀x∈r.ch,Holds rows x):=by
 intro i
 induction i using Nat.strongRecOn with
 |_ i ih=>
  intro r hr;obtain⟨o,_,hf⟩:=ht.facts hr;obtain⟨gs,hg,_⟩:=hf.guard;cases hog:o.guard with
  |none=>
   rw[hog]at hg;simp only[mC,Option.some.injEq,Prod.mk.injEq]at hg;obtain⟨h1,h2,_⟩:=hg;rw[<-h1,<-h2];simp
  |some gb=>
   obtain⟨g,b⟩:=gb;rw[hog]at hg;simp only[mC]at hg;split at hg
   ·rename_i q hq
    split at hg
    ·rename_i p hp
     cases hu:dC (rows.take i) q.d
     ·rw[hu]at hg
      simp only[cond_false,Option.some.injEq,Prod.mk.injEq]at hg;obtain⟨h1,h2,_⟩:=hg;have hgi:g<i:=by
       rw[List.getElem?_take]at hq;split at hq
       ·assumption
       ·cases hq
      rw[List.getElem?_take,if_pos hgi]at hq;have ih':=ih g hgi hq;rw[<-h1,<-h2];simp only[Bool.and_eq_true,List.mem_cons,forall_eq_or_imp,vN,ih'];constructor
      ·rintro⟨h3,rfl⟩
       exact⟨⟨q,hq,hp⟩,h3⟩
      ·rintro⟨⟨q',h4,h5⟩,h6⟩
       refine⟨h6,?_⟩
       simp only at h4 h5;rw[hq]at h4;injection h4 with h4;subst h4;rw[hp]at h5;injection h5 with _ h5
     ·rw[hu]at hg;cases hg
    ·cases hg
   ·cases hg

theorem memC_iff{l:List (Nat×Bool)}{x:Nat×Bool}:memC l x=true↔x∈l:=by
 induction l with
 |nil=>simp[memC]
 |cons y l ih=>
  simp only[memC];cases h:(Nat.beq y.1 x.1&&bbeq y.2 x.2)
  ·simp only[cond_false,ih,List.mem_cons]
   constructor
   ·exact .inr
   ·rintro (rfl|h')
    ·rw[Nat.beq_refl,(vN (a:=x.2) (b:=x.2)).2 rfl]at h;simp at h
    ·exact h'
  ·simp only[cond_true,true_iff,List.mem_cons]
   simp only[Bool.and_eq_true,aY,vN]at h;exact .inl (Prod.ext h.1 h.2).symm

theorem subC_iff{l m:List (Nat×Bool)}:subC l m=true↔∀x∈l,x∈m:=by
 induction l with
 |nil=>simp[subC]
 |cons y l ih=>simp[subC,memC_iff,ih]

def FillOK(l:List Row):Operand->Prop
 | .tmp s=>∀r,bS l s=some r->r.gb=true
 |_=>True

theorem Tab.fill(ht:Tab pd C env0 ops rows){i:Nat}{ch:List (Nat×Bool)}{z:Operand}(h:yA (rows.take i) ch z=true)(hch:∀x∈ch,Holds rows x):FillOK (rows.take i) z:=by
 cases z with
 |tmp s=>
  intro r hr;simp only[yA,hr]at h;obtain⟨hm,_⟩:=eK hr;obtain⟨j,hj⟩:=List.mem_iff_getElem?.1 hm;have hj':rows[j]? =some r:=by
   rw[List.getElem?_take]at hj;split at hj
   ·exact hj
   ·cases hj
  exact(ht.gb j hj').2 (fun x hx=>hch x (subC_iff.1 h x hx))
 |_=>trivial

theorem kJ{s:Nat}:∀ {l:List Row} {k j:Nat} {r:Row},nT l k s=some (j,r)->k<=j/\l[j-k]? =some r/\bS l s=some r
 | [],_,_,_,h=>by cases h
 |q::l,k,j,r,h=>by
  simp only[nT]at h;cases hd:Nat.beq q.d s
  ·rw[hd]at h
   obtain⟨h1,h2,h3⟩:=kJ h;refine⟨by omega,?_,by simp only[bS,hd,cond_false];exact h3⟩
   rw[show j-k=(j-(k+1))+1 from by omega];simpa using h2
  ·rw[hd]at h
   simp only[cond_true,Option.some.injEq,Prod.mk.injEq]at h;obtain⟨rfl,rfl⟩:=h;exact⟨Nat.le_refl _,by simp,by simp only[bS,hd,cond_true]⟩

theorem allB_ok{l:List Row}{ch:List (Nat×Bool)}:∀ {zs:List Operand},allB l ch zs=true->∀z∈zs,yA l ch z=true
 | [],_,_,h=>by cases h
 |y::zs,h,z,hz=>by
  simp only[allB,Bool.and_eq_true]at h;rcases List.mem_cons.1 hz with rfl|hz
  ·exact h.1
  ·exact allB_ok h.2 z hz

theorem o8{st:St}{s:Nat}:∀ {l:List Operand},Operand.tmp s∈l->s∈gB st l/\∀q,(st s).root=some q->q∈gB st l
 |y::l,h=>by
  rcases List.mem_cons.1 h with h|h
  ·subst h
   simp only[gB];cases hr:(st s).root with
   |none=>exact⟨by simp,fun q hq=>by cases hq⟩
   |some r=>exact⟨by simp,fun q hq=>by injection hq with hq;subst hq;simp⟩
  ·obtain⟨h1,h2⟩:=o8 (st:=st) h
   cases y with
   |tmp u=>
    simp only[gB];cases hr:(st u).root with
    |none=>exact⟨by simp[h1],fun q hq=>by simp[h2 q hq]⟩
    |some r=>exact⟨by simp[h1],fun q hq=>by simp[h2 q hq]⟩
   |_=>exact⟨by simpa[gB]using h1,fun q hq=>by simpa[gB]using h2 q hq⟩
end

section
variable {P:Program} {C:Ctx} {w0:World} {F0 H:aA} {env0:St} {a:Act} {w:World} {F:aA} {S:Nat->aA}

def Same(L l:List Row)(s:Nat):Prop:=bS L s=bS l s/\dC L s=dC l s

theorem tL{L l:List Row}{N:NP}(hi:aJ P N w0 F0 H (stR true L env0) a w F S){z:Operand}(hf:FillOK l z)
  (hs:∀s,z= .tmp s->Same L l s/\∀q,(stR false l env0 s).root=some q->Same L l q):
  aU P F w (stR true L env0) (fun t=>a.tmps.getD t undef) S (a.eval z) (bR (stR false l env0) z):=by
 cases z with
 |tmp s=>
  obtain⟨⟨e1,e2⟩,e3⟩:=hs s rfl;rcases eH false l env0 s with h|⟨h,h2,h3⟩
  ·simp only[bR,h]
   exact⟨fun _ _ _=>trivial,fun h=>(by cases h),rfl⟩
  ·have hb:cR true L env0 s=cR false l env0 s:=by
    unfold cR;rw[e1];cases hl:bS l s with
    |none=>rfl
    |some r=>simp only[Row.ent,cond_true,cond_false,hf r hl]
   have hT:stR true L env0 s=stR false l env0 s:=by
    rw[h,<-hb];refine iX (e2.trans h2) ?_;rw[hb];intro q hq;have:=(e3 q (by rw[h];exact hq)).2;rw[this];exact h3 q hq
   have hroot:mQ (stR true L env0) (stR true L env0 s)=mQ (stR false l env0) (stR false l env0 s):=by
    rw[hT];unfold mQ;cases hr:(stR false l env0 s).root with
    |none=>rfl
    |some q=>
     simp only[];have ho:=(hi.ent s).root_owner (r:=q) (by rw[hT];exact hr);obtain⟨g1,g2⟩:=e3 q hr;rcases eH true L env0 q with k|⟨k,k2,k3⟩
     ·rw[k]at ho;cases ho
     ·have hb2:cR true L env0 q=cR false l env0 q:=by
       unfold cR;rw[k]at ho;unfold cR at ho;rw[g1]at ho⊢;cases hl:bS l q with
       |none=>rfl
       |some r=>
        rw[hl]at ho;simp only[Row.ent,cond_true,cond_false]at ho⊢;cases hg:r.gb
        ·rw[hg]at ho;cases ho
        ·rfl
      rw[k,hb2];symm;refine iX (g2▸k2) ?_;intro q' hq';rw[k,hb2]at ho;rw[Ent.owner_root ho]at hq';cases hq'
   have:=aX hi (.tmp s)
   simp only[bR]at this⊢;rw[hT]at hroot;rw[hT,hroot]at this;exact this
 |const v=>exact aX hi (.const v)
 |global g=>exact aX hi (.global g)
 |func f=>exact aX hi (.func f)

def mO(P:Program)(C:Ctx)(w0:World)(F0 H:aA)(env0:St)(rows:List Row)(T:Nat->Bool)(a:Act)(w:World):Prop:=
 ∃F S,aJ P C.np w0 F0 H (stR true (sel rows T 0) env0) a w F S/\∀j q,rows[j]? =some q->T j=true->q.gb=false->a.tmps.getD q.d undef=undef

theorem nE{rows:List Row}(ht:UD rows){N:NP}{T:Nat->Bool}{i:Nat}{r:Row}(hr:rows[i]? =some r)(hTi:T i=false)(hfr:(env0 r.d).isOwner=false){w:World}{a:Act}
  (hi:aJ P N w0 F0 H (put (dropAll (stR true (sel rows T 0) env0) r.used) r.d (r.ent true)) a w F S):
  aJ P N w0 F0 H (stR true (sel rows (cK T i) 0) env0) a w F S:=by
 have hTi':cK T i i=true:=by simp[cK]
 have hlk:∀t,t≠r.d->bS (sel rows (cK T i) 0) t=bS (sel rows T 0) t:=by
  intro t htd;refine sJ rows 0 ?_;intro j q hq hd;by_cases hj:j=i
  ·subst hj;rw[hr]at hq;injection hq with hq;subst hq;exact absurd hd.symm htd
  ·simp[cK,cE hj]
 have hus:∀t,dC (sel rows (cK T i) 0) t=false->t∉r.used/\dC (sel rows T 0) t=false:=by
  intro t h;have hn:∀q∈sel rows (cK T i) 0,t∉q.used:=by
   intro q hq htq;have:=jM.2 ⟨q,hq,htq⟩;rw[h]at this;cases this
  refine⟨hn r (s6 rows 0 hr (by simpa using hTi')),?_⟩
  cases hu:dC (sel rows T 0) t
  ·rfl
  ·obtain⟨q,hq,htq⟩:=jM.1 hu
   obtain⟨j,g1,g2⟩:=iS rows 0 hq;exact absurd htq (hn q (s6 rows 0 g1 (by simp only[cK];simp only[Nat.zero_add]at g2⊢;rw[g2];simp)))
 have hdn:(dropAll (stR true (sel rows T 0) env0) r.used r.d).isOwner=false:=by
  rcases iV r.used (stR true (sel rows T 0) env0) r.d with h|h
  ·rw[h];rfl
  ·rw[h]
   rcases eH true (sel rows T 0) env0 r.d with k|⟨k,_,_⟩
   ·rw[k];rfl
   ·rw[k];unfold cR;rw[ht.look_none hr hTi];exact hfr
 have hput:∀t,put (dropAll (stR true (sel rows T 0) env0) r.used) r.d (r.ent true) t=if t=r.d then r.ent true else dropAll (stR true (sel rows T 0) env0) r.used t:=by
  intro t;unfold put;rw[hdn];simp only[cond_false];by_cases h:t=r.d
  ·subst h;rw[bU,if_pos rfl]
  ·rw[bG _ _ h,if_neg h]
 have hb:∀t,cR true (sel rows (cK T i) 0) env0 t=if t=r.d then r.ent true else cR true (sel rows T 0) env0 t:=by
  intro t;by_cases h:t=r.d
  ·subst h;unfold cR;rw[ht.look hr hTi',if_pos rfl]
  ·unfold cR;rw[hlk t h,if_neg h]
 have key:∀t,stR true (sel rows (cK T i) 0) env0 t=put (dropAll (stR true (sel rows T 0) env0) r.used) r.d (r.ent true) t∨stR true (sel rows (cK T i) 0) env0 t= .dead:=by
  intro t;rcases eH true (sel rows (cK T i) 0) env0 t with k|⟨k,k2,k3⟩
  ·exact .inr k
  ·left
   rw[k,hput,hb];by_cases h:t=r.d
   ·rw[if_pos h,if_pos h]
   ·rw[if_neg h,if_neg h]
    rw[hb,if_neg h]at k3;have e1:stR true (sel rows T 0) env0 t=cR true (sel rows T 0) env0 t:=iX (hus t k2).2 (fun q hq=>(hus q (k3 q hq)).2)
    rw[mH r.used _ t (hus t k2).1 (fun q hq=>(hus q (k3 q (e1▸hq))).1),e1]
 refine hi.weaken key ?_
 intro t q hq
 rcases key t with h|h
 ·have ho:=(hi.ent t).root_owner (r:=q) (by rw[<-h];exact hq)
  have hu:dC (sel rows (cK T i) 0) q=false:=by
   rcases eH true (sel rows (cK T i) 0) env0 t with k|⟨k,k2,k3⟩
   ·rw[k]at hq;cases hq
   ·exact k3 q (by rw[<-k];exact hq)
  have hbq:cR true (sel rows (cK T i) 0) env0 q=put (dropAll (stR true (sel rows T 0) env0) r.used) r.d (r.ent true) q:=by
   rw[hb,hput];rw[hput]at ho;by_cases hqd:q=r.d
   ·rw[if_pos hqd,if_pos hqd]
   ·rw[if_neg hqd,if_neg hqd]
    rw[if_neg hqd]at ho;rcases iV r.used (stR true (sel rows T 0) env0) q with h'|h'
    ·rw[h']at ho;cases ho
    ·rw[h']at ho⊢
     rcases eH true (sel rows T 0) env0 q with k|⟨k,_,_⟩
     ·rw[k]at ho;cases ho
     ·exact k.symm
  rw[<-hbq];refine iX hu ?_;intro q' hq';rw[hbq,Ent.owner_root ho]at hq';cases hq'
 ·rw[h]at hq;cases hq
end
end Go.Lf
namespace Go.Lf

section
variable {pd:Bool} {P:Program} {C:Ctx} {w0:World} {F0 H:aA} {env0:St} {ops:Array Oper} {rows:List Row} {Q:Exit->Act->World->Prop}

theorem aP.val_bool{v:aP}{b:Bool}{p:Bool}(h:v.val=some ⟨.bool,b⟩)(he:v.e= .shr .bool p):p=b:=by
 unfold aP.val at h
 rw[he]at h
 simp only[Option.some.injEq]at h
 injection h with _ h

theorem VOK_of{F:aA}{w:World}{env:St}{a:Act}{S:Nat->aA}{op:Op}{f:Operand->aP}(hp:∀c x y,op≠ .pick c x y)
  (h:∀z∈op.operands,aU P F w env (fun t=>a.tmps.getD t undef) S (a.eval z) (f z)):VOK P F w env a S op f:=by
 unfold VOK
 split
 ·exact absurd rfl (hp _ _ _)
 ·exact h

theorem chB_of{l:List Row}{ch:List (Nat×Bool)}{op:Op}(hp:∀c x y,op≠ .pick c x y)(h:chB l ch op=true):allB l ch op.operands.toList=true:=by
 unfold chB at h
 split at h
 ·exact absurd rfl (hp _ _ _)
 ·exact h

theorem pendE_wr{o:Oper}{d:Nat}{f:Operand->aP}{x:Prop×Ent×List Nat×Nat×cM}(hd:o.dst=some d)(h:wM C o f=some x):Wr C.np d:=by
 unfold wM at h
 split at h
 ·rename_i d' q hd' hop
  rw[hd]at hd';injection hd' with hd';subst hd';split at h
  ·cases hb:wrB C d
   ·rw[hb]at h;cases h
   ·exact eA hb
  ·cases h
 ·cases h

theorem pendE_ok(hC:aG P C){env:St}{a:Act}{w:World}{F:aA}{S:Nat->aA}(hi:aJ P C.np w0 F0 H env a w F S){o:Oper}{d:Nat}(hd:o.dst=some d){f:Operand->aP}(hv:VOK P F w env a S o.op f)
  {c:Prop} {e:Ent} {l:List Nat} {r:Nat} {p:cM} (h:wM C o f=some (c,e,l,r,p)) (hc:c) (hok:∀t,iP r p (dropAll env l t)):mN P C.np w0 F0 H a w o d (put (dropAll env l) d e):=by
 have hwr:=pendE_wr hd h
 unfold wM at h
 split at h
 ·rename_i d' q hd' hop
  rw[hd]at hd';injection hd' with hd';subst hd';rw[hop]at hv;obtain⟨callee,args,ts⟩:=q;split at h
  ·rename_i x y T T2 hcal hargs hts
   cases hb:wrB C d
   ·rw[hb]at h;cases h
   rw[hb]at h;simp only[cond_true]at h;have e1:args= #[x,y]:=by apply Array.ext';simpa using hargs
   have e2:ts= #[T,T2]:=by apply Array.ext';simpa using hts
   subst e1;subst e2;subst hcal;have hv:∀z∈Op.operands (.call {callee:= .builtin .append,args:= #[x,y],argTypes:= #[T,T2]}),aU P F w env (fun t=>a.tmps.getD t undef) S (a.eval z) (f z):=hv
   have hx:=hv x (by simp[Op.operands,Call.operands])
   have hy:=hv y (by simp[Op.operands,Call.operands])
   split at h
   ·rename_i e e2 r p al hT hT2 he hs
    obtain⟨σ,z,μ,pl,S0,cs,pl',cs',hA,hrd,hvv⟩:=kD hi hx hs;split at h
    ·rename_i e' xs' me hg hm
     split at h
     ·rename_i xs ys l hcast hsrc
      cases hn:(bQ (al.r::l)&& !Nat.beq d al.r)
      ·rw[hn]at h;cases h
      rw[hn]at h;simp only[cond_true,Option.some.injEq,Prod.mk.injEq]at h;obtain⟨rfl,rfl,rfl,rfl,rfl⟩:=h;simp only[Bool.and_eq_true,Bool.not_eq_true']at hn;have hdr:d≠al.r:=fun h=>by rw[aY.2 h]at hn;exact absurd hn.2 (by simp)
      obtain⟨rfl,rfl⟩:=dZ hcast;have e3:=hA.get.symm.trans hg;simp only[Option.some.injEq,Sigma.mk.injEq]at e3;obtain⟨rfl,e3⟩:=e3;cases e3;have e4:=hA.mode.symm.trans hm;simp only[Option.some.injEq]at e4;subst e4;obtain⟨ao2,n2,cap2,cs2,Si2,me',q2,hm2⟩:=pU hi hy hsrc;obtain⟨v,w',F2,S2,k1,k2⟩:=appE_coreN (ty:=o.type) hC hi hwr hT hT2 hA hrd (q2.fix hm2) hn.1 hdr (by simpa using hc) hok;intro K Q hK;unfold Oper.wp;have hrun:(execOp a.eval o).run P w= .ok (.value v) w':=by
       simp only[execOp,hop,resolve,invoke,builtin,Sem.run_bind,Sem.run_pure,Result.andThen,List.map_toArray,List.map_cons,List.map_nil];rw[hvv,k1]
      rw[hrun,Oper.upon_value,hd];exact hK v w' F2 S2 k2
     ·cases h
    ·cases h
   ·cases h
  ·cases h
 ·cases h

structure Pat(rows rows':List Row)(i:Nat)(r:Row):Prop where
 len:rows'.length=rows.length
 same:∀(j:Nat) (q q':Row),rows[j]? =some q->rows'[j]? =some q'->q'.d=q.d/\q'.used=q.used/\q'.gb=q.gb/\(q.d∈r.rs->q'=q)

theorem Pat.refl(rows:List Row)(i:Nat)(r:Row):Pat rows rows i r:=
 ⟨rfl,fun j q q' h h'=>by rw[h]at h';injection h' with h';subst h';exact⟨rfl,rfl,rfl,fun _=>rfl⟩⟩
theorem Pat.get{rows rows':List Row}{i:Nat}{r:Row}(h:Pat rows rows' i r){j:Nat}{q:Row}(hq:rows[j]? =some q):∃q',rows'[j]? =some q'/\q'.d=q.d/\q'.used=q.used/\q'.gb=q.gb/\(q.d∈r.rs->q'=q):=by
 have hj:j<rows'.length:=by
  rw[h.len];rcases Nat.lt_or_ge j rows.length with h|h
  ·exact h
  ·rw[List.getElem?_eq_none h]at hq;cases hq
 exact⟨rows'[j],List.getElem?_eq_getElem hj,h.same j q _ hq (List.getElem?_eq_getElem hj)⟩
theorem Pat.back{rows rows':List Row}{i:Nat}{r:Row}(h:Pat rows rows' i r){j:Nat}{q':Row}(hq:rows'[j]? =some q'):∃q,rows[j]? =some q/\q'.d=q.d/\q'.used=q.used/\q'.gb=q.gb:=by
 have hj:j<rows.length:=by
  rw[<-h.len];rcases Nat.lt_or_ge j rows'.length with h|h
  ·exact h
  ·rw[List.getElem?_eq_none h]at hq;cases hq
 have:=h.same j _ q' (List.getElem?_eq_getElem hj) hq
 exact⟨rows[j],List.getElem?_eq_getElem hj,this.1,this.2.1,this.2.2.1⟩
theorem Pat.ud{rows rows':List Row}{i:Nat}{r:Row}(h:Pat rows rows' i r)(hu:UD rows):UD rows':=by
 intro a b x y hx hy hd
 obtain⟨x',h1,h2,_⟩:=h.back hx
 obtain⟨y',h3,h4,_⟩:=h.back hy
 exact hu a b x' y' h1 h3 (by rw[<-h2,<-h4];exact hd)

theorem wanted_ok{rows':List Row}(ht:Tab pd C env0 ops rows){T:Nat->Bool}{i:Nat}{r:Row}{o:Oper}(hr:rows[i]? =some r)(hf:vS pd C env0 (rows.take i) o r)(hg:∀g b,o.guard=some (g,b)->T g=true)
  (hpat:Pat rows rows' i r) (hsame:∀s∈r.rs,Same (sel rows' T 0) (rows.take i) s) {a:Act} {w:World} {F:aA} {S:Nat->aA} (hi:aJ P C.np w0 F0 H (stR true (sel rows' T 0) env0) a w F S)
  (hund:∀j q,rows'[j]? =some q->T j=true->q.gb=false->a.tmps.getD q.d undef=undef):Region.wanted o (yielded ops a.tmps)=r.gb:=by
 obtain⟨gs,h1,hrs⟩:=hf.guard
 unfold Region.wanted
 cases hog:o.guard with
 |none=>
  rw[hog]at h1;simp only[mC,Option.some.injEq,Prod.mk.injEq]at h1;exact h1.1
 |some gb=>
  obtain⟨g,b⟩:=gb;rw[hog]at h1;simp only[mC]at h1;split at h1
  ·rename_i q hq
   split at h1
   ·rename_i p hp
    cases hu:dC (rows.take i) q.d
    ·rw[hu]at h1
     simp only[cond_false,Option.some.injEq,Prod.mk.injEq]at h1;obtain⟨e1,e2,e3⟩:=h1;have hgi:g<i:=by
      rw[List.getElem?_take]at hq;split at hq
      ·assumption
      ·cases hq
     rw[List.getElem?_take,if_pos hgi]at hq;obtain⟨og,hog2,hfg⟩:=ht.facts hq;have hTg:=hg g b hog;have hqr:q.d∈r.rs:=by rw[hrs,<-e3];simp
     have hs:Same (sel rows' T 0) (rows.take i) q.d:=hsame q.d hqr
     have hq':rows'[g]? =some q:=by
      obtain⟨q',g1,_,_,_,g2⟩:=hpat.get hq;rw[<-g2 hqr];exact g1
     have hlook:=(hpat.ud ht.ud).look hq' hTg
     have hy:yielded ops a.tmps g=match a.tmps.getD q.d undef with
      | .bool b=>some b
      |_=>none:=by
      unfold yielded;rw[hog2];simp only[Option.bind_some,hfg.dst,Array.getD_eq_getD_getElem?];cases ht':a.tmps[q.d]? with
      |none=>rfl
      |some v=>cases v<;>rfl
     simp only[];rw[hy];cases hqg:q.gb
     ·rw[hund g q hq' hTg hqg]
      rw[<-e1,hqg];rfl
     ·have hst:stR true (sel rows' T 0) env0 q.d= .shr .bool p:=by
       have hb:cR true (sel rows' T 0) env0 q.d= .shr .bool p:=by
        unfold cR;rw[hlook];simp only[Row.ent,cond_true,hqg,hp]
       rw[iX (hs.2.trans hu) (by rw[hb];intro q hq;cases hq),hb]
      have he:=hi.ent q.d
      rw[hst]at he;have he:aT F w .bool .shr none' (a.tmps.getD q.d undef) p:=he;rw[he.bool_eq,<-e1,hqg];cases p<;>cases b<;>rfl
    ·rw[hu]at h1;cases h1
   ·cases h1
  ·cases h1

theorem row_okP{rows':List Row}(hC:aG P C)(ht:Tab pd C env0 ops rows){T:Nat->Bool}{i:Nat}{r:Row}{o:Oper}(hr:rows[i]? =some r)(hTi:T i=false)(ho:ops[i]? =some o)(hg:∀g b,o.guard=some (g,b)->T g=true)
  (hpat:Pat rows rows' i r) (hr':rows'[i]? =some r) (hall:∀r0 p0,r.pd=some (r0,p0)->∀t,iP r0 p0 (stR true (sel rows' T 0) env0 t)) (hag:∀s∈r.rs,∀j q,rows[j]? =some q->q.d=s∨s∈q.used->T j=Nat.blt j i):
  ∀a w,mO P C w0 F0 H env0 rows' T a w->wpOp P ops Q i (mO P C w0 F0 H env0 rows' (cK T i)) a w:=by
 intro a w hJ
 obtain⟨F,S,hi,hund⟩:=hJ
 obtain⟨o',ho',hf⟩:=ht.facts hr
 rw[ho]at ho';injection ho' with ho';subst ho'
 have hsame:∀s∈r.rs,Same (sel rows' T 0) (rows.take i) s:=by
  intro s hs;rw[sel_take rows i 0];refine⟨(jK rows rows' 0 hpat.len fun j q q' hq hq'=> ?_).symm,(lQ rows rows' 0 hpat.len fun j q q' hq hq'=> ?_).symm⟩
  ·obtain⟨g1,g2,g3,g4⟩:=hpat.same j q q' hq hq'
   exact⟨g1,fun hd=>⟨by have:=hag s hs j q hq (.inl hd);simpa using this.symm,g4 (hd▸hs)⟩⟩
  ·obtain⟨g1,g2,g3,g4⟩:=hpat.same j q q' hq hq'
   exact⟨g2,fun hd=>by have:=hag s hs j q hq (.inr hd);simpa using this.symm⟩
 have hud:=hpat.ud ht.ud
 have hw:=wanted_ok ht hr hf hg hpat hsame hi hund
 obtain⟨gs,hgd,hrs⟩:=hf.guard
 have hund':∀(v:Value),(r.gb=false->v=undef)->Wr C.np r.d->∀j q,rows'[j]? =some q->cK T i j=true->q.gb=false->(a.put (some r.d) v).tmps.getD q.d undef=undef:=by
  intro v hv hd j q hq hT hqg;rw[Act.getD_put (by rw[hi.slots.size];exact hd.1)];by_cases hj:j=i
  ·subst hj
   rw[hr']at hq;injection hq with hq;subst hq;rw[if_pos rfl];exact hv hqg
  ·have:q.d≠r.d:=fun h=>hj (hud _ _ _ _ hq hr' h)
   rw[if_neg this];simp only[cK,cE hj,Bool.false_or]at hT;exact hund j q hq hT hqg
 have hdN:Wr C.np r.d:=by
  rcases hf.op with⟨c,hop,_⟩|⟨c,r0,p0,_,hop,_⟩
  ·unfold opE at hop
   rw[hf.dst]at hop;simp only[]at hop;cases hb:wrB C r.d
   ·rw[hb]at hop;cases hop
   ·exact eA hb
  ·exact pendE_wr hf.dst hop
 unfold wpOp
 rw[ho]
 simp only[]
 rw[hw]
 cases hgb:r.gb
 ·simp only[Bool.false_eq_true,if_false]
  rw[hf.dst];refine⟨F,_,nE hud hr' hTi hf.fresh (S:=fun t=>if t=r.d then none' else S t) ?_,hund' undef (fun _=>rfl) hdN⟩
  have hch:r.ch≠ []:=by
   intro h;have:=(ht.gb i hr).2 (by rw[h];intro x hx;cases hx);rw[hgb]at this;cases this
  have hus:r.used=[]:=(hf.cond.resolve_left hch).elim (fun h=>h.1) (fun h=>by rw[hgb]at h;cases h)
  have he:r.ent true= .dead:=by simp[Row.ent,hgb]
  rw[hus,he];exact hi.putSimple hdN rfl (fun h=>by cases h) trivial
 ·simp only[if_true]
  left
  have hHolds:∀x∈r.ch,Holds rows x:=(ht.gb i hr).1 hgb
  have hview:∀z,(∀s,z= .tmp s-> .tmp s∈o.op.operands)->FillOK (rows.take i) z->
    aU P F w (stR true (sel rows' T 0) env0) (fun t=>a.tmps.getD t undef) S (a.eval z) (bR (stR false (rows.take i) env0) z):=by
   intro z hz hfill;refine tL hi hfill ?_;intro s hs;have hm:=o8 (st:=stR false (rows.take i) env0) (s:=s) (l:=o.op.operands.toList) (by simpa using hz s hs);exact⟨hsame s (by rw[hrs];simp[hm.1]),fun q hq=>hsame q (by rw[hrs];simp[hm.2 q hq])⟩
  have hv:VOK P F w (stR true (sel rows' T 0) env0) a S o.op (bR (stR false (rows.take i) env0)):=by
   by_cases hp:∃c x y,o.op= .pick c x y
   ·obtain⟨c,x,y,hp⟩:=hp
    have hB:=hf.opd
    rw[hp]at hB;simp only[chB,pickB,Bool.and_eq_true,Bool.or_eq_true]at hB;obtain⟨hc,hxy⟩:=hB;have hz:∀z,z=c∨z=x∨z=y->∀s,z= .tmp s->Operand.tmp s∈o.op.operands:=by
     intro z hz s hs;rw[hp];simp only[Op.operands,List.mem_toArray,List.mem_cons,List.not_mem_nil,or_false];subst hs;rcases hz with rfl|rfl|rfl<;>simp
    rw[hp];refine⟨hview c (hz c (.inl rfl)) (ht.fill hc hHolds),?_,?_⟩
    ·intro b hb hbt
     refine hview x (hz x (.inr (.inl rfl))) ?_
     rcases hxy with hxy|hxy
     ·exact ht.fill hxy.1 hHolds
     ·split at hxy
      ·rename_i s
       split at hxy
       ·rename_i j q hq
        split at hxy
        ·rename_i p hpe
         obtain⟨_,q2,q3⟩:=kJ hq;simp only[Bool.and_eq_true]at hxy;refine ht.fill hxy.1 ?_;intro u hu;rcases List.mem_cons.1 hu with rfl|hu
         ·refine⟨q,?_,?_⟩
          ·simp only[Nat.sub_zero,List.getElem?_take]at q2
           split at q2
           ·exact q2
           ·cases q2
          ·rcases eH false (rows.take i) env0 s with k|⟨k,_,_⟩
           ·simp only[bR,k,aP.val]at hb;cases hb
           ·have:stR false (rows.take i) env0 s= .shr .bool p:=by
             rw[k];unfold cR;rw[q3];simp only[Row.ent,cond_false,hpe]
            have:=aP.val_bool hb this
            rw[hpe,this,hbt]
         ·exact hHolds u hu
        ·cases hxy
       ·cases hxy
      ·cases hxy
    ·intro b hb hbt
     refine hview y (hz y (.inr (.inr rfl))) ?_
     rcases hxy with hxy|hxy
     ·exact ht.fill hxy.2 hHolds
     ·split at hxy
      ·rename_i s
       split at hxy
       ·rename_i j q hq
        split at hxy
        ·rename_i p hpe
         obtain⟨_,q2,q3⟩:=kJ hq;simp only[Bool.and_eq_true]at hxy;refine ht.fill hxy.2 ?_;intro u hu;rcases List.mem_cons.1 hu with rfl|hu
         ·refine⟨q,?_,?_⟩
          ·simp only[Nat.sub_zero,List.getElem?_take]at q2
           split at q2
           ·exact q2
           ·cases q2
          ·rcases eH false (rows.take i) env0 s with k|⟨k,_,_⟩
           ·simp only[bR,k,aP.val]at hb;cases hb
           ·have:stR false (rows.take i) env0 s= .shr .bool p:=by
             rw[k];unfold cR;rw[q3];simp only[Row.ent,cond_false,hpe]
            have:=aP.val_bool hb this
            rw[hpe,this,hbt]
         ·exact hHolds u hu
        ·cases hxy
       ·cases hxy
      ·cases hxy
   ·have hp':∀c x y,o.op≠ .pick c x y:=fun c x y h=>hp ⟨c,x,y,h⟩
    refine VOK_of hp' ?_
    intro z hz;have hB:=allB_ok (chB_of hp' hf.opd) z (by simpa using hz);exact hview z (fun s hs=>hs▸hz) (ht.fill hB hHolds)
  have he:r.ent true=r.e:=by simp[Row.ent,hgb]
  rcases hf.op with⟨c,hop,hc,_⟩|⟨c,r0,p0,_,hop,hc,hpd⟩
  ·obtain⟨d,hd1,hd2,hstep⟩:=opE_ok hC hi hv hop (hc hgb)
   rw[hf.dst]at hd1;injection hd1 with hd1;subst hd1;refine hstep _ Q ?_;intro v w' F2 S2 h2;refine⟨F2,S2,nE hud hr' hTi hf.fresh ?_,hund' v (fun h=>by rw[hgb]at h;cases h) hdN⟩
   rw[he];exact h2
  ·refine pendE_ok hC hi hf.dst hv hop hc ?_ _ Q ?_
   ·intro t
    rcases iV r.used (stR true (sel rows' T 0) env0) t with h|h
    ·rw[h];trivial
    ·rw[h];exact hall r0 p0 hpd t
   ·intro v w' F2 S2 h2
    refine⟨F2,S2,nE hud hr' hTi hf.fresh ?_,hund' v (fun h=>by rw[hgb]at h;cases h) hdN⟩
    rw[he];exact h2

theorem row_ok(hC:aG P C)(ht:Tab pd C env0 ops rows){T:Nat->Bool}{i:Nat}{r:Row}{o:Oper}(hr:rows[i]? =some r)(hTi:T i=false)(ho:ops[i]? =some o)(hg:∀g b,o.guard=some (g,b)->T g=true)
  (hall:∀r0 p0,r.pd=some (r0,p0)->∀t,iP r0 p0 (stR true (sel rows T 0) env0 t)) (hag:∀s∈r.rs,∀j q,rows[j]? =some q->q.d=s∨s∈q.used->T j=Nat.blt j i):
  StepJ P ops Q (mO P C w0 F0 H env0 rows) T i:=row_okP hC ht hr hTi ho hg (.refl rows i r) hr hall hag
end
end Go.Lf
namespace Go.Lf

def stF(rows:List Row)(env0:St):St:=fun t=>match bS rows t with
 |some r=>bif cW r.ch||r.e.isOwner then stR false rows env0 t else .dead
 |none=>stR false rows env0 t

def gZ(stp:St->Oper->Option (Prop×St)):St->List Oper->Option (Prop×St)
 |st,[]=>some (True,st)
 |st,o::l=>bif isNone o.guard then(match stp st o with
  |some (c,st1)=>match gZ stp st1 l with
   |some (c',st2)=>some (c/\c',st2)
   |none=>none
  |none=>none)else none

def andP(c:Prop):Option (Prop×St)->Option (Prop×St)
 |some (c',st)=>some (c/\c',st)
 |none=>none

def xA(ops:List Oper)(anc:List Nat)(rows:List Row)(tail:List Oper):Bool:=
 rP ops 0&&gdB anc ops 0&&nK anc rows rows 0&&sF anc tail rows.length

def x3(C:Ctx)(stp:St->Oper->Option (Prop×St))(draw:Bool)(st:St)(ops:List Oper):Option (Prop×St):=
 match fC false C st ops []with
 |(c,rows,tail)=>bif !draw||xA ops (dT ops) rows tail then andP c (gZ stp (stF rows st) tail)else none

def dM(P:Program)(C:Ctx)(stp:St->Oper->Option (Prop×St)):Prop:=
 ∀ {w0:World} {F0 H:aA} {env env':St} {a:Act} {w:World} {o:Oper} {c:Prop},Inv P C.np w0 F0 H env a w->stp env o=some (c,env')->c->
  ∀(K:Act->World->Prop) (Q:Exit->Act->World->Prop),(∀a' w',Inv P C.np w0 F0 H env' a' w'->K a' w')->o.wp P a w K Q

section
variable {pd:Bool} {P:Program} {C:Ctx} {w0:World} {F0 H:aA} {env0:St} {ops:Array Oper} {rows:List Row} {Q:Exit->Act->World->Prop}

theorem oK{anc:List Nat}{r:Row}{i:Nat}:∀ {l:List Row} {k:Nat},uA anc r i l k=true->∀j q,l[j]? =some q->tO q r.rs=true->
  k+j=i∨(anc.getD i 0).testBit (k+j)=true∨(anc.getD (k+j) 0).testBit i=true
 | [],_,_,j,q,h,_=>by simp at h
 |p::l,k,h,j,q,hq,ht=>by
  simp only[uA,Bool.and_eq_true,Bool.or_eq_true,Bool.not_eq_true']at h;cases j with
  |zero=>
   simp at hq;subst hq
   simp only[Nat.add_zero];rcases h.1 with((h1|h1)|h1)|h1
   ·exact .inl (aY.1 h1)
   ·rw[ht]at h1;cases h1
   ·exact .inr (.inl h1)
   ·exact .inr (.inr h1)
  |succ j=>
   have:=oK h.2 j q (by simpa using hq) ht
   simpa[Nat.add_assoc,Nat.add_comm 1 j]using this

theorem p7{anc:List Nat}{rows:List Row}:∀ {l:List Row} {k:Nat},nK anc rows l k=true->∀i r,l[i]? =some r->uA anc r (k+i) rows 0=true
 | [],_,_,i,r,h=>by simp at h
 |p::l,k,h,i,r,hr=>by
  simp only[nK,Bool.and_eq_true]at h;cases i with
  |zero=>simp at hr;subst hr;simpa using h.1
  |succ i=>
   have:=p7 h.2 i r (by simpa using hr)
   simpa[Nat.add_assoc,Nat.add_comm 1 i]using this

theorem yR{anc:List Nat}:∀ {l:List Oper} {k:Nat},gdB anc l k=true->∀i o g b,l[i]? =some o->o.guard=some (g,b)->(anc.getD (k+i) 0).testBit g=true
 | [],_,_,i,o,g,b,h,_=>by simp at h
 |p::l,k,h,i,o,g,b,ho,hg=>by
  simp only[gdB,Bool.and_eq_true]at h;cases i with
  |zero=>
   simp at ho;subst ho
   have:=h.1
   rw[hg]at this
   simpa using this
  |succ i=>
   have:=yR h.2 i o g b (by simpa using ho) hg
   simpa[Nat.add_assoc,Nat.add_comm 1 i]using this

theorem tQ{anc:List Nat}:∀ {l:List Oper} {k:Nat},sF anc l k=true->∀i,i<l.length->∀j,j<k+i->(anc.getD (k+i) 0).testBit j=true
 | [],_,_,i,hi,_,_=>by simp at hi
 |p::l,k,h,i,hi,j,hj=>by
  simp only[sF,Bool.and_eq_true]at h;cases i with
  |zero=>
   simp only[Nat.add_zero]at hj⊢;have h1:=aY.1 h.1;have h2:(2^k-1).testBit j=true:=by rw[Nat.testBit_two_pow_sub_one];exact decide_eq_true hj
   rw[<-h1]at h2;have h3:((anc.getD k 0)&&&(2^k-1)).testBit j=true:=h2;rw[Nat.testBit_and,Bool.and_eq_true]at h3;exact h3.1
  |succ i=>
   have:=tQ h.2 i (by simpa using hi) j (by omega)
   simpa[Nat.add_assoc,Nat.add_comm 1 i]using this

theorem oE{q:Row}{s:Nat}:∀ {l:List Nat},s∈l->(q.d=s∨s∈q.used)->tO q l=true
 |x::l,h,hq=>by
  simp only[tO,Bool.or_eq_true];rcases List.mem_cons.1 h with rfl|h
  ·exact .inl (hq.imp aY.2 fF.2)
  ·exact .inr (oE h hq)

theorem kY(hlow:∀i k,fA ops i k->k<i){i k:Nat}(h:fU ops i k):k<i:=by
 induction h with
 |one h=>exact hlow _ _ h
 |more h _ ih=>exact Nat.lt_trans ih (hlow _ _ h)

theorem mO.doneG(hg1:∀(i:Nat) (r:Row),rows[i]? =some r->(cW r.ch||r.e.isOwner)=true->r.gb=true){T:Nat->Bool}(hT:∀j,j<rows.length->T j=true){a:Act}{w:World}(h:mO P C w0 F0 H env0 rows T a w):Inv P C.np w0 F0 H (stF rows env0) a w:=by
 obtain⟨F,S,hi,_⟩:=h
 rw[pX rows 0 (fun j hj=>by simpa using hT j hj)]at hi
 refine⟨F,S,?_⟩
 have hfact:∀(t:Nat) (r:Row),bS rows t=some r->∃i:Nat,rows[i]? =some r/\r.d=t:=by
  intro t r h;obtain⟨h1,h2⟩:=eK h;obtain⟨i,hi⟩:=List.mem_iff_getElem?.1 h1;exact⟨i,hi,h2⟩
 have hgb:∀(t:Nat) (r:Row),bS rows t=some r->(cW r.ch||r.e.isOwner)=true->r.ent true=r.ent false:=by
  intro t r h hch;obtain⟨i,h1,h2⟩:=hfact t r h;have:r.gb=true:=hg1 i r h1 hch;simp[Row.ent,this]
 have hfalse:∀t,(∀r,bS rows t=some r->(cW r.ch||r.e.isOwner)=true)->stR false rows env0 t=stR true rows env0 t:=by
  intro t h;have:cR false rows env0 t=cR true rows env0 t:=by
   unfold cR;cases hl:bS rows t with
   |none=>rfl
   |some r=>exact(hgb t r hl (h r hl)).symm
  unfold stR;rw[this]
 have key:∀t,stF rows env0 t=stR true rows env0 t∨stF rows env0 t= .dead:=by
  intro t;unfold stF;cases hl:bS rows t with
  |none=>simp only[];exact .inl (hfalse t (fun r h=>by rw[hl]at h;cases h))
  |some r=>
   simp only[];cases hch:(cW r.ch||r.e.isOwner)
   ·exact .inr rfl
   ·exact .inl (hfalse t (fun r' h=>by rw[hl]at h;injection h with h;subst h;exact hch))
 refine hi.weaken key ?_
 intro t q hq
 have ho:(stR true rows env0 q).isOwner=true:=by
  rcases key t with h|h
  ·exact(hi.ent t).root_owner (r:=q) (by rw[<-h];exact hq)
  ·rw[h]at hq;cases hq
 have hch:∀r,bS rows q=some r->(cW r.ch||r.e.isOwner)=true:=by
  intro r hl;rcases eH true rows env0 q with k|⟨k,_,_⟩
  ·rw[k]at ho;cases ho
  ·rw[k]at ho
   unfold cR at ho;rw[hl]at ho;simp only[Row.ent,cond_true]at ho;cases hg:r.gb
   ·rw[hg]at ho;cases ho
   ·rw[hg]at ho;simp only[cond_true]at ho;rw[ho];simp
 unfold stF
 cases hl:bS rows q with
 |none=>simp only[];exact hfalse q hch
 |some r=>simp only[hch r hl,cond_true];exact hfalse q hch

theorem Tab.gow(ht:Tab pd C env0 ops rows){i:Nat}{r:Row}(hr:rows[i]? =some r)(h:(cW r.ch||r.e.isOwner)=true):r.gb=true:=by
 obtain⟨o,_,hf⟩:=ht.facts hr
 have h0:r.ch=[]->r.gb=true:=fun hch=>(ht.gb i hr).2 (by rw[hch];intro x hx;cases hx)
 rcases hf.cond with h1|⟨_,h1⟩|h1
 ·exact h0 h1
 ·rw[h1,Bool.or_false]at h;exact h0 (fR.1 h)
 ·exact h1

theorem mO.done(ht:Tab pd C env0 ops rows){T:Nat->Bool}(hT:∀j,j<rows.length->T j=true){a:Act}{w:World}(h:mO P C w0 F0 H env0 rows T a w):Inv P C.np w0 F0 H (stF rows env0) a w:=by
 exact h.doneG (fun i r hr hch=>ht.gow hr hch) hT

theorem tP{stp:St->Oper->Option (Prop×St)}{st st':St}{o:Oper}{l:List Oper}{c:Prop}(h:gZ stp st (o::l)=some (c,st'))(hc:c):
  o.guard=none/\∃c1 st1 c2,stp st o=some (c1,st1)/\c1/\gZ stp st1 l=some (c2,st')/\c2:=by
 simp only[gZ]at h
 cases hg:isNone o.guard
 ·rw[hg]at h;cases h
 rw[hg]at h
 simp only[cond_true]at h
 split at h
 ·rename_i c1 st1 h1
  split at h
  ·rename_i c2 st2 h2
   simp only[Option.some.injEq,Prod.mk.injEq]at h;obtain⟨rfl,rfl⟩:=h;exact⟨fQ.1 hg,c1,st1,c2,h1,hc.1,h2,hc.2⟩
  ·cases h
 ·cases h

theorem sG(hC:aG P C){stp:St->Oper->Option (Prop×St)}(hstp:dM P C stp){draw:Bool}{c1 c2:Prop}{rows:List Row}{tail:List Oper}{st2:St}
  (hgen:fC pd C env0 ops.toList []=(c1,rows,tail)) (hc1:c1) (hB:(!draw||xA ops.toList (dT ops.toList) rows tail)=true) (htl:gZ stp (stF rows env0) tail=some (c2,st2)) (hc2:c2)
  (hall:∀i r r0 p0,rows[i]? =some r->r.pd=some (r0,p0)->∀T:Nat->Bool,T i=false->∀t,iP r0 p0 (stR true (sel rows T 0) env0 t))
  {a:Act} {w:World} (hi:Inv P C.np w0 F0 H env0 a w) (hQ:∀a' w',Inv P C.np w0 F0 H st2 a' w'->Q .normal a' w'):mY P ops draw Q a w:=by
  obtain⟨ht,htail⟩:=iM (ops:=ops) ops.toList [] hgen hc1 (by simp) (fun i r hr=>by simp at hr)
  have htd:tail=ops.toList.drop rows.length:=by
   apply List.ext_getElem?
   intro j;rw[htail j];simp
  have hlen:rows.length<=ops.size:=by
   rcases Nat.lt_or_ge ops.size rows.length with h|h
   ·obtain⟨o,ho,_⟩:=ht.facts (List.getElem?_eq_getElem h)
    simp at ho
   ·exact h
  have hdB:draw=true->rP ops.toList 0=true/\gdB (dT ops.toList) ops.toList 0=true/\nK (dT ops.toList) rows rows 0=true/\sF (dT ops.toList) tail rows.length=true:=by
   intro hd;subst hd;simp only[Bool.not_true,Bool.false_or,xA,Bool.and_eq_true]at hB;exact⟨hB.1.1.1,hB.1.1.2,hB.1.2,hB.2⟩
  have hlow:draw=true->∀i k,fA ops i k->k<i:=fun hd i k hw=>qD ops.toList 0 (by simp) (hdB hd).1 i k (Nat.zero_le i) hw
  have hanc:∀ {j k:Nat},((dT ops.toList).getD j 0).testBit k=true->fU ops j k:=by
   intro j k h;have:=mL h
   simpa using this
  let J:(Nat->Bool)->Act->World->Prop:=fun T a w=>
   ((∀j,rows.length<=j->T j=false)/\mO P C w0 F0 H env0 rows T a w)∨
   ∃k st1 c1,rows.length<=k/\(∀j,j<ops.size->(T j=true↔j<k))/\Inv P C.np w0 F0 H st1 a w/\gZ stp st1 (ops.toList.drop k)=some (c1,st2)/\c1
  have htstep:∀ {T:Nat->Bool} {k:Nat} {st1:St} {c1:Prop} {a:Act} {w:World},k<ops.size->rows.length<=k->(∀j,j<ops.size->(T j=true↔j<k))->Inv P C.np w0 F0 H st1 a w->
    gZ stp st1 (ops.toList.drop k)=some (c1,st2)->c1->wpOp P ops Q k (J (cK T k)) a w:=by
   intro T k st1 c1 a w hk hmk hTk hinv hte hcc;have hdrop:ops.toList.drop k=ops[k]::ops.toList.drop (k+1):=by
    rw[List.drop_eq_getElem_cons (by simpa using hk)];simp
   rw[hdrop]at hte;obtain⟨hg,c3,st3,c4,h1,h2,h3,h4⟩:=tP hte hcc;unfold wpOp;rw[Array.getElem?_eq_getElem hk];simp only[];have hwant:Region.wanted ops[k] (yielded ops a.tmps)=true:=by unfold Region.wanted;rw[hg]
   rw[hwant];simp only[if_true];left;refine hstp hinv h1 h2 _ Q ?_;intro a' w' hinv';refine .inr ⟨k+1,st3,c4,by omega,?_,hinv',h3,h4⟩
   intro j hj;unfold cK;rw[Bool.or_eq_true,aY,hTk j hj];omega
  refine iQ J hlow ?_ ?_ ?_
  ·intro T i hin hTi hdr hnd
   intro a w hJ;have hwait:∀k,rows.length<=i->k<i->T k=true:=by
    intro k hmi hki;cases draw with
    |true=>
     obtain⟨hcl,hw⟩:=hdr rfl;have:=tQ (hdB rfl).2.2.2 (i-rows.length) (by rw[htd];simp;omega) k (by omega);rw[show rows.length+(i-rows.length)=i from by omega]at this
     exact bV hcl hw (hanc this)
    |false=>rw[hnd rfl k];exact dY.2 hki
   rcases hJ with⟨hpre,hI⟩|⟨k,st1,c1,hmk,hTk,hinv,hte,hcc⟩
   ·by_cases him:i<rows.length
    ·have hr:rows[i]? =some rows[i]:=List.getElem?_eq_getElem him
     have ho:ops[i]? =some ops[i]:=Array.getElem?_eq_getElem hin
     obtain⟨o',ho',hf⟩:=ht.facts hr;rw[ho]at ho';injection ho' with ho';subst ho';have hgd:∀g b,ops[i].guard=some (g,b)->T g=true:=by
      intro g b hgb;cases draw with
      |true=>
       obtain⟨hcl,hw⟩:=hdr rfl;have:=yR (hdB rfl).2.1 i ops[i] g b (by simp[hin]) hgb;rw[Nat.zero_add]at this;exact bV hcl hw (hanc this)
      |false=>
       rw[hnd rfl g];obtain⟨gs,hg,_⟩:=hf.guard;rw[hgb]at hg;simp only[mC]at hg;split at hg
       ·rename_i q hq
        rw[List.getElem?_take]at hq;split at hq
        ·rename_i hgi;exact dY.2 hgi
        ·cases hq
       ·cases hg
     have hag:∀s∈rows[i].rs,∀j q,rows[j]? =some q->q.d=s∨s∈q.used->T j=Nat.blt j i:=by
      intro s hs j q hq hd;cases draw with
      |true=>
       obtain⟨hcl,hw⟩:=hdr rfl;have h1:=p7 (hdB rfl).2.2.1 i _ hr;rw[Nat.zero_add]at h1;have h2:=oK h1 j q hq (oE hs hd);rw[Nat.zero_add]at h2;rcases h2 with h2|h2|h2
       ·subst h2;rw[hTi,lL]
       ·rw[bV hcl hw (hanc h2),dY.2 (kY (hlow rfl) (hanc h2))]
       ·have hlt:=kY (hlow rfl) (hanc h2)
        have e1:Nat.blt j i=false:=by
         cases hb:Nat.blt j i
         ·rfl
         ·have:=dY.1 hb;omega
        rw[e1];cases hTj:T j
        ·rfl
        ·have:=hcl.reach (hanc h2) hTj
         rw[hTi]at this;cases this
      |false=>exact hnd rfl j
     refine wpOp_mono ?_ (row_ok hC ht hr hTi ho hgd (fun r0 p0 h=>hall i _ r0 p0 hr h T hTi) hag a w hI)
     intro a' w' hI';refine .inl ⟨?_,hI'⟩;intro j hj;simp only[cK,cE (show j≠i by omega),Bool.false_or]
     exact hpre j hj
    ·have him':i=rows.length:=by
      rcases Nat.lt_or_ge rows.length i with h|h
      ·have h1:=hwait rows.length (by omega) h
       rw[hpre rows.length (Nat.le_refl _)]at h1;cases h1
      ·omega
     subst him';have hall:∀j,j<rows.length->T j=true:=fun j hj=>hwait j (Nat.le_refl _) hj
     refine htstep hin (Nat.le_refl _) ?_ (hI.done ht hall) (by rw[<-htd];exact htl) hc2
     intro j hj;constructor
     ·intro h
      rcases Nat.lt_or_ge j rows.length with h'|h'
      ·exact h'
      ·rw[hpre j h']at h;cases h
     ·exact hall j
   ·have hki:k<=i:=by
     rcases Nat.lt_or_ge i k with h|h
     ·have:=(hTk i hin).2 h
      rw[hTi]at this;cases this
     ·exact h
    have hik:i=k:=by
     rcases Nat.lt_or_ge k i with h|h
     ·have h1:=hwait k (by omega) h
      have:=(hTk k (by omega)).1 h1
      omega
     ·omega
    subst hik;exact htstep hin hmk hTk hinv hte hcc
  ·intro T a w hT hJ
   rcases hJ with⟨hpre,hI⟩|⟨k,st1,c1,hmk,hTk,hinv,hte,hcc⟩
   ·have hm:ops.size<=rows.length:=by
     rcases Nat.lt_or_ge rows.length ops.size with h|h
     ·have:=hT rows.length h
      rw[hpre _ (Nat.le_refl _)]at this;cases this
     ·exact h
    have hnil:tail=[]:=by rw[htd];simp;omega
    rw[hnil]at htl;simp only[gZ,Option.some.injEq,Prod.mk.injEq]at htl;obtain⟨_,rfl⟩:=htl;exact hQ a w (hI.done ht (fun j hj=>hT j (by omega)))
   ·have hk:ops.size<=k:=by
     rcases Nat.lt_or_ge k ops.size with h|h
     ·have:=(hTk k h).1 (hT k h);omega
     ·exact h
    have hnil:ops.toList.drop k=[]:=by simp;omega
    rw[hnil]at hte;simp only[gZ,Option.some.injEq,Prod.mk.injEq]at hte;obtain⟨_,rfl⟩:=hte;exact hQ a w hinv
  ·intro w' hh hos htp hout
   obtain⟨F,S,hi⟩:=hi;refine .inl ⟨fun _ _=>rfl,F,S,?_,fun j q _ h=>by cases h⟩
   have hs:∀(l:List Row) (k:Nat),sel l (fun _=>false) k=[]:=by
    intro l
    induction l with
    |nil=>intro k;rfl
    |cons r l ih=>intro k;simp only[sel,cond_false];exact ih (k+1)
   rw[hs];have he:stR true [] env0=env0:=by
    funext t
    unfold stR cR;simp only[dC,cond_false,bS];cases (env0 t).root<;>rfl
   rw[he];exact hi.world hos htp hout (by rw[hh];exact Nat.le_refl _) (fun b _=>by rw[hh]) (fun k _ _=>by rw[hh])

theorem region_ok(hC:aG P C){stp:St->Oper->Option (Prop×St)}(hstp:dM P C stp){draw:Bool}{st':St}{c:Prop}(h:x3 C stp draw env0 ops.toList=some (c,st'))(hc:c)
  {a:Act} {w:World} (hi:Inv P C.np w0 F0 H env0 a w) (hQ:∀a' w',Inv P C.np w0 F0 H st' a' w'->Q .normal a' w'):mY P ops draw Q a w:=by
 unfold x3 at h
 generalize hgen:fC false C env0 ops.toList []=g at h
 obtain⟨c1,rows,tail⟩:=g
 simp only[]at h
 cases hB:(!draw||xA ops.toList (dT ops.toList) rows tail)
 ·rw[hB]at h;cases h
 rw[hB]at h
 simp only[cond_true]at h
 generalize htl:gZ stp (stF rows env0) tail=g at h
 cases g with
 |none=>cases h
 |some q=>
  obtain⟨c2,st2⟩:=q;simp only[andP,Option.some.injEq,Prod.mk.injEq]at h;obtain⟨rfl,rfl⟩:=h;obtain⟨hc1,hc2⟩:=hc;refine sG hC hstp hgen hc1 hB htl hc2 ?_ hi hQ;intro i r r0 p0 hr hpd;obtain⟨ht,_⟩:=iM (ops:=ops) ops.toList [] hgen hc1 (by simp) (fun i r hr=>by simp at hr)
  obtain⟨o,_,hf⟩:=ht.facts hr;rcases hf.op with⟨_,_,_,h⟩|⟨_,_,_,h,_⟩
  ·rw[h]at hpd;cases hpd
  ·cases h

def rZ(n:Nat)(env:St):St:=fun t=>bif Nat.blt t n then(match(env t).root with
 |some q=>bif Nat.blt q n then env t else .dead
 |none=>env t)else .dead

def qK(r0:Nat)(p0:cM)(i:Nat):List Row->Nat->Prop
 | [],_=>True
 |q::l,j=>(bif Nat.beq j i then True else iP r0 p0 q.e)/\qK r0 p0 i l (j+1)
def qL(r0:Nat)(p0:cM)(env:St):Nat->Prop
 |0=>True
 |n+1=>iP r0 p0 (env n)/\qL r0 p0 env n
def vQ(n:Nat)(env:St)(rows:List Row):List Row->Nat->Prop
 | [],_=>True
 |q::l,i=>(match q.pd with
  |some (r0,p0)=>qK r0 p0 i rows 0/\qL r0 p0 env n
  |none=>True)/\vQ n env rows l (i+1)

def xY(C:Ctx)(stp:St->Oper->Option (Prop×St))(draw:Bool)(st:St)(ops:List Oper):Option (Prop×St):=
 match fC true C (rZ C.N st) ops []with
 |(c,rows,tail)=>bif !draw||xA ops (dT ops) rows tail then andP (c/\vQ C.N (rZ C.N st) rows rows 0) (gZ stp (stF rows (rZ C.N st)) tail)else none

theorem sN{r0:Nat}{p0:cM}{i:Nat}:∀ {l:List Row} {k:Nat},qK r0 p0 i l k->∀j q,l[j]? =some q->k+j≠i->iP r0 p0 q.e
 | [],_,_,j,q,h,_=>by simp at h
 |x::l,k,h,j,q,hq,hne=>by
  cases j with
  |zero=>
   simp only[List.getElem?_cons_zero,Option.some.injEq]at hq;subst hq;have:=h.1;rw[cE (by simpa using hne)]at this;exact this
  |succ j=>exact sN h.2 j q (by simpa using hq) (by omega)
theorem sO{r0:Nat}{p0:cM}{env:St}:∀ {n:Nat},qL r0 p0 env n->∀t,t<n->iP r0 p0 (env t)
 |n+1,h,t,ht=>by
  rcases Nat.lt_or_ge t n with h'|h'
  ·exact sO h.2 t h'
  ·rw[show t=n from by omega];exact h.1
theorem sP{n:Nat}{env:St}{rows:List Row}:∀ {l:List Row} {k:Nat},vQ n env rows l k->∀j q r0 p0,l[j]? =some q->q.pd=some (r0,p0)->qK r0 p0 (k+j) rows 0/\qL r0 p0 env n
 | [],_,_,j,q,_,_,h,_=>by simp at h
 |x::l,k,h,j,q,r0,p0,hq,hp=>by
  cases j with
  |zero=>
   simp only[List.getElem?_cons_zero,Option.some.injEq]at hq;subst hq;have:=h.1;rw[hp]at this;exact this
  |succ j=>
   have:=sP h.2 j q r0 p0 (by simpa using hq) hp
   rw[show k+(j+1)=k+1+j from by omega];exact this

theorem clip_inv{N:NP}{n:Nat}{a:Act}{w:World}(hi:Inv P N w0 F0 H env0 a w):Inv P N w0 F0 H (rZ n env0) a w:=by
 obtain⟨F,S,hi⟩:=hi
 refine⟨F,S,hi.weaken (fun t=> ?_) (fun t r hr=> ?_)⟩
 ·unfold rZ
  cases Nat.blt t n
  ·exact .inr rfl
  ·simp only[cond_true]
   split
   ·rename_i q _
    cases Nat.blt q n
    ·exact .inr rfl
    ·exact .inl rfl
   ·exact .inl rfl
 ·unfold rZ at hr
  cases hb:Nat.blt t n
  ·rw[hb]at hr;cases hr
  rw[hb]at hr;simp only[cond_true]at hr;split at hr
  ·rename_i q hq
   cases hb2:Nat.blt q n
   ·rw[hb2]at hr;cases hr
   rw[hb2]at hr;simp only[cond_true]at hr;rw[hq]at hr;injection hr with hr;subst hr;have ho:=(hi.ent t).root_owner (r:=q) hq;unfold rZ;rw[hb2];simp only[cond_true,Ent.owner_root ho]
  ·rename_i hq
   rw[hq]at hr;cases hr

theorem regionP_ok(hC:aG P C){stp:St->Oper->Option (Prop×St)}(hstp:dM P C stp){draw:Bool}{st':St}{c:Prop}(h:xY C stp draw env0 ops.toList=some (c,st'))(hc:c)
  {a:Act} {w:World} (hi:Inv P C.np w0 F0 H env0 a w) (hQ:∀a' w',Inv P C.np w0 F0 H st' a' w'->Q .normal a' w'):mY P ops draw Q a w:=by
 unfold xY at h
 generalize hgen:fC true C (rZ C.N env0) ops.toList []=g at h
 obtain⟨c1,rows,tail⟩:=g
 simp only[]at h
 cases hB:(!draw||xA ops.toList (dT ops.toList) rows tail)
 ·rw[hB]at h;cases h
 rw[hB]at h
 simp only[cond_true]at h
 generalize htl:gZ stp (stF rows (rZ C.N env0)) tail=g at h
 cases g with
 |none=>cases h
 |some q=>
  obtain⟨c2,st2⟩:=q;simp only[andP,Option.some.injEq,Prod.mk.injEq]at h;obtain⟨rfl,rfl⟩:=h;obtain⟨⟨hc1,hca⟩,hc2⟩:=hc;refine sG hC hstp hgen hc1 hB htl hc2 ?_ (clip_inv hi) hQ;intro i r r0 p0 hr hpd T hTi t;obtain⟨h1,h2⟩:=sP hca i r r0 p0 hr hpd;rw[Nat.zero_add]at h1;have henv:∀t,iP r0 p0 (rZ C.N env0 t):=by
   intro t;rcases Nat.lt_or_ge t C.N with h|h
   ·exact sO h2 t h
   ·have:rZ C.N env0 t= .dead:=by
     unfold rZ;have:Nat.blt t C.N=false:=by
      cases hb:Nat.blt t C.N
      ·rfl
      ·have:=dY.1 hb;omega
     rw[this];rfl
    rw[this];trivial
  rcases eH true (sel rows T 0) (rZ C.N env0) t with h|⟨h,_,_⟩
  ·rw[h];trivial
  ·rw[h]
   unfold cR;cases hl:bS (sel rows T 0) t with
   |none=>exact henv t
   |some q=>
    obtain⟨j,e1,e2⟩:=iS _ 0 (eK hl).1;rw[Nat.zero_add]at e2;have hji:0+j≠i:=by
     intro h;rw[Nat.zero_add]at h;rw[h,hTi]at e2;cases e2
    simp only[Row.ent,cond_true];cases q.gb
    ·trivial
    ·exact sN h1 j q e1 hji
end
end Go.Lf
namespace Go.Lf
def pG(st:St)(r:Nat):St:=
 match st r with
 | .own τ _ x=>upd (cV st r) r (.shr τ x)
 | .box τ _ x=>upd (cV st r) r (.saddr τ x)
 |_=>st
def kC(st:St):List Nat->St
 | []=>st
 |r::l=>kC (pG st r) l
section
variable {P:Program} {N:NP} {w0:World} {F0 H:aA} {env:St} {a:Act} {w:World} {F:aA} {S:Nat->aA}
theorem aJ.freezeE(hi:aJ P N w0 F0 H env a w F S){r:Nat}{e:Ent}(hr:(env r).isOwner=true)
  (he:aF P (fun b=>F b∨S r b) w (upd (cV env r) r e) (fun t=>a.tmps.getD t undef) (fun t=>if t=r then none' else S t) r e):
  aJ P N w0 F0 H (upd (cV env r) r e) a w (fun b=>F b∨S r b) (fun t=>if t=r then none' else S t):=by
 have hap:∀t b,t≠r->S t b->¬S r b:=fun t b h h1 h2=>hi.sd t r h b h1 h2
 refine⟨hi.os,hi.tape,hi.output,hi.size,hi.block,?_,fun b hb=> .inl (hi.f0 b hb),?_,?_,?_,?_,hi.defers,hi.slots⟩
 ·rintro b (hb|hb)
  ·exact hi.fb b hb
  ·exact(hi.sb r b hb).2.1
 ·rintro b (hb|hb) hn
  ·exact hi.fn b hb hn
  ·exact(hi.sb r b hb).1
 ·intro t b ht
  by_cases h:t=r
  ·simp only[h,if_true]at ht;exact ht.elim
  ·simp only[h,if_false]at ht
   obtain⟨g1,g2,g3⟩:=hi.sb t b ht;exact⟨g1,g2,fun hF=>hF.elim g3 (hap t b h ht)⟩
 ·intro t u htu b h1 h2
  by_cases h:t=r
  ·simp only[h,if_true]at h1;exact h1
  ·simp only[h,if_false]at h1
   by_cases h':u=r
   ·simp only[h',if_true]at h2;exact h2
   ·simp only[h',if_false]at h2
    exact hi.sd t u htu b h1 h2
 ·intro t
  by_cases h:t=r
  ·subst h
   rw[bU];exact he
  ·rw[bG _ _ h]
   rcases c9 env r t with h'|⟨h',hne⟩
   ·rw[h'];trivial
   ·rw[h']
    refine aF.keep (fun b hb=> .inl hb) (fun _ _=>rfl) rfl ?_ ?_ (hi.ent t)
    ·intro q hq
     have hqr:q≠r:=fun e=>hne (e▸hq)
     refine⟨fun ho=> ?_,fun _=>rfl,by simp[hqr],fun _ _=>rfl,?_,fun b hb=>(hi.sb q b hb).2.2⟩
     ·rw[bG _ _ hqr];unfold cV eY;rw[Ent.owner_root ho]
     ·rintro b (h1|h1) h2
      ·exact absurd h1 h2
      ·exact fun h3=>hap q b hqr h3 h1
    ·intro _
     refine⟨by simp[h],fun _ _=>rfl,?_⟩
     rintro b (h1|h1) h2
     ·exact absurd h1 h2
     ·exact fun h3=>hap t b h h3 h1
theorem yU{r:Nat}(h:Inv P N w0 F0 H env a w):Inv P N w0 F0 H (pG env r) a w:=by
 obtain⟨F,S,hi⟩:=h
 unfold pG
 split
 ·rename_i τ m x hr
  refine⟨_,_,hi.freezeE (by rw[hr];rfl) ?_⟩
  have h1:=hi.ent r
  rw[hr]at h1;obtain⟨pl,S0,cs,h1⟩:=h1;obtain⟨_,_,_,hS0,hv⟩:=h1.own_inj;exact⟨cs,hv,(Own.freeze (S':=none') h1.2.2).mono (fun k hk=>hk.imp id (fun hk=>by rw[hS0]at hk;exact hk)) (fun _ h=>h)⟩
 ·rename_i τ m x hr
  refine⟨_,_,hi.freezeE (by rw[hr];rfl) ?_⟩
  have h1:=hi.ent r
  rw[hr]at h1;obtain⟨pl,S0,cs,h1⟩:=h1;obtain⟨_,_,b,rfl,hS0,hval,hsb⟩:=h1.box_inj;obtain⟨q1,q2,row,T0,q3,q4,q5⟩:=h1.2.1;refine⟨b,0,row,T0,(0,0),hval,.inr hsb,q3,q4,?_⟩;rw[q5];exact(Own.freeze (S':=none') h1.2.2).mono (fun k hk=>hk.imp id (fun hk=>h1.sub k hk)) (fun _ h=>h)
 ·exact⟨F,S,hi⟩
theorem iT:∀ {l:List Nat} {env:St},Inv P N w0 F0 H env a w->Inv P N w0 F0 H (kC env l) a w
 | [],_,h=>h
 |r::l,_,h=>iT (l:=l) (yU h)
end
end Go.Lf
