/- What is known of a value by its type alone. -/
import Derived.Test.YtagdgckmikcllaaLfe
set_option linter.unusedVariables false
set_option linter.unusedSimpArgs false
namespace Go.Lf

def dR(e:Ent)(τ:Ty)(m:Md)(x:τ.den):Ent:=match e with
 | .box _ _ _=> .box τ m x
 |_=> .own τ m x

section
variable {P:Program} {C:Ctx} {N:NP} {w0:World} {F0 H:aA} {env:St} {a:Act} {w:World} {F:aA} {S:Nat->aA} {d:Nat}

theorem aJ.setRoot(hi:aJ P N w0 F0 H env a w F S){r:Nat}(hr:(env r).isOwner=true){w':World}{Sr:aA}{E:Ent}(hE:E.isOwner=true)
  (h1:w'.os=w.os) (h2:w'.tape=w.tape) (h3:w'.output=w.output) (h4:w.heap.size<=w'.heap.size) (h6:∀k,k<w0.heap.size->¬H k->w'.heap[k]? =w.heap[k]?)
  (h5:∀b,F b∨(∃t,t≠r/\S t b)->w'.heap[b]? =w.heap[b]?) (hS:∀b,Sr b->(w0.heap.size<=b∨H b)/\b<w'.heap.size/\¬F b/\∀t,t≠r->¬S t b)
  (he:aF P F w' (upd (cV env r) r E) (fun t=>a.tmps.getD t undef) (fun t=>if t=r then Sr else S t) r E):
  aJ P N w0 F0 H (upd (cV env r) r E) a w' F (fun t=>if t=r then Sr else S t):=by
 refine⟨h1.trans hi.os,h2.trans hi.tape,h3.trans hi.output,Nat.le_trans hi.size h4,fun k hk hH=>(h6 k hk hH).trans (hi.block k hk hH),fun b hb=>Nat.lt_of_lt_of_le (hi.fb b hb) h4,hi.f0,hi.fn,?_,?_,?_,hi.defers,hi.slots⟩
 ·intro t b ht
  by_cases h:t=r
  ·simp only[h,if_true]at ht
   exact⟨(hS b ht).1,(hS b ht).2.1,(hS b ht).2.2.1⟩
  ·simp only[h,if_false]at ht
   obtain⟨g1,g2,g3⟩:=hi.sb t b ht;exact⟨g1,Nat.lt_of_lt_of_le g2 h4,g3⟩
 ·intro t u htu b hb1 hb2
  by_cases h:t=r
  ·simp only[h,if_true]at hb1
   by_cases h':u=r
   ·exact htu (h.trans h'.symm)
   ·simp only[h',if_false]at hb2
    exact(hS b hb1).2.2.2 u h' hb2
  ·simp only[h,if_false]at hb1
   by_cases h':u=r
   ·simp only[h',if_true]at hb2
    exact(hS b hb2).2.2.2 t h hb1
   ·simp only[h',if_false]at hb2
    exact hi.sd t u htu b hb1 hb2
 ·intro t
  by_cases h:t=r
  ·subst h
   rw[bU];exact he
  ·rw[bG _ _ h]
   rcases c9 env r t with h'|⟨h',hne⟩
   ·rw[h'];trivial
   ·rw[h']
    refine aF.keep (fun _ h=>h) (fun b hb=>h5 b (.inl hb)) rfl ?_ ?_ (hi.ent t)
    ·intro q hq
     have hqr:q≠r:=fun e=>hne (e▸hq)
     refine⟨fun ho=> ?_,fun _=>rfl,by simp[hqr],fun b hb=>h5 b (.inr ⟨q,hqr,hb⟩),fun b h1 h2=>absurd h1 h2,fun b hb=>(hi.sb q b hb).2.2⟩
     rw[bG _ _ hqr];unfold cV eY;rw[Ent.owner_root ho]
    ·intro _
     exact⟨by simp[h],fun b hb=>h5 b (.inr ⟨t,h,hb⟩),fun b h1 h2=>absurd h1 h2⟩


theorem late_store(hC:aG P C)(hi:aJ P N w0 F0 H env a w F S){T:TypeId}{z:Operand}{o:Oper}(ho:o.op= .store T (.tmp d) z)(hod:o.dst=none){τ:Ty}{m:Md}{x y:τ.den}
  (he:env d= .box τ m x) (hf:τ.flat=true) (hT:look C.tys T=some τ) (hv:aT F w τ .shr none' (a.eval z) y) {K:Act->World->Prop} {Q:Exit->Act->World->Prop}
  (hK:∀w' F' S',aJ P N w0 F0 H (upd (cV env d) d (.box τ m y)) a w' F' S'->K a w'):o.wp P a w K Q:=by
 have h1:=hi.ent d
 rw[he]at h1
 obtain⟨pl,S0,cs,h1⟩:=h1
 obtain⟨_,_,b,rfl,hS0,hval,hsb⟩:=h1.box_inj
 obtain⟨q1,q2,row,T0,q3,q4,q5⟩:=h1.2.1
 obtain⟨c',hc',hvo⟩:=hv
 obtain⟨w',k1,k2,k3,k4,k5,k6,k7⟩:=(hC.types T _ hT).storeVar q3 q4 hvo.len hvo.one
 have hval':a.eval (.tmp d)= .pointer (some ⟨b,0,none⟩):=hval
 unfold Oper.wp
 have hrun:(execOp a.eval o).run P w= .ok .skip w':=by
  simp[execOp,ho,Instr.storeAt,hval',Instr.sureAddr,hc',k1]
 rw[hrun,Oper.upon_skip,hod]
 have hb:=hi.sb d b hsb
 refine hK w' F (fun t=>if t=d then S d else S t) ?_
 refine hi.setRoot (by rw[he];rfl) rfl k5 k6 k7 (by omega) ?_ ?_ ?_ ?_
 ·intro k hk hH
  refine k3 k ?_
  rintro rfl
  rcases hb.1 with h|h
  ·omega
  ·exact hH h
 ·intro k hk
  refine k3 k ?_
  rintro rfl
  rcases hk with hk|⟨t,g1,g2⟩
  ·exact hb.2.2 hk
  ·exact hi.sd t d g1 k g2 hsb
 ·intro k hk
  obtain⟨g1,g2,g3⟩:=hi.sb d k hk;exact⟨g1,by omega,g3,fun t ht hk'=>hi.sd t d ht k hk' hk⟩
 ·obtain⟨e1,row',e2,T',e3,e4,e5,e6⟩:=k2
  refine⟨.mem b 0,S0,c',.inr ⟨rfl,b,rfl,by simpa using hS0,hval,by simpa using hsb⟩,⟨q1,q2,e2,T',e4,?_,?_⟩,hvo.flat hf⟩
  ·have:=congrArg List.length e6
   simp only[Array.length_toList,List.length_append,List.length_take,List.length_drop,e1]at this;omega
  ·rw[e6]
   simp only[List.take_zero,List.nil_append,seg,List.drop_zero];rw[List.take_append_of_le_length (by omega),List.take_of_length_le (by omega)]
end

def noRd:List Row->Nat->Bool
 | [],_=>true
 |r::l,d=> !eD r.rs d&& !pB r.e d&&noRd l d
def zOK(rows:List Row)(anc:List Nat)(draw:Bool)(k:Nat):Operand->Bool
 | .tmp s=>match nT rows 0 s with
  |some (j,r)=>cW r.ch&&(!draw||(anc.getD k 0).testBit j)
  |none=>true
 |_=>true
def zFree(ds:List Nat):Operand->Bool
 | .tmp s=> !eD ds s
 |_=>true

def lateE(C:Ctx)(rows:List Row)(env0:St)(anc:List Nat)(draw:Bool)(o:Oper)(k:Nat):Option (Nat×Nat×Ent):=
 match o.op,o.dst,o.guard with
 | .store T (.tmp d) z,none,none=>match nT rows 0 d with
  |some (j,r)=>match r.e,(bR (stR false rows env0) z).e with
   | .box τ m _,.shr σ y=>match bY (τ:=σ) (σ:=τ) y with
    |some y'=>bif cW r.ch&& !dC rows d&&decide (look C.tys T=some τ)&&τ.flat&&noRd rows d&&(!draw||(anc.getD k 0).testBit j)&&zOK rows anc draw k z then some (k,d,.box τ m y')else none
    |none=>none
   |_,_=>none
  |none=>none
 |_,_,_=>none
def lateL(C:Ctx)(rows:List Row)(env0:St)(anc:List Nat)(draw:Bool):List Oper->Nat->Option (List (Nat×Nat×Ent))
 | [],_=>some []
 |o::l,k=>match lateE C rows env0 anc draw o k,lateL C rows env0 anc draw l (k+1)with
  |some x,some xs=>some (x::xs)
  |_,_=>none
def tH(ds:List Nat):List Oper->Bool
 | []=>true
 |o::l=>(match o.op with
  | .store _ _ z=>zFree ds z
  |_=>true)&&tH ds l
def nD:List (Nat×Nat×Ent)->List Nat
 | []=>[]
 |(_,d,_)::l=>d::nD l

def nM(T:Nat->Bool):List (Nat×Nat×Ent)->Nat->Option Ent
 | [],_=>none
 |(k,d,e)::l,t=>bif Nat.beq d t&&T k then some e else nM T l t
def dP(T:Nat->Bool)(ls:List (Nat×Nat×Ent))(r:Row):Row:=match nM T ls r.d with
 |some e=> {r with e:=e}
 |none=>r

def xZ(C:Ctx)(draw:Bool)(st:St)(ops:List Oper):Option (Prop×St):=
 match fC false C st ops []with
 |(c,rows,tail)=>match lateL C rows st (dT ops) draw tail rows.length with
  |some ls=>bif bQ (nD ls)&&tH (nD ls) tail&&(!draw||(rP ops 0&&gdB (dT ops) ops 0&&nK (dT ops) rows rows 0))then some (c,stF (rows.map (dP (fun _=>true) ls)) st)else none
  |none=>none

section
variable {P:Program} {C:Ctx} {w0:World} {F0 H:aA} {env0:St} {ops:Array Oper} {rows:List Row} {Q:Exit->Act->World->Prop}

structure LateF(C:Ctx)(rows:List Row)(env0:St)(anc:List Nat)(draw:Bool)(o:Oper)(k d:Nat)(e:Ent):Prop where
 ex:∃(T:TypeId) (z:Operand) (j:Nat) (r:Row) (τ:Ty) (m:Md) (x y:τ.den),o.op= .store T (.tmp d) z/\o.dst=none/\o.guard=none/\nT rows 0 d=some (j,r)/\r.e= .box τ m x/\
  (bR (stR false rows env0) z).e= .shr τ y/\e= .box τ m y/\r.ch=[]/\dC rows d=false/\look C.tys T=some τ/\τ.flat=true/\noRd rows d=true/\
  (draw=true->(anc.getD k 0).testBit j=true)/\zOK rows anc draw k z=true

theorem lateE_ok{anc:List Nat}{draw:Bool}{o:Oper}{k k' d:Nat}{e:Ent}(h:lateE C rows env0 anc draw o k=some (k',d,e)):k'=k/\LateF C rows env0 anc draw o k d e:=by
 unfold lateE at h
 split at h
 ·rename_i T d0 z h1 h2 h3
  split at h
  ·rename_i j r hj
   split at h
   ·rename_i τ m x σ y he hz
    split at h
    ·rename_i y' hy
     cases hb:(cW r.ch&& !dC rows d0&&decide (look C.tys T=some τ)&&τ.flat&&noRd rows d0&&(!draw||(anc.getD k 0).testBit j)&&zOK rows anc draw k z)
     ·rw[hb]at h;cases h
     rw[hb]at h;simp only[cond_true,Option.some.injEq,Prod.mk.injEq]at h;obtain⟨rfl,rfl,rfl⟩:=h;simp only[Bool.and_eq_true,Bool.not_eq_true',decide_eq_true_eq,Bool.or_eq_true,fR]at hb;obtain⟨⟨⟨⟨⟨⟨b1,b2⟩,b3⟩,b4⟩,b5⟩,b6⟩,b7⟩:=hb;have:=aV hy;injection this with e1 e2;subst e1;cases e2;refine⟨rfl,⟨T,z,j,r,σ,m,x,y,h1,h2,h3,hj,he,hz,rfl,b1,b2,b3,b4,b5,fun hd=> ?_,b7⟩⟩
     rcases b6 with b6|b6
     ·rw[hd]at b6;cases b6
     ·exact b6
    ·cases h
   ·cases h
  ·cases h
 ·cases h

theorem lateL_ok{anc:List Nat}{draw:Bool}:∀ {l:List Oper} {k:Nat} {ls:List (Nat×Nat×Ent)},lateL C rows env0 anc draw l k=some ls->
  ls.length=l.length/\∀j x,ls[j]? =some x->x.1=k+j/\∃o,l[j]? =some o/\LateF C rows env0 anc draw o (k+j) x.2.1 x.2.2
 | [],k,ls,h=>by
  simp only[lateL,Option.some.injEq]at h;subst h;exact⟨rfl,fun j x h=>by simp at h⟩
 |o::l,k,ls,h=>by
  simp only[lateL]at h;split at h
  ·rename_i x xs h1 h2
   simp only[Option.some.injEq]at h;subst h;obtain⟨g1,g2⟩:=lateL_ok h2;refine⟨by simp[g1],fun j y hy=> ?_⟩
   cases j with
   |zero=>
    simp only[List.getElem?_cons_zero,Option.some.injEq]at hy;subst hy;obtain⟨k',d,e⟩:=x;obtain⟨q1,q2⟩:=lateE_ok h1;exact⟨q1,o,rfl,q2⟩
   |succ j=>
    obtain⟨q1,o',q2,q3⟩:=g2 j y (by simpa using hy);exact⟨by omega,o',by simpa using q2,by rw[show k+(j+1)=k+1+j from by omega];exact q3⟩
  ·cases h

theorem yF{d:Nat}:∀ {l:List Row},noRd l d=true->∀r∈l,d∉r.rs/\r.e.root≠some d
 |q::l,h,r,hr=>by
  simp only[noRd,Bool.and_eq_true,Bool.not_eq_true']at h;rcases List.mem_cons.1 hr with rfl|hr
  ·refine⟨fun hm=> ?_,oJ h.1.2⟩
   have:=fF.2 hm
   rw[h.1.1]at this;cases this
  ·exact yF h.2 r hr

theorem k9{T:Nat->Bool}{t:Nat}:∀ {ls:List (Nat×Nat×Ent)},(∀x∈ls,x.2.1=t->T x.1=false)->nM T ls t=none
 | [],_=>rfl
 |(k,d,e)::l,h=>by
  simp only[nM];have ih:=k9 (t:=t) (T:=T) (fun x hx=>h x (List.mem_cons_of_mem _ hx))
  cases hb:Nat.beq d t
  ·simpa using ih
  ·have:=h (k,d,e) (List.mem_cons_self) (aY.1 hb)
   simp only at this;simp only[this,Bool.and_false,cond_false];exact ih
theorem rI{T:Nat->Bool}{t:Nat}{e:Ent}:∀ {ls:List (Nat×Nat×Ent)},nM T ls t=some e->∃x∈ls,x.2.1=t/\T x.1=true/\x.2.2=e
 |(k,d,e')::l,h=>by
  simp only[nM]at h;cases hb:(Nat.beq d t&&T k)
  ·rw[hb]at h
   obtain⟨x,h1,h2⟩:=rI h;exact⟨x,List.mem_cons_of_mem _ h1,h2⟩
  ·rw[hb]at h
   simp only[cond_true,Option.some.injEq]at h;simp only[Bool.and_eq_true]at hb;exact⟨_,List.mem_cons_self,aY.1 hb.1,hb.2,h⟩
theorem lW{T T':Nat->Bool}{t:Nat}:∀ {ls:List (Nat×Nat×Ent)},(∀x∈ls,x.2.1=t->T x.1=T' x.1)->nM T ls t=nM T' ls t
 | [],_=>rfl
 |(k,d,e)::l,h=>by
  simp only[nM];rw[lW (t:=t) (T:=T) (T':=T') (ls:=l) (fun x hx=>h x (List.mem_cons_of_mem _ hx))]
  cases hb:Nat.beq d t
  ·rfl
  ·have:=h (k,d,e) (List.mem_cons_self) (aY.1 hb)
   simp only at this;rw[this]
theorem pQ{ls:List (Nat×Nat×Ent)}{t:Nat}:t∈nD ls↔∃x∈ls,x.2.1=t:=by
 induction ls with
 |nil=>simp[nD]
 |cons y l ih=>
  obtain⟨k,d,e⟩:=y;simp only[nD,List.mem_cons,ih];constructor
  ·rintro (rfl|⟨x,h1,h2⟩)
   ·exact⟨_,.inl rfl,rfl⟩
   ·exact⟨x,.inr h1,h2⟩
  ·rintro⟨x,rfl|h1,h2⟩
   ·exact .inl h2.symm
   ·exact .inr ⟨x,h1,h2⟩
theorem patE_hit{T:Nat->Bool}:∀ {ls:List (Nat×Nat×Ent)} {x:Nat×Nat×Ent},bQ (nD ls)=true->x∈ls->T x.1=true->nM T ls x.2.1=some x.2.2
 |(k,d,e)::l,x,hn,hx,hT=>by
  simp only[nM];rcases List.mem_cons.1 hx with rfl|hx
  ·simp only at hT
   simp only[Nat.beq_refl,hT,Bool.and_self,cond_true]
  ·obtain⟨g1,g2⟩:=d8 (show bQ (d::nD l)=true from hn)
   have hne:d≠x.2.1:=fun h=>g1 (pQ.2 ⟨x,hx,h.symm⟩)
   simp only[cE hne,Bool.false_and,cond_false];exact patE_hit g2 hx hT
theorem tgts_inj:∀ {ls:List (Nat×Nat×Ent)} {x y:Nat×Nat×Ent},bQ (nD ls)=true->x∈ls->y∈ls->x.2.1=y.2.1->x=y
 |(k,d,e)::l,x,y,hn,hx,hy,h=>by
  obtain⟨g1,g2⟩:=d8 (show bQ (d::nD l)=true from hn);rcases List.mem_cons.1 hx with rfl|hx
  ·rcases List.mem_cons.1 hy with rfl|hy
   ·rfl
   ·exact absurd (pQ.2 ⟨y,hy,h.symm⟩) g1
  ·rcases List.mem_cons.1 hy with rfl|hy
   ·exact absurd (pQ.2 ⟨x,hx,h⟩) g1
   ·exact tgts_inj g2 hx hy h

theorem fP{T:Nat->Bool}{ls:List (Nat×Nat×Ent)}{r:Row}:(dP T ls r).d=r.d/\(dP T ls r).used=r.used/\(dP T ls r).gb=r.gb/\(dP T ls r).ch=r.ch:=by
 unfold dP
 split<;>exact⟨rfl,rfl,rfl,rfl⟩
theorem kZ{T:Nat->Bool}{ls:List (Nat×Nat×Ent)}{r:Row}(h:nM T ls r.d=none):dP T ls r=r:=by
 unfold dP;rw[h]

theorem late_ok(hC:aG P C)(ht:Tab false C env0 ops rows){ls:List (Nat×Nat×Ent)}(hnd:bQ (nD ls)=true){anc:List Nat}{draw:Bool}{T:Nat->Bool}{k d:Nat}{e:Ent}(hx:(k,d,e)∈ls)
  (hk:rows.length<=k) (hkinj:∀u∈ls,∀v∈ls,u.1=v.1->u=v) {o:Oper} (ho:ops[k]? =some o) (hf:LateF C rows env0 anc draw o k d e) (hzf:∀T0 a0 z,o.op= .store T0 a0 z->zFree (nD ls) z=true)
  (hTk:T k=false) (hanc:∀j,j<rows.length->(draw=true->(anc.getD k 0).testBit j=true)->T j=true) (hroot:∀t,(env0 t).root≠some d) (hbox:∀u∈ls,u.2.2.root≠some d):
  ∀a w,mO P C w0 F0 H env0 (rows.map (dP T ls)) T a w->wpOp P ops Q k (mO P C w0 F0 H env0 (rows.map (dP (cK T k) ls)) (cK T k)) a w:=by
 intro a w ⟨F,S,hi,hund⟩
 obtain⟨T0,z,j,r,τ,m,x,y,h1,h2,h3,h4,h5,h6,rfl,h7,h8,h9,h10,h11,h12,h13⟩:=hf.ex
 obtain⟨_,g2,g3⟩:=kJ h4
 simp only[Nat.sub_zero]at g2
 have hrd:r.d=d:=(eK g3).2
 have hjl:j<rows.length:=by
  rcases Nat.lt_or_ge j rows.length with h|h
  ·exact h
  ·rw[List.getElem?_eq_none h]at g2;cases g2
 have hTj:T j=true:=hanc j hjl h12
 have hmap:∀ {T:Nat->Bool} {i:Nat} {q:Row},rows[i]? =some q->(rows.map (dP T ls))[i]? =some (dP T ls q):=by
  intro T i q hq;simp[hq]
 have hback:∀ {T:Nat->Bool} {i:Nat} {q':Row},(rows.map (dP T ls))[i]? =some q'->∃q,rows[i]? =some q/\q'=dP T ls q:=by
  intro T i q' hq;simp only[List.getElem?_map,Option.map_eq_some_iff]at hq;obtain⟨q,e1,e2⟩:=hq;exact⟨q,e1,e2.symm⟩
 have hud:∀T,UD (rows.map (dP T ls)):=by
  intro T i i' q q' hq hq' hd;obtain⟨p,e1,rfl⟩:=hback hq;obtain⟨p',e2,rfl⟩:=hback hq';rw[fP.1,fP.1]at hd;exact ht.ud i i' p p' e1 e2 hd
 have hpn:nM T ls d=none:=by
  refine k9 fun u hu hd=> ?_
  have:=tgts_inj hnd hu hx hd
  rw[this];exact hTk
 have hrj:(rows.map (dP T ls))[j]? =some r:=by
  rw[hmap g2,kZ (by rw[hrd];exact hpn)]
 have hused:∀(T' T:Nat->Bool) t,dC rows t=false->dC (sel (rows.map (dP T' ls)) T 0) t=false:=by
  intro T' T t h;cases hu:dC (sel (rows.map (dP T' ls)) T 0) t
  ·rfl
  ·obtain⟨q,q1,q2⟩:=jM.1 hu
   obtain⟨i,e1,_⟩:=iS _ 0 q1;obtain⟨p,e2,rfl⟩:=hback e1;rw[fP.2.1]at q2;have:=jM.2 ⟨p,List.mem_of_getElem? e2,q2⟩;rw[h]at this;cases this
 have hgbr:r.gb=true:=(ht.gb j g2).2 (by rw[h7];intro x hx;cases hx)
 have henv:stR true (sel (rows.map (dP T ls)) T 0) env0 d= .box τ m x:=by
  have hl:=(hud T).look hrj hTj
  rw[hrd]at hl;have hb:cR true (sel (rows.map (dP T ls)) T 0) env0 d= .box τ m x:=by
   unfold cR;rw[hl];simp only[Row.ent,cond_true,hgbr,h5]
  rw[iX (hused T T d h8) (by rw[hb];intro q hq;cases hq),hb]
 have hval:aT F w τ .shr none' (a.eval z) y:=by
  have hview:aU P F w (stR true (sel (rows.map (dP T ls)) T 0) env0) (fun t=>a.tmps.getD t undef) S (a.eval z) (bR (stR false rows env0) z):=by
   refine tL hi ?_ ?_
   ·cases z with
    |tmp s=>
     intro q hq;simp only[zOK]at h13;obtain⟨hq1,hq2⟩:=eK hq;cases hidx:nT rows 0 s with
     |none=>
      exfalso
      have:∀(l:List Row) (n:Nat),nT l n s=none->bS l s=none:=by
       intro l
       induction l with
       |nil=>intro n _;rfl
       |cons p l ih=>
        intro n hn;simp only[nT]at hn;cases hb:Nat.beq p.d s
        ·rw[hb]at hn;simp only[bS,hb,cond_false];exact ih _ hn
        ·rw[hb]at hn;cases hn
      rw[this rows 0 hidx]at hq;cases hq
     |some jr=>
      obtain⟨jz,rz⟩:=jr;rw[hidx]at h13;simp only[Bool.and_eq_true,fR]at h13;obtain⟨_,e1,e2⟩:=kJ hidx;simp only[Nat.sub_zero]at e1;rw[hq]at e2;injection e2 with e2;subst e2;exact(ht.gb jz e1).2 (by rw[h13.1];intro x hx;cases hx)
    |_=>trivial
   ·rintro s rfl
    have hst:stR false rows env0 s= .shr τ y:=h6
    have hus:dC rows s=false:=by
     rcases eH false rows env0 s with h|⟨_,h,_⟩
     ·rw[hst]at h;cases h
     ·exact h
    refine⟨⟨?_,by rw[hus];exact hused T T s hus⟩,fun q hq=>by rw[hst]at hq;cases hq⟩
    have hsn:s∉nD ls:=by
     have:=hzf T0 _ _ h1
     simp only[zFree,Bool.not_eq_true']at this;intro hm;have h':=fF.2 hm;rw[this]at h';cases h'
    have hall:sel rows (fun _=>true) 0=rows:=pX rows 0 (fun _ _=>rfl)
    have h0:=jK (s:=s) (T:=fun _=>true) (T':=T) rows (rows.map (dP T ls)) 0 (by simp) (fun i q q' hq hq'=> ?_)
    ·rw[hall]at h0;exact h0.symm
    ·obtain⟨p,e1,rfl⟩:=hback hq'
     rw[hq]at e1;injection e1 with e1;subst e1;refine⟨fP.1,fun hd=>⟨?_,?_⟩⟩
     ·symm
      simp only[zOK]at h13;have hil:i<rows.length:=by
       rcases Nat.lt_or_ge i rows.length with h|h
       ·exact h
       ·rw[List.getElem?_eq_none h]at hq;cases hq
      have hidx:∀(l:List Row) (n:Nat),(∃p∈l,p.d=s)->∃v,nT l n s=some v:=by
       intro l
       induction l with
       |nil=>rintro n ⟨_,h,_⟩;cases h
       |cons p l ih=>
        rintro n ⟨p',hp',hd'⟩
        simp only[nT];cases hb:Nat.beq p.d s
        ·rcases List.mem_cons.1 hp' with rfl|hp'
         ·rw[aY.2 hd']at hb;cases hb
         ·exact ih _ ⟨p',hp',hd'⟩
        ·exact⟨_,rfl⟩
      obtain⟨⟨jz,rz⟩,hv⟩:=hidx rows 0 ⟨q,List.mem_of_getElem? hq,hd⟩;rw[hv]at h13;simp only[Bool.and_eq_true,Bool.or_eq_true,Bool.not_eq_true']at h13;obtain⟨_,e1,e2⟩:=kJ hv;simp only[Nat.sub_zero]at e1;have:i=jz:=ht.ud i jz q rz hq e1 (by rw[hd,(eK e2).2]);subst this;rw[Nat.zero_add];refine hanc i hil (fun hdr=> ?_)
      rcases h13.2 with h|h
      ·rw[hdr]at h;cases h
      ·exact h
     ·exact kZ (k9 fun u hu hd'=>absurd (pQ.2 ⟨u,hu,hd'.trans hd⟩) hsn)
  have:=hview.ent (by rw[h6];rfl) 0 (by rw[h6];simp[Ent.root])
  rw[h6]at this;exact this
 unfold wpOp
 rw[ho]
 simp only[]
 have hw:Region.wanted o (yielded ops a.tmps)=true:=by unfold Region.wanted;rw[h3]
 rw[hw]
 simp only[if_true]
 left
 refine late_store hC hi h1 h2 henv h10 h9 hval (Q:=Q) ?_
 intro w' F' S' hinv
 refine⟨F',S',?_,?_⟩
 ·
  have hsame:∀t,t≠d->nM (cK T k) ls t=nM T ls t:=by
   intro t htd;refine lW fun u hu hd=> ?_
   by_cases huk:u.1=k
   ·have:=hkinj u hu _ hx huk
    rw[this]at hd;exact absurd hd.symm htd
   ·simp[cK,cE huk]
  have hselT:sel (rows.map (dP (cK T k) ls)) (cK T k) 0=sel (rows.map (dP (cK T k) ls)) T 0:=by
   have aux:∀(l:List Row) (n:Nat),n+l.length<=k->sel l (cK T k) n=sel l T n:=by
    intro l
    induction l with
    |nil=>intro n _;rfl
    |cons p l ih=>
     intro n hn;simp only[List.length_cons]at hn;have:cK T k n=T n:=by simp[cK,cE (show n≠k by omega)]
     simp only[sel,this];rw[ih (n+1) (by omega)]
   exact aux _ 0 (by simpa using hk)
  rw[hselT];have hU:∀t,dC (sel (rows.map (dP (cK T k) ls)) T 0) t=dC (sel (rows.map (dP T ls)) T 0) t:=by
   intro t;refine lQ _ _ 0 (by simp) fun i q q' hq hq'=> ?_
   obtain⟨p,e1,rfl⟩:=hback hq;obtain⟨p',e2,rfl⟩:=hback hq';rw[e1]at e2;injection e2 with e2;subst e2;exact⟨by rw[fP.2.1,fP.2.1],fun _=>rfl⟩
  have hB:∀t,t≠d->cR true (sel (rows.map (dP (cK T k) ls)) T 0) env0 t=cR true (sel (rows.map (dP T ls)) T 0) env0 t:=by
   intro t htd;have:bS (sel (rows.map (dP (cK T k) ls)) T 0) t=bS (sel (rows.map (dP T ls)) T 0) t:=by
    refine jK _ _ 0 (by simp) fun i q q' hq hq'=> ?_
    obtain⟨p,e1,rfl⟩:=hback hq;obtain⟨p',e2,rfl⟩:=hback hq';rw[e1]at e2;injection e2 with e2;subst e2;refine⟨by rw[fP.1,fP.1],fun hd=>⟨rfl,?_⟩⟩
    rw[fP.1]at hd;unfold dP;rw[hsame p.d (by rw[hd];exact htd)]
   unfold cR;rw[this]
  have hS:stR true (sel (rows.map (dP (cK T k) ls)) T 0) env0=upd (cV (stR true (sel (rows.map (dP T ls)) T 0) env0) d) d (.box τ m y):=by
   funext t
   by_cases htd:t=d
   ·subst htd
    rw[bU];have hl:bS (sel (rows.map (dP (cK T k) ls)) T 0) r.d=some (dP (cK T k) ls r):=by
     have:=(hud (cK T k)).look (hmap (T:=cK T k) g2) hTj
     rw[fP.1]at this;exact this
    rw[hrd]at hl;have hp:nM (cK T k) ls t=some (.box τ m y):=patE_hit hnd hx (by simp[cK]);have hb:cR true (sel (rows.map (dP (cK T k) ls)) T 0) env0 t= .box τ m y:=by
     unfold cR;rw[hl];unfold dP;rw[hrd,hp];simp only[Row.ent,cond_true,hgbr]
    rw[iX (hused _ _ t h8) (by rw[hb];intro q hq;cases hq),hb]
   ·rw[bG _ _ htd]
    have hkill:∀(E:St),(E t).root≠some d->cV E d t=E t:=by
     intro E hne;unfold cV eY;cases hr:(E t).root with
     |none=>rfl
     |some q=>simp only[cE (fun h=>hne (by rw[hr,h]):q≠d),cond_false]
    rw[hkill]
    ·unfold stR
     rw[hU,hB t htd];cases dC (sel (rows.map (dP T ls)) T 0) t
     ·simp only[cond_false]
      cases (cR true (sel (rows.map (dP T ls)) T 0) env0 t).root with
      |none=>rfl
      |some q=>simp only[hU]
     ·rfl
    ·rcases eH true (sel (rows.map (dP T ls)) T 0) env0 t with h|⟨h,_,_⟩
     ·rw[h];intro h;cases h
     ·rw[h]
      unfold cR;cases hl:bS (sel (rows.map (dP T ls)) T 0) t with
      |none=>exact hroot t
      |some q=>
       obtain⟨i,e1,_⟩:=iS _ 0 (eK hl).1;obtain⟨p,e2,rfl⟩:=hback e1;simp only[Row.ent,cond_true];cases (dP T ls p).gb
       ·intro h;cases h
       ·simp only[cond_true]
        unfold dP;split
        ·rename_i e' he'
         obtain⟨u,hu,_,_,rfl⟩:=rI he';exact hbox u hu
        ·exact(yF h11 p (List.mem_of_getElem? e2)).2
  rw[hS];exact hinv
 ·intro i q hq hTi hqg
  obtain⟨p,e1,rfl⟩:=hback hq;have hil:i<rows.length:=by
   rcases Nat.lt_or_ge i rows.length with h|h
   ·exact h
   ·rw[List.getElem?_eq_none h]at e1;cases e1
  have hik:i≠k:=by omega
  simp only[cK,cE hik,Bool.false_or]at hTi;have:=hund i _ (hmap e1) hTi (by rw[fP.2.2.1]at hqg⊢;exact hqg);rw[fP.1]at this⊢;exact this

theorem regionL_ok(hC:aG P C){draw:Bool}{st':St}{c:Prop}(h:xZ C draw env0 ops.toList=some (c,st'))(hc:c)
  {a:Act} {w:World} (hi:Inv P C.np w0 F0 H env0 a w) (hQ:∀a' w',Inv P C.np w0 F0 H st' a' w'->Q .normal a' w'):mY P ops draw Q a w:=by
 unfold xZ at h
 generalize hgen:fC false C env0 ops.toList []=g at h
 obtain⟨c1,rows,tail⟩:=g
 simp only[]at h
 split at h
 ·rename_i ls hls
  cases hB:(bQ (nD ls)&&tH (nD ls) tail&&(!draw||(rP ops.toList 0&&gdB (dT ops.toList) ops.toList 0&&nK (dT ops.toList) rows rows 0)))
  ·rw[hB]at h;cases h
  rw[hB]at h;simp only[cond_true,Option.some.injEq,Prod.mk.injEq]at h;obtain⟨rfl,rfl⟩:=h;simp only[Bool.and_eq_true,Bool.or_eq_true,Bool.not_eq_true']at hB;obtain⟨⟨hnd,hzf⟩,hdr⟩:=hB;obtain⟨ht,htail⟩:=iM (ops:=ops) ops.toList [] hgen hc (by simp) (fun i r hr=>by simp at hr)
  have htd:tail=ops.toList.drop rows.length:=by
   apply List.ext_getElem?
   intro j;rw[htail j];simp
  have hlen:rows.length<=ops.size:=by
   rcases Nat.lt_or_ge ops.size rows.length with h|h
   ·obtain⟨o,ho,_⟩:=ht.facts (List.getElem?_eq_getElem h)
    simp at ho
   ·exact h
  obtain⟨hl1,hl2⟩:=lateL_ok hls;have hnopd:∀(i:Nat) (r:Row) r0 p0,rows[i]? =some r->r.pd≠some (r0,p0):=by
   intro i r r0 p0 hr hpd;obtain⟨o,_,hf⟩:=ht.facts hr;rcases hf.op with⟨_,_,_,h⟩|⟨_,_,_,h,_⟩
   ·rw[h]at hpd;cases hpd
   ·cases h
  have hdB:draw=true->rP ops.toList 0=true/\gdB (dT ops.toList) ops.toList 0=true/\nK (dT ops.toList) rows rows 0=true:=by
   intro hd;rcases hdr with h|h
   ·rw[hd]at h;cases h
   ·exact⟨h.1.1,h.1.2,h.2⟩
  have hlow:draw=true->∀i k,fA ops i k->k<i:=fun hd i k hw=>qD ops.toList 0 (by simp) (hdB hd).1 i k (Nat.zero_le i) hw
  have hancr:∀ {j k:Nat},((dT ops.toList).getD j 0).testBit k=true->fU ops j k:=by
   intro j k h;have:=mL h
   simpa using this
  have hmem:∀u∈ls,∃j,ls[j]? =some u:=fun u hu=>List.mem_iff_getElem?.1 hu
  have hkinj:∀u∈ls,∀v∈ls,u.1=v.1->u=v:=by
   intro u hu v hv h;obtain⟨i,hi⟩:=hmem u hu;obtain⟨j,hj⟩:=hmem v hv;have e1:=(hl2 i u hi).1;have e2:=(hl2 j v hj).1;have:i=j:=by omega
   subst this;rw[hi]at hj;injection hj
  have hks:∀u∈ls,rows.length<=u.1:=by
   intro u hu;obtain⟨i,hi⟩:=hmem u hu;have:=(hl2 i u hi).1;omega
  have hbox:∀u∈ls,∀d,u.2.2.root≠some d:=by
   intro u hu d;obtain⟨i,hi⟩:=hmem u hu;obtain⟨_,o,_,hf⟩:=hl2 i u hi;obtain⟨T,z,j,r,τ,m,x,y,_,_,_,_,_,_,he,_⟩:=hf.ex;rw[he];intro h;cases h
  have htgt:∀u∈ls,∃(j:Nat) (r:Row),rows[j]? =some r/\r.d=u.2.1/\r.ch=[]/\noRd rows u.2.1=true/\(draw=true->((dT ops.toList).getD u.1 0).testBit j=true):=by
   intro u hu;obtain⟨i,hi⟩:=hmem u hu;obtain⟨e1,o,_,hf⟩:=hl2 i u hi;obtain⟨T,z,j,r,τ,m,x,y,_,_,_,h4,_,_,_,h7,_,_,_,h11,h12,_⟩:=hf.ex;obtain⟨_,g2,g3⟩:=kJ h4;simp only[Nat.sub_zero]at g2;exact⟨j,r,g2,(eK g3).2,h7,h11,by rw[e1];exact h12⟩
  have hroot:∀u∈ls,∀t,(env0 t).root≠some u.2.1:=by
   intro u hu t hr;obtain⟨j,r,e1,e2,_⟩:=htgt u hu;obtain⟨F,S,hi⟩:=hi;have:=(hi.ent t).root_owner (r:=u.2.1) hr;obtain⟨o,_,hf⟩:=ht.facts e1;have hfr:=hf.fresh;rw[e2,this]at hfr;cases hfr
  refine iQ (fun T a w=>mO P C w0 F0 H env0 (rows.map (dP T ls)) T a w) hlow ?_ ?_ ?_
  ·intro T i hin hTi hdrw hnd'
   intro a w hJ;have hwaits:∀k,((dT ops.toList).getD i 0).testBit k=true->draw=true->T k=true:=by
    intro k hk hd;obtain⟨hcl,hw⟩:=hdrw hd;exact bV hcl hw (hancr hk)
   by_cases him:i<rows.length
   ·have hr:rows[i]? =some rows[i]:=List.getElem?_eq_getElem him
    have ho:ops[i]? =some ops[i]:=Array.getElem?_eq_getElem hin
    obtain⟨o',ho',hf⟩:=ht.facts hr;rw[ho]at ho';injection ho' with ho';subst ho';have hgd:∀g b,ops[i].guard=some (g,b)->T g=true:=by
     intro g b hgb;cases hdd:draw with
     |true=>
      have:=yR (hdB hdd).2.1 i ops[i] g b (by simp[hin]) hgb
      rw[Nat.zero_add]at this;exact hwaits g this hdd
     |false=>
      rw[hnd' hdd g];obtain⟨gs,hg,_⟩:=hf.guard;rw[hgb]at hg;simp only[mC]at hg;split at hg
      ·rename_i q hq
       rw[List.getElem?_take]at hq;split at hq
       ·rename_i hgi;exact dY.2 hgi
       ·cases hq
      ·cases hg
    have hag:∀s∈rows[i].rs,∀j q,rows[j]? =some q->q.d=s∨s∈q.used->T j=Nat.blt j i:=by
     intro s hs j q hq hd;cases hdd:draw with
     |true=>
      obtain⟨hcl,hw⟩:=hdrw hdd;have h1:=p7 (hdB hdd).2.2 i _ hr;rw[Nat.zero_add]at h1;have h2:=oK h1 j q hq (oE hs hd);rw[Nat.zero_add]at h2;rcases h2 with h2|h2|h2
      ·subst h2;rw[hTi,lL]
      ·rw[bV hcl hw (hancr h2),dY.2 (kY (hlow hdd) (hancr h2))]
      ·have hlt:=kY (hlow hdd) (hancr h2)
       have e1:Nat.blt j i=false:=by
        cases hb:Nat.blt j i
        ·rfl
        ·have:=dY.1 hb;omega
       rw[e1];cases hTj:T j
       ·rfl
       ·have:=hcl.reach (hancr h2) hTj
        rw[hTi]at this;cases this
     |false=>exact hnd' hdd j
    have hpat:Pat rows (rows.map (dP T ls)) i rows[i]:=by
     refine⟨by simp,fun j q q' hq hq'=> ?_⟩
     simp only[List.getElem?_map,hq,Option.map_some,Option.some.injEq]at hq';subst hq';refine⟨fP.1,fP.2.1,fP.2.2.1,fun hqr=>kZ (k9 fun u hu hd=> ?_)⟩
     obtain⟨_,_,_,_,_,hno,_⟩:=htgt u hu;exact absurd (hd▸hqr) (yF hno _ (List.mem_of_getElem? hr)).1
    have hr':(rows.map (dP T ls))[i]? =some rows[i]:=by
     simp only[List.getElem?_map,hr,Option.map_some,Option.some.injEq];refine kZ (k9 fun u hu hd=> ?_)
     obtain⟨j,r,e1,e2,_,_,hanc⟩:=htgt u hu;have hij:j=i:=ht.ud j i r rows[i] e1 hr (e2.trans hd);subst hij;have hku:=hks u hu;cases hdd:draw with
     |true=>
      obtain⟨hcl,hw⟩:=hdrw hdd;cases hTu:T u.1
      ·rfl
      ·have:=hcl.reach (hancr (hanc hdd)) hTu
       rw[hTi]at this;cases this
     |false=>
      rw[hnd' hdd u.1];cases hb:Nat.blt u.1 j
      ·rfl
      ·have:=dY.1 hb;omega
    have hsame:rows.map (dP (cK T i) ls)=rows.map (dP T ls):=by
     refine List.map_congr_left fun q _=> ?_
     unfold dP;rw[lW (T:=cK T i) (T':=T) fun u hu _=> ?_]
     have:=hks u hu
     simp[cK,cE (show u.1≠i by omega)]
    refine wpOp_mono ?_ (row_okP hC ht hr hTi ho hgd hpat hr' (fun r0 p0 hpd=>absurd hpd (hnopd i _ r0 p0 hr)) hag a w hJ)
    intro a' w' h';show mO P C w0 F0 H env0 (rows.map (dP (cK T i) ls)) (cK T i) a' w';rw[hsame];exact h'
   ·have hil:i-rows.length<ls.length:=by
     rw[hl1,htd];simp;omega
    have hls':ls[i-rows.length]? =some ls[i-rows.length]:=List.getElem?_eq_getElem hil
    obtain⟨e1,o,e2,hf⟩:=hl2 _ _ hls';rw[show rows.length+(i-rows.length)=i from by omega]at e1 hf
    have ho:ops[i]? =some o:=by
     rw[htail]at e2;rw[show rows.length+(i-rows.length)=i from by omega]at e2
     exact e2
    have hxm0:∀x:Nat×Nat×Ent,ls[i-rows.length]? =some x->x.1=i->(i,x.2.1,x.2.2)∈ls:=by
     rintro⟨k',d',e'⟩ hx hk'
     have hk':k'=i:=hk'
     rw[<-hk'];exact List.mem_of_getElem? hx
    have hxm:=hxm0 _ hls' e1
    refine late_ok hC ht hnd hxm (by omega) hkinj ho hf ?_ hTi ?_ (hroot (i,ls[i-rows.length].2.1,ls[i-rows.length].2.2) hxm) (fun u hu=>hbox u hu _) a w hJ
    ·intro T0 a0 z hz
     have aux:∀(l:List Oper) (n:Nat),tH (nD ls) l=true->l[n]? =some o->zFree (nD ls) z=true:=by
      intro l
      induction l with
      |nil=>intro n _ h;simp at h
      |cons p l ih=>
       intro n h1 h2;simp only[tH,Bool.and_eq_true]at h1;cases n with
       |zero=>
        simp only[List.getElem?_cons_zero,Option.some.injEq]at h2;subst h2;rw[hz]at h1;exact h1.1
       |succ n=>exact ih n h1.2 (by simpa using h2)
     exact aux tail _ hzf e2
    ·intro j hj hanc
     cases hdd:draw with
     |true=>exact hwaits j (hanc hdd) hdd
     |false=>rw[hnd' hdd j];exact dY.2 (by omega)
  ·intro T a w hT hJ
   refine hQ a w ?_
   have hsame:rows.map (dP T ls)=rows.map (dP (fun _=>true) ls):=by
    refine List.map_congr_left fun q _=> ?_
    unfold dP;rw[lW (T:=T) (T':=fun _=>true) fun u hu _=> ?_]
    obtain⟨i,hi⟩:=hmem u hu;have h1:=(hl2 i u hi).1;have h2:i<ls.length:=by
     rcases Nat.lt_or_ge i ls.length with h|h
     ·exact h
     ·rw[List.getElem?_eq_none h]at hi;cases hi
    rw[hl1,htd]at h2;simp at h2;exact hT _ (by omega)
   have hJ:mO P C w0 F0 H env0 (rows.map (dP T ls)) T a w:=hJ
   rw[hsame]at hJ;refine hJ.doneG ?_ (fun j hj=>hT j (by simp at hj;omega))
   ·intro i r hr hch
    simp only[List.getElem?_map,Option.map_eq_some_iff]at hr;obtain⟨p,e1,rfl⟩:=hr;rw[fP.2.2.2]at hch;rw[fP.2.2.1];cases hp:nM (fun _=>true) ls p.d with
    |none=>rw[kZ hp]at hch;exact ht.gow e1 hch
    |some e=>
     obtain⟨u,hu,hd,_,_⟩:=rI hp;obtain⟨j,r,g1,g2,g3,_⟩:=htgt u hu;have:=ht.ud i j p r e1 g1 (hd.symm.trans g2.symm);subst this;rw[e1]at g1;injection g1 with g1;subst g1;exact ht.gow e1 (by rw[g3];rfl)
  ·intro w' hh hos htp hout
   obtain⟨F,S,hi⟩:=hi;refine⟨F,S,?_,fun j q _ h=>by cases h⟩
   have hs:∀(l:List Row) (k:Nat),sel l (fun _=>false) k=[]:=by
    intro l
    induction l with
    |nil=>intro k;rfl
    |cons r l ih=>intro k;simp only[sel,cond_false];exact ih (k+1)
   rw[hs];have he:stR true [] env0=env0:=by
    funext t
    unfold stR cR;simp only[dC,cond_false,bS];cases (env0 t).root<;>rfl
   rw[he];exact hi.world hos htp hout (by rw[hh];exact Nat.le_refl _) (fun b _=>by rw[hh]) (fun k _ _=>by rw[hh])
 ·cases h

end
end Go.Lf
namespace Go.Lf

def ownR(τ:Ty)(m:Md)(v:aP):Option (τ.den×List Nat):=
 match v.shrAs τ with
 |some x=>bif dO m||τ.flat then some (x,[])else v.ownAs τ m
 |none=>match v.e with
  | .sub r []=>match v.r with
   | .own σ m' x=>bif decide (m'=m)then(bY (τ:=σ) (σ:=τ) x).map fun y=>(y,[r])else none
   | .box σ m' x=>bif decide (m'=m)then(bY (τ:=σ) (σ:=τ) x).map fun y=>(y,[r])else none
   |_=>none
  |_=>v.ownAs τ m

section
variable {P:Program} {C:Ctx} {N:NP} {w0:World} {F0 H:aA} {env:St} {a:Act} {w:World} {F:aA} {S:Nat->aA}
theorem lX(hi:aJ P N w0 F0 H env a w F S){v:Value}{vw:aP}(hv:aU P F w env (fun t=>a.tmps.getD t undef) S v vw){τ:Ty}{m:Md}{x:τ.den}{l:List Nat}(h:ownR τ m vw=some (x,l)):
  (l=[]/\aT F w τ m none' v x)∨∃t,l=[t]/\aT F w τ m (S t) v x:=by
 unfold ownR at h
 split at h
 ·rename_i y hy
  cases hb:(dO m||τ.flat)
  ·rw[hb]at h;exact iC hi hv h
  ·rw[hb]at h
   simp only[cond_true,Option.some.injEq,Prod.mk.injEq]at h;obtain⟨rfl,rfl⟩:=h;have:=fN hi hv hy;simp only[Bool.or_eq_true]at hb;rcases hb with hb|hb
   ·have hm:m= .shr:=by cases m<;>first|rfl|cases hb
    subst hm;exact .inl ⟨rfl,this⟩
   ·exact .inl ⟨rfl,aT.flat hb this⟩
 ·split at h
  ·rename_i r he
   split at h
   ·rename_i σ m' y hr
    cases hm:decide (m'=m)
    ·rw[hm]at h;cases h
    ·rw[hm]at h
     have hm:=of_decide_eq_true hm
     subst hm;simp only[cond_true,Option.map_eq_some_iff,Prod.mk.injEq]at h;obtain⟨z,h1,rfl,rfl⟩:=h;have:=aV h1;injection this with e1 e2;subst e1;cases e2;right;refine⟨r,rfl,?_⟩;have h2:=hv.ent (by rw[he];rfl) (r+1) (by rw[he];simp[Ent.root]);rw[he]at h2;simp only[aF,if_true]at h2;obtain⟨τ0,m0,x0,pl,S0,cs,σ',μ,pl',cs',g1,g2,g3,g4,g5,g6,g7⟩:=h2;simp only[show ¬(r=r+1)from by omega,if_false]at g1
     have hroot:=hv.root
     rw[he]at hroot;simp only[mQ,Ent.root]at hroot;rw[<-hroot,hr]at g1;obtain⟨e1,e2,e3,e4,e5⟩:=g1.own_inj;injection e1 with e6 e7;subst e6;cases e7;subst e2;subst e3;subst e4;simp only[loc,Option.some.injEq,Prod.mk.injEq]at g2;obtain⟨rfl,rfl⟩:=g2;simp only[aK.read,Option.some.injEq]at g3;subst g3;exact⟨cs,g4,g1.2.2⟩
   ·rename_i σ m' y hr
    cases hm:decide (m'=m)
    ·rw[hm]at h;cases h
    ·rw[hm]at h
     have hm:=of_decide_eq_true hm
     subst hm;simp only[cond_true,Option.map_eq_some_iff,Prod.mk.injEq]at h;obtain⟨z,h1,rfl,rfl⟩:=h;have:=aV h1;injection this with e1 e2;subst e1;cases e2;right;refine⟨r,rfl,?_⟩;have h2:=hv.ent (by rw[he];rfl) (r+1) (by rw[he];simp[Ent.root]);rw[he]at h2;simp only[aF,if_true]at h2;obtain⟨τ0,m0,x0,pl,S0,cs,σ',μ,pl',cs',g1,g2,g3,g4,g5,g6,g7⟩:=h2;simp only[show ¬(r=r+1)from by omega,if_false]at g1
     have hroot:=hv.root
     rw[he]at hroot;simp only[mQ,Ent.root]at hroot;rw[<-hroot,hr]at g1;obtain⟨e1,e2,b,e3,e4,e5,e6⟩:=g1.box_inj;injection e1 with e7 e8;subst e7;cases e8;subst e2;simp only[loc,Option.some.injEq,Prod.mk.injEq]at g2;obtain⟨rfl,rfl⟩:=g2;have g3':=g1.2.1.read.symm.trans g3;simp only[Option.some.injEq]at g3';subst g3';exact⟨cs,g4,g1.2.2.mono (fun _ h=>h) g1.sub⟩
   ·cases h
  ·exact iC hi hv h

end
end Go.Lf
namespace Go.Lf

def fD:cM->cM->Bool
 | [],[]=>false
 | [],_::_=>true
 |_::_,[]=>false
 | .fst::p,.fst::q=>fD p q
 | .snd::p,.snd::q=>fD p q
 | .idx _::p,.idx _::q=>fD p q
 |_::_,_::_=>false

theorem nJ{w w':World}{b off n:Nat}{c':List Value}(hu:Upd w w' b off n c')(ho:∀k,k≠b->w'.heap[k]? =w.heap[k]?){pl:aK}{k:Nat}{cs:List Value}(h:pl.read w k=some cs)
  (hdis:∀o,pl= .mem b o->o+k<=off∨off+n<=o):pl.read w' k=some cs:=by
 cases pl with
 |val _=>exact h
 |mem b0 o=>
  by_cases hb:b0=b
  ·subst hb
   obtain⟨hl,row,row',T,h1,h2,h3,h4⟩:=hu;simp only[aK.read,h1]at h;split at h
   ·rename_i hle
    injection h with h;have hlen:row'.size=row.size:=by
     have:=congrArg List.length h4
     simp at this;omega
    simp only[aK.read,h2];rw[if_pos (by omega),h4,fO _ _ _ _ hl (by simpa using h3) _ _ (by simpa using hle) (hdis o rfl),h]
   ·cases h
  ·simp only[aK.read]at h⊢
   rw[ho b0 hb];exact h

theorem lD{F:aA}{w w':World}{b off:Nat}{σ:Ty}{c':List Value}(hu:Upd w w' b off σ.size c')(ho:∀k,k≠b->w'.heap[k]? =w.heap[k]?):
  ∀(q p:cM) {τ:Ty} {m:Md} {S:aA} {pl:aK} {cs:List Value} {x:τ.den} {y:σ.den} {μ ν:Md},(∀k,S k->¬F k)->Own F w τ m S cs x->fM F S w pl τ.size cs->
   aN p τ x=some ⟨σ,y⟩->bI p τ m=some μ->inR p τ x->loc w p τ pl=some (σ,.mem b off)->bI q τ m=some ν->inR q τ x->fD p q=false->loc w' q τ pl=loc w q τ pl
 | [],_,_,_,_,_,_,_,_,_,_,_,_,_,_,_,_,_,_,_,_=>rfl
 |_::_,[],_,_,_,_,_,_,_,_,_,_,_,_,_,_,_,_,_,_,hb=>by cases hb
 | .fst::q,.fst::p,.prod a c,m,S,pl,cs,x,y,μ,ν,hd,h,hp,g1,g2,g3,hl,k1,k2,hb=>by
  obtain⟨c1,c2,S1,S2,rfl,s1,s2,d,o1,o2⟩:=h;have l1:=o1.len;refine lD hu ho q p (fun k hk=>hd k (s1 k hk)) o1 (hp.part s1 (by simp[Ty.size]) (bP c1 c2 _ l1)) g1 g2 g3 hl k1 k2 ?_
  simpa[fD]using hb
 | .snd::q,.snd::p,.prod a c,m,S,pl,cs,x,y,μ,ν,hd,h,hp,g1,g2,g3,hl,k1,k2,hb=>by
  obtain⟨c1,c2,S1,S2,rfl,s1,s2,d,o1,o2⟩:=h;have l1:=o1.len;refine lD hu ho q p (fun k hk=>hd k (s2 k hk)) o2 (hp.part s2 (by simp[Ty.size]) (bL c1 c2 _ _ l1 o2.len)) g1 g2 g3 hl k1 k2 ?_
  simpa[fD]using hb
 | .fst::q,.snd::p,.prod a c,m,S,pl,cs,x,y,μ,ν,hd,h,hp,g1,g2,g3,hl,k1,k2,hb=>by
  obtain⟨c1,c2,S1,S2,rfl,s1,s2,d,o1,o2⟩:=h;have l1:=o1.len;have hp1:=hp.part s1 (k:=a.size) (o:=0) (by simp[Ty.size]) (bP c1 c2 _ l1);have hp2:=hp.part s2 (k:=c.size) (o:=a.size) (by simp[Ty.size]) (bL c1 c2 _ _ l1 o2.len);obtain⟨pl2,cs2,S3,f⟩:=focus p (fun k hk=>hd k (s2 k hk)) o2 hp2 g1 g2 g3
  have e:=f.loc.symm.trans hl
  simp only[Option.some.injEq,Prod.mk.injEq,true_and]at e;subst e;have hblk:=f.blk b rfl;refine cQ q o1 hp1.read (nJ hu ho hp1.read ?_) k1 k2 ?_
  ·intro o heq
   cases pl with
   |val _=>cases heq
   |mem b0 o0=>
    simp only[aK.part]at heq;injection heq with e1 e2;subst e1;have:=f.rng b0 off (o0+a.size) rfl rfl;omega
  ·intro k hk
   refine ho k ?_
   rintro rfl
   rcases hblk with h|h
   ·exact d k hk h
   ·rw[aK.part_isB]at h
    cases pl with
    |val _=>exact h
    |mem b0 o0=>
     have h:k=b0:=h
     subst h;exact hp.1 (s1 _ hk)
 | .snd::q,.fst::p,.prod a c,m,S,pl,cs,x,y,μ,ν,hd,h,hp,g1,g2,g3,hl,k1,k2,hb=>by
  obtain⟨c1,c2,S1,S2,rfl,s1,s2,d,o1,o2⟩:=h;have l1:=o1.len;have hp1:=hp.part s1 (k:=a.size) (o:=0) (by simp[Ty.size]) (bP c1 c2 _ l1);have hp2:=hp.part s2 (k:=c.size) (o:=a.size) (by simp[Ty.size]) (bL c1 c2 _ _ l1 o2.len);obtain⟨pl2,cs2,S3,f⟩:=focus p (fun k hk=>hd k (s1 k hk)) o1 hp1 g1 g2 g3
  have e:=f.loc.symm.trans hl
  simp only[Option.some.injEq,Prod.mk.injEq,true_and]at e;subst e;have hblk:=f.blk b rfl;refine cQ q o2 hp2.read (nJ hu ho hp2.read ?_) k1 k2 ?_
  ·intro o heq
   cases pl with
   |val _=>cases heq
   |mem b0 o0=>
    simp only[aK.part]at heq;injection heq with e1 e2;subst e1;have:=f.rng b0 off (o0+0) rfl rfl;omega
  ·intro k hk
   refine ho k ?_
   rintro rfl
   rcases hblk with h|h
   ·exact d k h hk
   ·rw[aK.part_isB]at h
    cases pl with
    |val _=>exact h
    |mem b0 o0=>
     have h:k=b0:=h
     subst h;exact hp.1 (s2 _ hk)
 | .idx i::q,.idx j::p,.slice e,.own me,S,pl,cs,xs,y,μ,ν,hd,h,hp,g1,g2,g3,hl,k1,k2,hb=>by
  obtain⟨ao,cap,rfl,hc,hlm,h⟩:=h;obtain⟨hi,k2⟩:=k2;obtain⟨hj,g3⟩:=g3;rcases h with⟨_,h⟩|⟨b1,off1,row,T,Si,rfl,hb1,hrow,hsz,s,nb,d,he⟩
  ·omega
  have hini:(i+1)*e.size<=cap*e.size:=Nat.mul_le_mul_right _ (by omega)
  rw[Nat.add_mul,Nat.one_mul]at hini;have hinj:(j+1)*e.size<=cap*e.size:=Nat.mul_le_mul_right _ (by omega);rw[Nat.add_mul,Nat.one_mul]at hinj;have r1:pl.read w 1=_:=hp.read;have elt:∀i,(i*e.size+e.size<=cap*e.size)->fM F (Si i) w (.mem b1 (off1+i*e.size)) e.size (seg row.toList (off1+i*e.size) e.size):=
   fun i hi=>⟨nb i,hd b1 hb1,row,T,hrow,by omega,rfl⟩
  have hl':loc w p e (.mem b1 (off1+j*e.size))=some (σ,.mem b off):=by
   have hl:=hl
   simp only[loc,r1]at hl
   rwa [if_pos hj]at hl
  obtain⟨pl2,cs2,S3,f⟩:=focus p (fun k hk=>hd k (s j k hk)) (Own.list_get he hj) (elt j hinj) g1 g2 g3
  have e1:=f.loc.symm.trans hl'
  simp only[Option.some.injEq,Prod.mk.injEq,true_and]at e1;subst e1;have hblk:=f.blk b rfl;have hbS:S b:=hblk.elim (s j b) (fun h=>by have h:b=b1:=h;rw[h];exact hb1)
  have r2:pl.read w' 1=_:=nJ hu ho r1 (fun o heq=>by subst heq;exact absurd hbS hp.1)
  simp only[loc,r1,r2];rw[if_pos hi,if_pos hi];by_cases hij:i=j
  ·subst hij
   exact lD hu ho q p (fun k hk=>hd k (s i k hk)) (Own.list_get he hi) (elt i hini) g1 g2 g3 hl' k1 k2 (by simpa[fD]using hb)
  ·refine cQ q (Own.list_get he hi) (elt i hini).read (nJ hu ho (elt i hini).read ?_) k1 k2 ?_
   ·intro o heq
    injection heq with e1 e2;subst e1;have hr:=f.rng b1 off (off1+j*e.size) rfl rfl;rcases Nat.lt_or_gt_of_ne hij with hlt|hgt
    ·have:=Nat.mul_le_mul_right e.size (show i+1<=j by omega)
     rw[Nat.add_mul,Nat.one_mul]at this;omega
    ·have:=Nat.mul_le_mul_right e.size (show j+1<=i by omega)
     rw[Nat.add_mul,Nat.one_mul]at this;omega
   ·intro k hk
    refine ho k ?_
    rintro rfl
    rcases hblk with h|h
    ·exact d i j hij k hk h
    ·have h:k=b1:=h
     subst h;exact nb i hk
 | .idx i::q,.idx j::p,.arr n e,m,S,pl,cs,xs,y,μ,ν,hd,h,hp,g1,g2,g3,hl,k1,k2,hb=>by
  obtain⟨hn,hlen,Si,s,d,he⟩:=h;obtain⟨hi,k2⟩:=k2;obtain⟨hj,g3⟩:=g3;have hini:(i+1)*e.size<=n*e.size:=Nat.mul_le_mul_right _ (by omega);rw[Nat.add_mul,Nat.one_mul]at hini;have hinj:(j+1)*e.size<=n*e.size:=Nat.mul_le_mul_right _ (by omega);rw[Nat.add_mul,Nat.one_mul]at hinj;have elt:∀i,(i*e.size+e.size<=n*e.size)->fM F (Si i) w (pl.part (i*e.size) e.size) e.size (seg cs (i*e.size) e.size):=
   fun i hi=>hp.part (s i) (by simpa[Ty.size]using hi) rfl
  have hl':loc w p e (pl.part (j*e.size) e.size)=some (σ,.mem b off):=by
   have hl:=hl
   simp only[loc]at hl
   rwa [if_pos (by omega)]at hl
  obtain⟨pl2,cs2,S3,f⟩:=focus p (fun k hk=>hd k (s j k hk)) (Own.list_get he hj) (elt j hinj) g1 g2 g3
  have e1:=f.loc.symm.trans hl'
  simp only[Option.some.injEq,Prod.mk.injEq,true_and]at e1;subst e1;have hblk:=f.blk b rfl;simp only[loc];rw[if_pos (by omega),if_pos (by omega)];by_cases hij:i=j
  ·subst hij
   exact lD hu ho q p (fun k hk=>hd k (s i k hk)) (Own.list_get he hi) (elt i hini) g1 g2 g3 hl' k1 k2 (by simpa[fD]using hb)
  ·refine cQ q (Own.list_get he hi) (elt i hini).read (nJ hu ho (elt i hini).read ?_) k1 k2 ?_
   ·intro o heq
    cases pl with
    |val _=>cases heq
    |mem b0 o0=>
     simp only[aK.part]at heq;injection heq with e1 e2;subst e1;have hr:=f.rng b0 off (o0+j*e.size) rfl rfl;rcases Nat.lt_or_gt_of_ne hij with hlt|hgt
     ·have:=Nat.mul_le_mul_right e.size (show i+1<=j by omega)
      rw[Nat.add_mul,Nat.one_mul]at this;omega
     ·have:=Nat.mul_le_mul_right e.size (show j+1<=i by omega)
      rw[Nat.add_mul,Nat.one_mul]at this;omega
   ·intro k hk
    refine ho k ?_
    rintro rfl
    rcases hblk with h|h
    ·exact d i j hij k hk h
    ·rw[aK.part_isB]at h
     cases pl with
     |val _=>exact h
     |mem b0 o0=>
      have h:k=b0:=h
      subst h;exact hp.1 (s i _ hk)
 | .fst::_,.idx _::_,.prod _ _,_,_,_,_,_,_,_,_,_,_,_,g1,_,_,_,_,_,_=>by simp[aN]at g1
 | .snd::_,.idx _::_,.prod _ _,_,_,_,_,_,_,_,_,_,_,_,g1,_,_,_,_,_,_=>by simp[aN]at g1
 | .idx _::_,.fst::_,.slice _,_,_,_,_,_,_,_,_,_,_,_,g1,_,_,_,_,_,_=>by simp[aN]at g1
 | .idx _::_,.snd::_,.slice _,_,_,_,_,_,_,_,_,_,_,_,g1,_,_,_,_,_,_=>by simp[aN]at g1
 | .idx _::_,.fst::_,.arr _ _,_,_,_,_,_,_,_,_,_,_,_,g1,_,_,_,_,_,_=>by simp[aN]at g1
 | .idx _::_,.snd::_,.arr _ _,_,_,_,_,_,_,_,_,_,_,_,g1,_,_,_,_,_,_=>by simp[aN]at g1
 | .idx _::_,.idx _::_,.slice _,.shr,_,_,_,_,_,_,_,_,_,_,_,_,_,_,hm,_,_=>by simp[bI]at hm
 | .idx _::_,.idx _::_,.slice _,.pair _ _,_,_,_,_,_,_,_,_,_,_,_,_,_,_,hm,_,_=>by simp[bI]at hm
 | .idx _::_,_::_,.prod _ _,_,_,_,_,_,_,_,_,_,_,_,_,_,_,_,hm,_,_=>by simp[bI]at hm
 | .fst::_,_::_,.slice _,_,_,_,_,_,_,_,_,_,_,_,_,_,_,_,hm,_,_=>by simp[bI]at hm
 | .snd::_,_::_,.slice _,_,_,_,_,_,_,_,_,_,_,_,_,_,_,_,hm,_,_=>by simp[bI]at hm
 | .fst::_,_::_,.arr _ _,_,_,_,_,_,_,_,_,_,_,_,_,_,_,_,hm,_,_=>by simp[bI]at hm
 | .snd::_,_::_,.arr _ _,_,_,_,_,_,_,_,_,_,_,_,_,_,_,_,hm,_,_=>by simp[bI]at hm
 |a::_,_::_,.int _,_,_,_,_,_,_,_,_,_,_,_,_,_,_,_,hm,_,_=>by cases a<;>simp[bI]at hm
 |a::_,_::_,.bool,_,_,_,_,_,_,_,_,_,_,_,_,_,_,_,hm,_,_=>by cases a<;>simp[bI]at hm
 |a::_,_::_,.str,_,_,_,_,_,_,_,_,_,_,_,_,_,_,_,hm,_,_=>by cases a<;>simp[bI]at hm
 |a::_,_::_,.unit,_,_,_,_,_,_,_,_,_,_,_,_,_,_,_,hm,_,_=>by cases a<;>simp[bI]at hm
 |a::_,_::_,.abs _,_,_,_,_,_,_,_,_,_,_,_,_,_,_,_,hm,_,_=>by cases a<;>simp[bI]at hm

theorem inR_list'{i j:Nat}{e:Ty}{xs:List e.den}{z:e.den}{q:cM}(hz:inR q e (xs.getD i e.dflt)->inR q e z)(h:j<xs.length/\inR q e (xs.getD j e.dflt)):
  j<(xs.set i z).length/\inR q e ((xs.set i z).getD j e.dflt):=by
 refine⟨by simpa using h.1,?_⟩
 rw[List.getD_eq_getElem?_getD,List.getElem?_set]
 by_cases hij:i=j
 ·subst hij
  rw[if_pos rfl,if_pos h.1];exact hz h.2
 ·rw[if_neg hij,<-List.getD_eq_getElem?_getD]
  exact h.2
theorem lG:∀(p q:cM) (τ:Ty) (x x':τ.den) {σ:Ty} {y:σ.den},eM p τ x σ y=some x'->fD p q=false->inR q τ x->inR q τ x'
 |_,[],_,_,_,_,_,_,_,_=>trivial
 | [],_::_,_,_,_,_,_,_,hb,_=>by cases hb
 | .fst::p,c::q,.prod a b,x,x',σ,y,h,hb,hr=>by
  simp only[eM,Option.map_eq_some_iff]at h;obtain⟨z,h1,rfl⟩:=h;cases c with
  |fst=>exact lG p q a x.1 z h1 (by simpa[fD]using hb) hr
  |snd=>exact hr
  |idx _=>exact hr
 | .snd::p,c::q,.prod a b,x,x',σ,y,h,hb,hr=>by
  simp only[eM,Option.map_eq_some_iff]at h;obtain⟨z,h1,rfl⟩:=h;cases c with
  |fst=>exact hr
  |snd=>exact lG p q b x.2 z h1 (by simpa[fD]using hb) hr
  |idx _=>exact hr
 | .idx i::p,c::q,.slice e,xs,x',σ,y,h,hb,hr=>by
  simp only[eM,Option.map_eq_some_iff]at h;obtain⟨z,h1,rfl⟩:=h;cases c with
  |fst=>exact hr
  |snd=>exact hr
  |idx j=>exact inR_list' (fun h=>lG p q e _ z h1 (by simpa[fD]using hb) h) hr
 | .idx i::p,c::q,.arr n e,xs,x',σ,y,h,hb,hr=>by
  simp only[eM,Option.map_eq_some_iff]at h;obtain⟨z,h1,rfl⟩:=h;cases c with
  |fst=>exact hr
  |snd=>exact hr
  |idx j=>exact inR_list' (fun h=>lG p q e _ z h1 (by simpa[fD]using hb) h) hr
 | .fst::_,_::_,.slice _,_,_,_,_,h,_,_=>by simp[eM]at h
 | .fst::_,_::_,.arr _ _,_,_,_,_,h,_,_=>by simp[eM]at h
 | .snd::_,_::_,.slice _,_,_,_,_,h,_,_=>by simp[eM]at h
 | .snd::_,_::_,.arr _ _,_,_,_,_,h,_,_=>by simp[eM]at h
 | .idx _::_,_::_,.prod _ _,_,_,_,_,h,_,_=>by simp[eM]at h
 |a::_,_::_,.int _,_,_,_,_,h,_,_=>by cases a<;>simp[eM]at h
 |a::_,_::_,.bool,_,_,_,_,h,_,_=>by cases a<;>simp[eM]at h
 |a::_,_::_,.str,_,_,_,_,h,_,_=>by cases a<;>simp[eM]at h
 |a::_,_::_,.unit,_,_,_,_,h,_,_=>by cases a<;>simp[eM]at h
 |a::_,_::_,.abs _,_,_,_,_,h,_,_=>by cases a<;>simp[eM]at h

theorem pF:∀(p q:cM) (τ:Ty) (m m':Md) {μ:Md},gC p τ m μ=some m'->fD p q=false->(bI q τ m).isSome=true->(bI q τ m').isSome=true
 |_,[],_,_,_,_,_,_,_=>rfl
 | [],_::_,_,_,_,_,_,hb,_=>by cases hb
 | .fst::p,c::q,.prod a b,m,m',μ,h,hb,hr=>by
  simp only[gC,Option.map_eq_some_iff]at h;obtain⟨z,h1,rfl⟩:=h;cases c with
  |fst=>exact pF p q a m.fst z h1 (by simpa[fD]using hb) hr
  |snd=>exact hr
  |idx _=>exact hr
 | .snd::p,c::q,.prod a b,m,m',μ,h,hb,hr=>by
  simp only[gC,Option.map_eq_some_iff]at h;obtain⟨z,h1,rfl⟩:=h;cases c with
  |fst=>exact hr
  |snd=>exact pF p q b m.snd z h1 (by simpa[fD]using hb) hr
  |idx _=>exact hr
 | .idx _::_,_::_,.prod _ _,_,_,_,h,_,_=>by simp[gC]at h
 |a::_,_::_,.slice _,_,_,_,h,_,_=>by cases a<;>simp[gC]at h
 |a::_,_::_,.arr _ _,_,_,_,h,_,_=>by cases a<;>simp[gC]at h
 |a::_,_::_,.int _,_,_,_,h,_,_=>by cases a<;>simp[gC]at h
 |a::_,_::_,.bool,_,_,_,h,_,_=>by cases a<;>simp[gC]at h
 |a::_,_::_,.str,_,_,_,h,_,_=>by cases a<;>simp[gC]at h
 |a::_,_::_,.unit,_,_,_,h,_,_=>by cases a<;>simp[gC]at h
 |a::_,_::_,.abs _,_,_,_,h,_,_=>by cases a<;>simp[gC]at h
end Go.Lf
namespace Go.Lf

def valS(σ:Ty)(μ:Md)(l:Al)(v:aP):Option (σ.den×Md×List Nat×Bool):=
 match v.e with
 | .nilS=>match nilOwn σ μ with
  |some y=>some (y,μ,[],false)
  |none=>match nilD σ with
   |some y=>some (y,.shr,[],false)
   |none=>none
 | .own _ m' _=>match v.ownAs σ m' with
  |some (y,u)=>some (y,m',u,false)
  |none=>none
 | .sub r []=>match v.r with
  | .own _ m' _=>match v.shrAs σ with
   |some y=>some (y,μ,[],false)
   |none=>match ownR σ m' v with
    |some (y,u)=>some (y,m',u,false)
    |none=>none
  | .box _ m' _=>match v.shrAs σ with
   |some y=>some (y,μ,[],false)
   |none=>match ownR σ m' v with
    |some (y,u)=>some (y,m',u,false)
    |none=>none
  |_=>match v.shrAs σ with
   |some y=>some (y,bif σ.flat then μ else .shr,[],false)
   |none=>none
 | .pend r p e me x=>bif Nat.beq r l.r&&decide (μ= .own me)then(match bY (τ:= .slice e) (σ:=σ) x with
  |some y=>some (y,μ,[],true)
  |none=>none)else none
 |_=>match v.shrAs σ with
  |some y=>some (y,bif σ.flat then μ else .shr,[],false)
  |none=>none

def modeS(l:Al)(μ μ':Md):Option Md:=bif decide (μ'=μ)then some l.m else gC l.p l.τ l.m μ'

def pendC(v:aP)(l:Al):Prop:=match v.e with
 | .pend _ p _ _ _=>p=l.p
 |_=>True

def xO:cM->Ty->Bool
 | [],.slice _=>true
 | .fst::p,.prod a _=>xO p a
 | .snd::p,.prod _ b=>xO p b
 | .idx _::p,.slice e=>xO p e
 | .idx _::p,.arr _ e=>xO p e
 |_,_=>false
def Ty.scal:Ty->Bool
 | .int _=>true
 | .bool=>true
 |_=>false
def qF(r:Nat)(τ:Ty)(e:Ent):Ent:=match e with
 | .addr r' q=> .addr r' q
 | .sub r' q=>bif Nat.beq r' r then(bif xO q τ then .sub r' q else .dead)else .sub r' q
 |e=>eY r e
def keepS(env:St)(r:Nat)(τ:Ty):St:=fun t=>qF r τ (env t)
def flatS(σ:Ty)(μ μ':Md)(used:List Nat):Bool:=σ.scal&&decide (μ'=μ)&&used.isEmpty

def wW(r:Nat)(p:cM)(e:Ent):Ent:=match e with
 | .addr r' q=>bif Nat.beq r' r&&fD p q then .dead else .addr r' q
 |e=>eY r e
def yM(env:St)(r:Nat)(p:cM):St:=fun t=>wW r p (env t)

def storeE(C:Ctx)(st:St)(T:TypeId)(va vv:aP):Option (Prop×St):=
 match va.addr? with
 |some l=>match aN l.p l.τ l.x,bI l.p l.τ l.m with
  |some ⟨σ,_⟩,some μ=>bif decide (look C.tys T=some σ)then
    (match valS σ μ l vv with
    |some (y,μ',used,_)=>match eM l.p l.τ l.x σ y,modeS l μ μ' with
     |some x',some m'=>bif bQ (l.r::used)then some (pendC vv l,upd (bif flatS σ μ μ' used then keepS st l.r l.τ else yM (dropAll st used) l.r l.p) l.r (dR (st l.r) l.τ m' x'))else none
     |_,_=>none
    |none=>none)else none
  |_,_=>none
 |none=>none

section
variable {P:Program} {C:Ctx} {N:NP} {w0:World} {F0 H:aA} {env:St} {a:Act} {w:World} {F:aA} {S:Nat->aA} {d:Nat}

theorem pE{r:Nat}{e:Ent}(h:e.root≠some r):eY r e=e:=by
 unfold eY
 cases h':e.root with
 |none=>rfl
 |some r'=>
  have:r'≠r:=fun e=>h (by rw[h',e])
  simp[cE this]

theorem keepA_cases(r:Nat)(p:cM)(e:Ent):wW r p e= .dead∨(wW r p e=e/\(e.root≠some r∨∃q,e= .addr r q/\fD p q=false)):=by
 unfold wW
 split
 ·rename_i r' q
  by_cases h:r'=r
  ·subst h
   cases hb:fD p q
   ·right;simp
    exact .inr hb
   ·left;simp
  ·right
   rw[cE h];exact⟨rfl,.inl (by simp[Ent.root,h])⟩
 ·unfold eY
  cases h:e.root with
  |none=>right;simp
  |some r'=>
   by_cases e':r'=r
   ·left;simp[e']
   ·right
    simp[cE e',e']
theorem keepA_owner{r:Nat}{p:cM}{e:Ent}(h:e.isOwner=true):wW r p e=e:=by
 cases e<;>first|rfl|cases h
theorem mD:∀(p:cM) (τ:Ty) (x x':τ.den),(aN p τ x).isSome=true->(aN p τ x').isSome=true
 | [],_,_,_,_=>rfl
 | .fst::p,.prod a _,x,x',h=>mD p a x.1 x'.1 h
 | .snd::p,.prod _ b,x,x',h=>mD p b x.2 x'.2 h
 | .idx i::p,.slice e,x,x',h=>mD p e _ _ h
 | .idx i::p,.arr _ e,x,x',h=>mD p e _ _ h
 | .fst::_,.int _,_,_,h=>h
 | .fst::_,.bool,_,_,h=>h
 | .fst::_,.str,_,_,h=>h
 | .fst::_,.abs _,_,_,h=>h
 | .fst::_,.unit,_,_,h=>h
 | .fst::_,.slice _,_,_,h=>h
 | .fst::_,.arr _ _,_,_,h=>h
 | .snd::_,.int _,_,_,h=>h
 | .snd::_,.bool,_,_,h=>h
 | .snd::_,.str,_,_,h=>h
 | .snd::_,.abs _,_,_,h=>h
 | .snd::_,.unit,_,_,h=>h
 | .snd::_,.slice _,_,_,h=>h
 | .snd::_,.arr _ _,_,_,h=>h
 | .idx _::_,.int _,_,_,h=>h
 | .idx _::_,.bool,_,_,h=>h
 | .idx _::_,.str,_,_,h=>h
 | .idx _::_,.abs _,_,_,h=>h
 | .idx _::_,.unit,_,_,h=>h
 | .idx _::_,.prod _ _,_,_,h=>h

theorem o7(hC:aG P C)(hi:aJ P N w0 F0 H env a w F S){r:Nat}{p:cM}{τ:Ty}{m m':Md}{x x':τ.den}{pl:aK}{S0 S':aA}{cs:List Value}{σ:Ty}{μ μ':Md}{b off:Nat}{y:σ.den}{T:TypeId}{S1:aA}{v:Value}{used:List Nat}
  (hT:look C.tys T=some σ) (hR:fH F w (S r) (a.tmps.getD r undef) (env r) τ m x pl S0 cs) (hP:sD F w τ m S0 pl x p σ μ (.mem b off) S')
  (hrow:∃row T0,w.heap[b]? =some (.cells row T0 (0,0))/\off+σ.size<=row.size) (hv:aT F w σ μ' S1 v y) (hn:bQ (r::used)=true)
  (hS1:∀k,S1 k->¬(S0 k/\¬S' k)/\¬pl.isB k/\(S r k∨SL S used k)/\k≠b) (hset:eM p τ x σ y=some x') (hm:μ'=μ/\m'=m∨gC p τ m μ'=some m')
  {y1:σ.den} (hgp:aN p τ x=some ⟨σ,y1⟩) (hgm:bI p τ m=some μ) (hir:inR p τ x):
  ∃w',(storeVar T ⟨b,off,none⟩ v).run P w= .ok () w'/\Inv P N w0 F0 H (upd (yM (dropAll env used) r p) r (dR (env r) τ m' x')) a w':=by
 obtain⟨hnr,_⟩:=d8 hn
 have hi2:=hi.dropAll' used
 have ho:(env r).isOwner=true:=hR.isOwner
 have hdr:=gO used ho hnr
 obtain⟨c',rfl,hvo⟩:=hv
 obtain⟨row,T0,hr1,hr2⟩:=hrow
 obtain⟨w',k1,k2,k3,k4,k5,k6,k7⟩:=(hC.types T _ hT).storeVar hr1 hr2 hvo.len hvo.one
 have hbS:S r b:=(hP.blk b rfl).elim (hR.sub b) hR.isB
 have hF:∀k,F k->w'.heap[k]? =w.heap[k]? :=fun k hk=>k3 k (fun e=>(hi.sb r b hbS).2.2 (e▸hk))
 have hvo':Own F w' σ μ' S1 c' y:=hvo.congr hF (fun k hk=>k3 k (hS1 k hk).2.2.2)
 have hnF:∀k,S1 k->¬F k:=by
  intro k hk;rcases (hS1 k hk).2.2.1 with h|⟨t,_,h⟩
  ·exact(hi.sb r k h).2.2
  ·exact(hi.sb t k h).2.2
 obtain⟨cs2,g1,g2⟩:=hP.plug F w' b off S1 c' μ' m' y x' rfl (fun _ h=>h) (fun k hk=>⟨fun h=>(hi.sb r k (hR.sub k h)).2.2 hk,fun h=>(hi.sb r k (hR.isB h)).2.2 hk⟩)
  (fun k _ hne=>k3 k hne) (fun k _ hne=>k3 k hne) k2 hvo' (fun k hk=>⟨(hS1 k hk).1,hnF k hk,(hS1 k hk).2.2.2,(hS1 k hk).2.1⟩) hm hset
 have hroot:∃S0',fH F w' (fun k=>((S0 k/\¬S' k)∨S1 k)∨pl.isB k) (a.tmps.getD r undef) (dR (env r) τ m' x') τ m' x' pl S0' cs2:=by
  rcases hR.1 with⟨hE,hpl,hs,hvv⟩|⟨hE,b0,hpl,hs,hvv,hb0⟩
  ·rw[hE]
   subst hpl;have hcs:cs=cs2:=g1;subst hcs;simp only[dR];exact⟨_,.inl ⟨rfl,rfl,rfl,hvv⟩,rfl,g2.mono (fun _ h=>h) (fun k hk=> .inl hk)⟩
  ·rw[hE]
   subst hpl;simp only[dR];refine⟨_,.inr ⟨rfl,b0,rfl,?_,hvv,.inr rfl⟩,g1,g2⟩
   funext k
   apply propext
   constructor
   ·intro h
    exact⟨.inl h,fun e=>by subst e;exact g1.1 h⟩
   ·rintro⟨h|h,hne⟩
    ·exact h
    ·exact absurd h hne
 obtain⟨S0',hroot⟩:=hroot
 refine⟨w',k1,F,fun t=>if t=r then(fun k=>((S0 k/\¬S' k)∨S1 k)∨pl.isB k)else if t∈used then none' else S t,?_⟩
 have hset2:=hi2.setRoot (r:=r) (by rw[hdr];exact ho) (w':=w') (Sr:=fun k=>((S0 k/\¬S' k)∨S1 k)∨pl.isB k) (E:=dR (env r) τ m' x') (by unfold dR;split<;>rfl)
  k5 k6 k7 (by omega) (fun k hk hH=>k3 k (fun e=>by subst e;exact(hi.sb r k hbS).1.elim (fun h=>by omega) hH))
  (by
   rintro k (hk|⟨t,ht,hk⟩)
   ·exact hF k hk
   ·refine k3 k (fun e=> ?_)
    subst e;split at hk
    ·exact hk
    ·exact hi.sd t r ht k hk hbS)
  (by
   intro k hk;have hk2:S r k∨SL S used k:=by
    rcases hk with(hk|hk)|hk
    ·exact .inl (hR.sub k hk.1)
    ·exact(hS1 k hk).2.2.1
    ·exact .inl (hR.isB hk)
   rcases hk2 with h|⟨u,hu,h⟩
   ·obtain⟨q1,q2,q3⟩:=hi.sb r k h
    refine⟨q1,by omega,q3,fun t ht hk=> ?_⟩
    split at hk
    ·exact hk
    ·exact hi.sd t r ht k hk h
   ·obtain⟨q1,q2,q3⟩:=hi.sb u k h
    refine⟨q1,by omega,q3,fun t ht hk=> ?_⟩
    split at hk
    ·exact hk
    ·rename_i htu
     exact hi.sd t u (fun e=>htu (e▸hu)) k hk h)
  (by
   have:aF P F w' (upd (cV (dropAll env used) r) r (dR (env r) τ m' x')) (fun t=>a.tmps.getD t undef) (fun t=>if t=r then(fun k=>((S0 k/\¬S' k)∨S1 k)∨pl.isB k)else if t∈used then none' else S t) r (dR (env r) τ m' x'):=by
    rcases hR.1 with⟨hE,_⟩|⟨hE,_⟩
    ·rw[hE]at hroot⊢
     simp only[dR,aF,if_true]at hroot⊢;exact⟨pl,_,cs2,hroot⟩
    ·rw[hE]at hroot⊢
     simp only[dR,aF,if_true]at hroot⊢;exact⟨pl,_,cs2,hroot⟩
   exact this)
 refine {hset2 with ent:= ?_}
 intro t
 by_cases htr:t=r
 ·subst htr
  have:=hset2.ent t
  rw[bU]at this⊢;rcases hR.1 with⟨hE',_⟩|⟨hE',_⟩
  ·rw[hE']at this hroot⊢
   simp only[dR,aF,if_true]at this hroot⊢;exact this
  ·rw[hE']at this hroot⊢
   simp only[dR,aF,if_true]at this hroot⊢;exact this
 ·rw[bG _ _ htr]
  show aF _ _ _ _ _ _ t (wW r p (dropAll env used t))
  rcases keepA_cases r p (dropAll env used t)with h|⟨h,h2⟩
  ·rw[h];trivial
  ·rw[h]
   rcases h2 with h2|⟨q,h2,hq⟩
   ·have h3:=hset2.ent t
    rw[bG _ _ htr]at h3;have h4:cV (dropAll env used) r t=dropAll env used t:=pE h2;rw[h4]at h3;refine aF.keep (fun _ h=>h) (fun b _=>rfl) rfl ?_ ?_ h3
    ·intro u hu
     have hur:u≠r:=fun e=>h2 (e▸hu)
     refine⟨fun ho=> ?_,fun _=>rfl,rfl,fun b hb=>rfl,fun b h1 h2=>absurd h1 h2,fun b hb=>(hset2.sb u b hb).2.2⟩
     rw[bG _ _ hur]at ho⊢;rw[bG _ _ hur];rcases c9 (dropAll env used) r u with h5|⟨h5,_⟩
     ·rw[h5]at ho;cases ho
     ·rw[h5]at ho⊢
      exact keepA_owner ho
    ·intro _
     exact⟨rfl,fun b hb=>rfl,fun b h1 h2=>absurd h1 h2⟩
   ·have h3:=hi2.ent t
    rw[h2]at h3⊢;simp only[aF]at h3⊢;obtain⟨τ1,m1,x1,pl1,S01,cs1',σ1,μ1,b1,off1,e1,e2,e3,e4,e5,e6⟩:=h3;rw[if_neg hnr,hdr]at e1;obtain⟨f1,f2,f3,f4⟩:=e1.uniq hR;injection f1 with f5 f6;subst f5;cases f6;subst f2;subst f3;subst f4;obtain⟨ν,hν⟩:=Option.isSome_iff_exists.1 (show(bI q τ1 m').isSome=true by
     rcases hm with⟨_,rfl⟩|hm
     ·rw[e5];rfl
     ·exact pF _ _ _ _ _ hm hq (by rw[e5];rfl))
    refine⟨τ1,m',x',pl1,S0',cs2,σ1,ν,b1,off1,?_,?_,e3,mD _ _ _ _ e4,hν,lG _ _ _ _ _ hset hq e6⟩
    ·simp only[if_true,bU]
     exact hroot
    ·rw[lD k2 k3 q p (fun k hk=>(hi.sb r k (hR.sub k hk)).2.2) hR.2.2 hR.2.1 hgp hgm hir hP.loc e5 e6 hq]
     exact e2

theorem keepE_cases(r:Nat)(τ:Ty)(e:Ent):qF r τ e= .dead∨(qF r τ e=e/\(e.root≠some r∨(∃q,e= .addr r q)∨∃q,e= .sub r q/\xO q τ=true)):=by
 unfold qF
 split
 ·rename_i r' q
  right
  refine⟨rfl,?_⟩
  by_cases h:r'=r
  ·subst h;exact .inr (.inl ⟨q,rfl⟩)
  ·left;simp[Ent.root,h]
 ·rename_i r' q
  by_cases h:r'=r
  ·subst h
   rw[Nat.beq_refl];cases hs:xO q τ
   ·left;rfl
   ·right;exact⟨rfl,.inr (.inr ⟨q,rfl,hs⟩)⟩
  ·right
   rw[cE h];exact⟨rfl,.inl (by simp[Ent.root,h])⟩
 ·unfold eY
  cases h:e.root with
  |none=>right;simp
  |some r'=>
   by_cases e':r'=r
   ·left;simp[e']
   ·right
    simp[cE e',e']
theorem keepE_owner{r:Nat}{τ:Ty}{e:Ent}(h:e.isOwner=true):qF r τ e=e:=by
 cases e<;>first|rfl|cases h
theorem jR:∀(p:cM) (τ:Ty) (x:τ.den) {σ:Ty} {y:σ.den},xO p τ=true->aN p τ x=some ⟨σ,y⟩->∃e,σ= .slice e
 | [],.slice e,x,σ,y,h,hg=>by
  simp only[aN,Option.some.injEq,Sigma.mk.injEq]at hg;exact⟨e,hg.1.symm⟩
 | .fst::p,.prod a _,x,_,_,h,hg=>jR p a x.1 h hg
 | .snd::p,.prod _ b,x,_,_,h,hg=>jR p b x.2 h hg
 | .idx i::p,.slice e,x,_,_,h,hg=>jR p e _ h hg
 | .idx i::p,.arr _ e,x,_,_,h,hg=>jR p e _ h hg
 | [],.int _,_,_,_,h,_=>by cases h
 | [],.bool,_,_,_,h,_=>by cases h
 | [],.str,_,_,_,h,_=>by cases h
 | [],.abs _,_,_,_,h,_=>by cases h
 | [],.unit,_,_,_,h,_=>by cases h
 | [],.prod _ _,_,_,_,h,_=>by cases h
 | [],.arr _ _,_,_,_,h,_=>by cases h
 | .fst::_,.int _,_,_,_,h,_=>by cases h
 | .fst::_,.bool,_,_,_,h,_=>by cases h
 | .fst::_,.str,_,_,_,h,_=>by cases h
 | .fst::_,.abs _,_,_,_,h,_=>by cases h
 | .fst::_,.unit,_,_,_,h,_=>by cases h
 | .fst::_,.slice _,_,_,_,h,_=>by cases h
 | .fst::_,.arr _ _,_,_,_,h,_=>by cases h
 | .snd::_,.int _,_,_,_,h,_=>by cases h
 | .snd::_,.bool,_,_,_,h,_=>by cases h
 | .snd::_,.str,_,_,_,h,_=>by cases h
 | .snd::_,.abs _,_,_,_,h,_=>by cases h
 | .snd::_,.unit,_,_,_,h,_=>by cases h
 | .snd::_,.slice _,_,_,_,h,_=>by cases h
 | .snd::_,.arr _ _,_,_,_,h,_=>by cases h
 | .idx _::_,.int _,_,_,_,h,_=>by cases h
 | .idx _::_,.bool,_,_,_,h,_=>by cases h
 | .idx _::_,.str,_,_,_,h,_=>by cases h
 | .idx _::_,.abs _,_,_,_,h,_=>by cases h
 | .idx _::_,.unit,_,_,_,h,_=>by cases h
 | .idx _::_,.prod _ _,_,_,_,h,_=>by cases h

theorem inR_scal{q:cM}{τ:Ty}{x x':τ.den}(hs:τ.scal=true)(h:inR q τ x):inR q τ x':=by
 cases q with
 |nil=>trivial
 |cons a q=>
  exfalso
  cases τ with
  |int _=>cases a<;>exact h
  |bool=>cases a<;>exact h
  |_=>cases hs

theorem inR_list{i j:Nat}{e:Ty}{xs:List e.den}{z:e.den}{q:cM}(hz:inR q e (xs.getD i e.dflt)->inR q e z)(h:j<xs.length/\inR q e (xs.getD j e.dflt)):
  j<(xs.set i z).length/\inR q e ((xs.set i z).getD j e.dflt):=by
 refine⟨by simpa using h.1,?_⟩
 rw[List.getD_eq_getElem?_getD,List.getElem?_set]
 by_cases hij:i=j
 ·subst hij
  rw[if_pos rfl,if_pos h.1];exact hz h.2
 ·rw[if_neg hij,<-List.getD_eq_getElem?_getD]
  exact h.2
theorem lI:∀(p q:cM) (τ:Ty) (x x':τ.den) {σ:Ty} {y:σ.den},σ.scal=true->eM p τ x σ y=some x'->inR q τ x->inR q τ x'
 | [],q,τ,x,x',σ,y,hs,h,hr=>by
  simp only[eM]at h;split at h
  ·rename_i he
   subst he;exact inR_scal hs hr
  ·cases h
 | .fst::p,q,.prod a b,x,x',σ,y,hs,h,hr=>by
  simp only[eM,Option.map_eq_some_iff]at h;obtain⟨z,h1,rfl⟩:=h;cases q with
  |nil=>trivial
  |cons c q=>cases c with
   |fst=>exact lI p q a x.1 z hs h1 hr
   |snd=>exact hr
   |idx _=>exact hr
 | .snd::p,q,.prod a b,x,x',σ,y,hs,h,hr=>by
  simp only[eM,Option.map_eq_some_iff]at h;obtain⟨z,h1,rfl⟩:=h;cases q with
  |nil=>trivial
  |cons c q=>cases c with
   |fst=>exact hr
   |snd=>exact lI p q b x.2 z hs h1 hr
   |idx _=>exact hr
 | .idx i::p,q,.slice e,xs,x',σ,y,hs,h,hr=>by
  simp only[eM,Option.map_eq_some_iff]at h;obtain⟨z,h1,rfl⟩:=h;cases q with
  |nil=>trivial
  |cons c q=>cases c with
   |fst=>exact hr
   |snd=>exact hr
   |idx j=>exact inR_list (fun h=>lI p q e _ z hs h1 h) hr
 | .idx i::p,q,.arr n e,xs,x',σ,y,hs,h,hr=>by
  simp only[eM,Option.map_eq_some_iff]at h;obtain⟨z,h1,rfl⟩:=h;cases q with
  |nil=>trivial
  |cons c q=>cases c with
   |fst=>exact hr
   |snd=>exact hr
   |idx j=>exact inR_list (fun h=>lI p q e _ z hs h1 h) hr
 | .fst::_,_,.int _,_,_,_,_,_,h,_=>by cases h
 | .fst::_,_,.bool,_,_,_,_,_,h,_=>by cases h
 | .fst::_,_,.str,_,_,_,_,_,h,_=>by cases h
 | .fst::_,_,.abs _,_,_,_,_,_,h,_=>by cases h
 | .fst::_,_,.unit,_,_,_,_,_,h,_=>by cases h
 | .fst::_,_,.slice _,_,_,_,_,_,h,_=>by cases h
 | .fst::_,_,.arr _ _,_,_,_,_,_,h,_=>by cases h
 | .snd::_,_,.int _,_,_,_,_,_,h,_=>by cases h
 | .snd::_,_,.bool,_,_,_,_,_,h,_=>by cases h
 | .snd::_,_,.str,_,_,_,_,_,h,_=>by cases h
 | .snd::_,_,.abs _,_,_,_,_,_,h,_=>by cases h
 | .snd::_,_,.unit,_,_,_,_,_,h,_=>by cases h
 | .snd::_,_,.slice _,_,_,_,_,_,h,_=>by cases h
 | .snd::_,_,.arr _ _,_,_,_,_,_,h,_=>by cases h
 | .idx _::_,_,.int _,_,_,_,_,_,h,_=>by cases h
 | .idx _::_,_,.bool,_,_,_,_,_,h,_=>by cases h
 | .idx _::_,_,.str,_,_,_,_,_,h,_=>by cases h
 | .idx _::_,_,.abs _,_,_,_,_,_,h,_=>by cases h
 | .idx _::_,_,.unit,_,_,_,_,_,h,_=>by cases h
 | .idx _::_,_,.prod _ _,_,_,_,_,_,h,_=>by cases h

def SK(w w':World):Prop:=∀(pl:aK) ao n c,pl.read w 1=some [.slice ao n c]->pl.read w' 1=some [.slice ao n c]
theorem SK.of_upd{w w':World}{b off:Nat}{c':List Value}{row:Array Value}{T0:TypeId}{v:Value}(hu:Upd w w' b off 1 c')(ho:∀k,k≠b->w'.heap[k]? =w.heap[k]?)
  (hr:w.heap[b]? =some (.cells row T0 (0,0))) (hs:seg row.toList off 1=[v]) (hv:∀ao n c,v≠ .slice ao n c):SK w w':=by
 intro pl ao n c h
 cases pl with
 |val cs=>exact h
 |mem k o=>
  by_cases hk:k=b
  ·subst hk
   obtain⟨hl,row1,row',T,h1,h2,h3,h4⟩:=hu;rw[hr]at h1;injection h1 with h1;injection h1 with h1;subst h1;simp only[aK.read,hr]at h;split at h
   ·rename_i hle
    injection h with h;have hlen:row'.size=row.size:=by
     have:=congrArg List.length h4
     simp at this;omega
    simp only[aK.read,h2];rw[if_pos (by omega)];have hne:o≠off:=by
     rintro rfl
     rw[hs]at h;injection h with h _;exact hv _ _ _ h
    have:seg row'.toList o 1=seg row.toList o 1:=by
     rw[h4];exact fO _ _ _ _ hl (by simpa using h3) _ _ (by simpa using hle) (by omega)
    rw[this,h]
   ·cases h
  ·simp only[aK.read]at h⊢
   rw[ho k hk];exact h
theorem lE{w w':World}(h:SK w w'):∀(p:cM) (τ:Ty) (pl:aK) {y:Ty×aK},loc w p τ pl=some y->loc w' p τ pl=some y
 | [],_,_,_,he=>he
 | .fst::p,.prod a _,pl,_,he=>lE h p a _ he
 | .snd::p,.prod a b,pl,_,he=>lE h p b _ he
 | .idx i::p,.slice e,pl,_,he=>by
  simp only[loc]at he⊢;split at he
  ·rename_i b off len c hr
   rw[h pl _ _ _ hr];simp only[];split at he
   ·rename_i hi
    rw[if_pos hi];exact lE h p e _ he
   ·cases he
  ·cases he
 | .idx i::p,.arr n e,pl,_,he=>by
  simp only[loc]at he⊢;split at he
  ·rename_i hi
   rw[if_pos hi];exact lE h p e _ he
  ·cases he
 | .fst::_,.int _,_,_,he=>by simp[loc]at he
 | .fst::_,.bool,_,_,he=>by simp[loc]at he
 | .fst::_,.str,_,_,he=>by simp[loc]at he
 | .fst::_,.abs _,_,_,he=>by simp[loc]at he
 | .fst::_,.unit,_,_,he=>by simp[loc]at he
 | .fst::_,.slice _,_,_,he=>by simp[loc]at he
 | .fst::_,.arr _ _,_,_,he=>by simp[loc]at he
 | .snd::_,.int _,_,_,he=>by simp[loc]at he
 | .snd::_,.bool,_,_,he=>by simp[loc]at he
 | .snd::_,.str,_,_,he=>by simp[loc]at he
 | .snd::_,.abs _,_,_,he=>by simp[loc]at he
 | .snd::_,.unit,_,_,he=>by simp[loc]at he
 | .snd::_,.slice _,_,_,he=>by simp[loc]at he
 | .snd::_,.arr _ _,_,_,he=>by simp[loc]at he
 | .idx _::_,.int _,_,_,he=>by simp[loc]at he
 | .idx _::_,.bool,_,_,he=>by simp[loc]at he
 | .idx _::_,.str,_,_,he=>by simp[loc]at he
 | .idx _::_,.abs _,_,_,he=>by simp[loc]at he
 | .idx _::_,.unit,_,_,he=>by simp[loc]at he
 | .idx _::_,.prod _ _,_,_,he=>by simp[loc]at he
theorem Own.scal{F:aA}{w:World}{σ:Ty}{μ:Md}{S:aA}{cs:List Value}{y:σ.den}(hs:σ.scal=true)(h:Own F w σ μ S cs y):σ.size=1/\∃v,cs=[v]/\∀ao n c,v≠ .slice ao n c:=by
 cases σ with
 |int k=>exact⟨rfl,_,h.1,fun _ _ _ h=>by cases h⟩
 |bool=>exact⟨rfl,_,h,fun _ _ _ h=>by cases h⟩
 |_=>cases hs

theorem o6(hC:aG P C)(hi:aJ P N w0 F0 H env a w F S){r:Nat}{p:cM}{τ:Ty}{m:Md}{x x':τ.den}{pl:aK}{S0 S':aA}{cs cs1:List Value}{σ:Ty}{μ:Md}{b off:Nat}{y y1:σ.den}{T:TypeId}{S1:aA}{v:Value}
  (hT:look C.tys T=some σ) (hR:fH F w (S r) (a.tmps.getD r undef) (env r) τ m x pl S0 cs) (hf:vU F w τ m S0 pl x p σ y1 μ (.mem b off) cs1 S') (hs:σ.scal=true)
  (hv:aT F w σ μ S1 v y) (hset:eM p τ x σ y=some x'):
  ∃w',(storeVar T ⟨b,off,none⟩ v).run P w= .ok () w'/\Inv P N w0 F0 H (upd (keepS env r τ) r (dR (env r) τ m x')) a w':=by
 have hP:=hf.toPlug
 have ho:(env r).isOwner=true:=hR.isOwner
 obtain⟨c',rfl,hvo0⟩:=hv
 have hvo1:Own F w σ μ none' c' y:=Own.flat (by cases σ<;>first|rfl|cases hs) hvo0
 obtain⟨q1,q2,row,T0,hr1,hr2,hr3⟩:=hf.ok
 obtain⟨w',k1,k2,k3,k4,k5,k6,k7⟩:=(hC.types T _ hT).storeVar hr1 hr2 hvo1.len hvo1.one
 have hbS:S r b:=(hP.blk b rfl).elim (hR.sub b) hR.isB
 have hF:∀k,F k->w'.heap[k]? =w.heap[k]? :=fun k hk=>k3 k (fun e=>(hi.sb r b hbS).2.2 (e▸hk))
 have hvo':Own F w' σ μ none' c' y:=hvo1.congr hF (fun k hk=>hk.elim)
 have hm:μ=μ/\m=m∨gC p τ m μ=some m:= .inl ⟨rfl,rfl⟩
 obtain⟨hz,v1,hv1,hv2⟩:=hf.own.scal hs
 have hsk:SK w w':=SK.of_upd (hz▸k2) k3 hr1 (by rw[hz]at hr3;rw[hr3,hv1]) hv2
 obtain⟨cs2,g1,g2⟩:=hP.plug F w' b off none' c' μ m y x' rfl (fun _ h=>h) (fun k hk=>⟨fun h=>(hi.sb r k (hR.sub k h)).2.2 hk,fun h=>(hi.sb r k (hR.isB h)).2.2 hk⟩)
  (fun k _ hne=>k3 k hne) (fun k _ hne=>k3 k hne) k2 hvo' (fun k hk=>hk.elim) hm hset
 have hroot:∃S0',fH F w' (fun k=>((S0 k/\¬S' k)∨none' k)∨pl.isB k) (a.tmps.getD r undef) (dR (env r) τ m x') τ m x' pl S0' cs2:=by
  rcases hR.1 with⟨hE,hpl,hs,hvv⟩|⟨hE,b0,hpl,hs,hvv,hb0⟩
  ·rw[hE]
   subst hpl;have hcs:cs=cs2:=g1;subst hcs;simp only[dR];exact⟨_,.inl ⟨rfl,rfl,rfl,hvv⟩,rfl,g2.mono (fun _ h=>h) (fun k hk=> .inl hk)⟩
  ·rw[hE]
   subst hpl;simp only[dR];refine⟨_,.inr ⟨rfl,b0,rfl,?_,hvv,.inr rfl⟩,g1,g2⟩
   funext k
   apply propext
   constructor
   ·intro h
    exact⟨.inl h,fun e=>by subst e;exact g1.1 h⟩
   ·rintro⟨h|h,hne⟩
    ·exact h
    ·exact absurd h hne
 obtain⟨S0',hroot⟩:=hroot
 have hE:(dR (env r) τ m x').isOwner=true:=by unfold dR;split<;>rfl
 have hset2:=hi.setRoot (r:=r) ho (w':=w') (Sr:=fun k=>((S0 k/\¬S' k)∨none' k)∨pl.isB k) (E:=dR (env r) τ m x') hE
  k5 k6 k7 (by omega) (fun k hk hH=>k3 k (fun e=>by subst e;exact(hi.sb r k hbS).1.elim (fun h=>by omega) hH))
  (by
   rintro k (hk|⟨t,ht,hk⟩)
   ·exact hF k hk
   ·refine k3 k (fun e=> ?_)
    subst e;exact hi.sd t r ht k hk hbS)
  (by
   intro k hk;have hk2:S r k:=by
    rcases hk with(hk|hk)|hk
    ·exact hR.sub k hk.1
    ·exact hk.elim
    ·exact hR.isB hk
   obtain⟨q1,q2,q3⟩:=hi.sb r k hk2;exact⟨q1,by omega,q3,fun t ht hk=>hi.sd t r ht k hk hk2⟩)
  (by
   have:aF P F w' (upd (cV env r) r (dR (env r) τ m x')) (fun t=>a.tmps.getD t undef) (fun t=>if t=r then(fun k=>((S0 k/\¬S' k)∨none' k)∨pl.isB k)else S t) r (dR (env r) τ m x'):=by
    rcases hR.1 with⟨hE,_⟩|⟨hE,_⟩
    ·rw[hE]at hroot⊢
     simp only[dR,aF,if_true]at hroot⊢;exact⟨pl,_,cs2,hroot⟩
    ·rw[hE]at hroot⊢
     simp only[dR,aF,if_true]at hroot⊢;exact⟨pl,_,cs2,hroot⟩
   exact this)
 refine⟨w',k1,F,fun t=>if t=r then(fun k=>((S0 k/\¬S' k)∨none' k)∨pl.isB k)else S t,?_⟩
 refine {hset2 with ent:= ?_}
 intro t
 by_cases htr:t=r
 ·subst htr
  have:=hset2.ent t
  rw[bU]at this⊢;rcases hR.1 with⟨hE',_⟩|⟨hE',_⟩
  ·rw[hE']at this hroot⊢
   simp only[dR,aF,if_true]at this hroot⊢;exact this
  ·rw[hE']at this hroot⊢
   simp only[dR,aF,if_true]at this hroot⊢;exact this
 ·rw[bG _ _ htr]
  show aF _ _ _ _ _ _ t (qF r τ (env t))
  rcases keepE_cases r τ (env t)with h|⟨h,h2⟩
  ·rw[h];trivial
  ·rw[h]
   rcases h2 with h2|⟨q,h2⟩|⟨q,h2,hq⟩
   ·have h3:=hset2.ent t
    rw[bG _ _ htr]at h3;have h4:cV env r t=env t:=pE h2;rw[h4]at h3;refine aF.keep (fun _ h=>h) (fun b _=>rfl) rfl ?_ ?_ h3
    ·intro u hu
     have hur:u≠r:=fun e=>h2 (e▸hu)
     refine⟨fun ho=> ?_,fun _=>rfl,rfl,fun b hb=>rfl,fun b h1 h2=>absurd h1 h2,fun b hb=>(hset2.sb u b hb).2.2⟩
     rw[bG _ _ hur]at ho⊢;rw[bG _ _ hur];rcases c9 env r u with h5|⟨h5,_⟩
     ·rw[h5]at ho;cases ho
     ·rw[h5]at ho⊢
      exact keepE_owner ho
    ·intro _
     exact⟨rfl,fun b hb=>rfl,fun b h1 h2=>absurd h1 h2⟩
   ·have h3:=hi.ent t
    rw[h2]at h3⊢;simp only[aF]at h3⊢;obtain⟨τ1,m1,x1,pl1,S01,cs1',σ1,μ1,b1,off1,e1,e2,e3,e4,e5,e6⟩:=h3;obtain⟨f1,f2,f3,f4⟩:=e1.uniq hR;injection f1 with f5 f6;subst f5;cases f6;subst f2;subst f3;subst f4;refine⟨τ1,m1,x',pl1,S0',cs2,σ1,μ1,b1,off1,?_,lE hsk _ _ _ e2,e3,mD _ _ _ _ e4,e5,lI _ _ _ _ _ hs hset e6⟩;simp only[if_true,bU];exact hroot
   ·have h3:=hi.ent t
    rw[h2]at h3⊢;simp only[aF]at h3⊢;obtain⟨τ1,m1,x1,pl1,S01,cs1',σ1,μ1,pl',cs',e1,e2,e3,e4,e5,e6,e7⟩:=h3;obtain⟨f1,f2,f3,f4⟩:=e1.uniq hR;injection f1 with f5 f6;subst f5;cases f6;subst f2;subst f3;subst f4;cases hg:aN q τ1 x1 with
    |none=>rw[hg]at e5;cases e5
    |some g=>
     obtain⟨σ2,y2⟩:=g;obtain⟨e,rfl⟩:=jR q τ1 x1 hq hg;obtain⟨pl3,cs3,S3,f⟩:=focus q (fun k hk=>(hi.sb _ k (hR.sub k hk)).2.2) hR.2.2 hR.2.1 hg e6 e7
     have e8:=f.loc.symm.trans e2
     simp only[Option.some.injEq,Prod.mk.injEq]at e8;obtain⟨e8,e9⟩:=e8;subst e8;subst e9;have e10:=f.ok.read.symm.trans e3;simp only[Option.some.injEq]at e10;subst e10;obtain⟨ao,cap,hcs,_⟩:=f.own;have hrd:pl3.read w' (Ty.slice e).size=some cs3:=by
      rw[hcs]at e3⊢;exact hsk pl3 _ _ _ e3
     refine⟨τ1,m1,x',pl1,S0',cs2,.slice e,μ1,pl3,cs3,?_,lE hsk _ _ _ e2,hrd,e4,mD _ _ _ _ e5,e6,lI _ _ _ _ _ hs hset e7⟩
     simp only[if_true,bU];exact hroot
end
end Go.Lf
namespace Go.Lf

structure Ear where
 r:Nat
 τ:Ty
 m:Md
 x:τ.den

def earS(C:Ctx)(T:TypeId)(va vv:aP):Option Ear:=
 match va.addr?,vv.e with
 |some l,.shr ρ z=>match aN l.p l.τ l.x,bI l.p l.τ l.m with
  |some ⟨σ,_⟩,some _=>(match bY (τ:=ρ) (σ:=σ) z with
   |some y=>bif σ.scal&&decide (look C.tys T=some σ)then(match eM l.p l.τ l.x σ y with
    |some x'=>some ⟨l.r,l.τ,l.m,x'⟩
    |none=>none)else none
   |none=>none)
  |_,_=>none
 |_,_=>none

def v7(e:Ear)(env:St):St:=upd (keepS env e.r e.τ) e.r (dR (env e.r) e.τ e.m e.x)

def keepB(r:Nat)(τ:Ty):Ent->Bool
 | .addr _ _=>true
 | .sub r' q=> !Nat.beq r' r||xO q τ
 |e=>match e.root with
  |none=>true
  |some r'=> !Nat.beq r' r
def earR(r:Nat)(τ:Ty):List Row->Bool
 | []=>true
 |q::l=>cW q.ch&&cW q.used&&q.gb&& !Nat.beq q.d r&&keepB r τ q.e&&earR r τ l
def entP:Ent->Ent->Prop
 | .shr τ x,.shr σ y=>match bY (τ:=τ) (σ:=σ) x with
  |some x'=>x'=y
  |none=>False
 | .addr r p,.addr r' p'=>r=r'/\p=p'
 | .sub r p,.sub r' p'=>r=r'/\p=p'
 |_,_=>False
def rowP(a b:Row):Prop:=
 bif Nat.beq a.d b.d&&cW a.used&&cW b.used&&a.gb&&b.gb&&cW a.ch&&cW b.ch&&decide (a.rs=b.rs)&&isNone a.pd&&isNone b.pd then entP a.e b.e else False
def rowsP:List Row->List Row->Prop
 | [],[]=>True
 |a::l,b::m=>rowP a b/\rowsP l m
 |_,_=>False
def ancR(rows:List Row)(anc:List Nat)(draw:Bool)(k:Nat):List Nat->Bool
 | []=>true
 |s::l=>(match nT rows 0 s with
  |some (j,_)=> !draw||(anc.getD k 0).testBit j
  |none=>true)&&ancR rows anc draw k l

def xX(C:Ctx)(stp:St->Oper->Option (Prop×St))(draw:Bool)(st:St)(ops:List Oper):Option (Prop×St):=
 match fC false C st ops []with
 |(c,rows,o::tail)=>match o.op,o.dst,o.guard with
  | .store T x z,none,none=>match earS C T (bR (stR false rows st) x) (bR (stR false rows st) z)with
   |some e=>match fC false C (v7 e st) ops []with
    |(c1,rows1,_)=>bif earR e.r e.τ rows&&ancR rows (dT ops) draw rows.length (gB (stR false rows st) [x,z])&&
      (!draw||(rP ops 0&&gdB (dT ops) ops 0&&nK (dT ops) rows rows 0&&sF (dT ops) tail (rows.length+1)))then
       andP (c/\c1/\rowsP rows1 rows) (gZ stp (stF rows (v7 e st)) tail)else none
   |none=>none
  |_,_,_=>none
 |_=>none

section
variable {P:Program} {C:Ctx} {N:NP} {w0:World} {F0 H:aA} {env:St} {a:Act} {w:World} {F:aA} {S:Nat->aA}

theorem ear_ok(hC:aG P C)(hi:aJ P N w0 F0 H env a w F S){T:TypeId}{x z:Operand}{o:Oper}(ho:o.op= .store T x z)(hod:o.dst=none){vx vz:aP}
  (hx:aU P F w env (fun t=>a.tmps.getD t undef) S (a.eval x) vx) (hz:aU P F w env (fun t=>a.tmps.getD t undef) S (a.eval z) vz)
  {e:Ear} (h:earS C T vx vz=some e) {K:Act->World->Prop} {Q:Exit->Act->World->Prop} (hK:∀a' w',Inv P N w0 F0 H (v7 e env) a' w'->K a' w'):o.wp P a w K Q:=by
 unfold earS at h
 split at h
 ·rename_i l ρ zz hl he
  obtain⟨σ,y0,μ,pl,S0,cs,b,off,hA,hv⟩:=gK hi hx hl;rw[hA.get,hA.mode]at h;simp only[]at h;split at h
  ·rename_i y hy
   cases hT:(σ.scal&&decide (look C.tys T=some σ))
   ·rw[hT]at h;cases h
   rw[hT]at h;simp only[cond_true]at h;simp only[Bool.and_eq_true,decide_eq_true_eq]at hT;obtain⟨hs,hT'⟩:=hT;split at h
   ·rename_i x' hset
    simp only[Option.some.injEq]at h;subst h;obtain⟨cs2,S',f⟩:=hA.focus (fun b hb=>(hi.sb _ b hb).2.2)
    have hcd:=aV hy
    injection hcd with e1 e2;subst e1;cases e2;have hzv:aT F w ρ .shr none' (a.eval z) zz:=by
     have:=hz.ent (by rw[he];rfl) 0 (by rw[he];simp[Ent.root])
     rw[he]at this;exact this
    have hfl:ρ.flat=true:=by cases ρ<;>first|rfl|cases hs
    obtain⟨w',g1,g2⟩:=o6 hC hi hT' hA.root f hs (aT.flat (m':=μ) (S':=none') hfl hzv) hset;have fin:(execOp a.eval o).run P w= .ok .skip w':=by
     simp[execOp,ho,Instr.storeAt,hv,Instr.sureAddr,g1]
    unfold Oper.wp;rw[fin,Oper.upon_skip,hod];exact hK a w' g2
   ·cases h
  ·cases h
 ·cases h

theorem keepB_ok{r:Nat}{τ:Ty}{e:Ent}(h:keepB r τ e=true):qF r τ e=e:=by
 have gen:(match e.root with|none=>true|some r'=> !Nat.beq r' r)=true->eY r e=e:=by
  intro h;refine pE fun hr=> ?_
  rw[hr]at h;simp[Nat.beq_refl]at h
 cases e with
 |addr r' q=>rfl
 |sub r' q=>
  simp only[keepB,Bool.or_eq_true,Bool.not_eq_true']at h;simp only[qF];cases hb:Nat.beq r' r
  ·rfl
  ·rcases h with h|h
   ·rw[hb]at h;cases h
   ·simp only[cond_true,h]
 |_=>exact gen h

theorem earR_ok{r:Nat}{τ:Ty}:∀ {l:List Row},earR r τ l=true->∀q∈l,q.ch=[]/\q.used=[]/\q.gb=true/\q.d≠r/\qF r τ q.e=q.e
 | [],_,q,h=>by cases h
 |p::l,h,q,hq=>by
  simp only[earR,Bool.and_eq_true,fR,Bool.not_eq_true']at h;obtain⟨⟨⟨⟨⟨h1,h2⟩,h3⟩,h4⟩,h5⟩,h6⟩:=h;rcases List.mem_cons.1 hq with rfl|hq
  ·exact⟨h1,h2,h3,(fun e=>by rw[aY.2 e]at h4;cases h4),keepB_ok h5⟩
  ·exact earR_ok h6 q hq

theorem entP_eq{e e':Ent}(h:entP e e'):e=e':=by
 unfold entP at h
 split at h
 ·split at h
  ·rename_i hy
   have:=aV hy
   injection this with e1 e2;subst e1;cases e2;subst h;rfl
  ·exact h.elim
 ·obtain⟨rfl,rfl⟩:=h;rfl
 ·obtain⟨rfl,rfl⟩:=h;rfl
 ·exact h.elim
theorem rowP_eq{p q:Row}(h:rowP p q):p=q:=by
 unfold rowP at h
 cases hb:(Nat.beq p.d q.d&&cW p.used&&cW q.used&&p.gb&&q.gb&&cW p.ch&&cW q.ch&&decide (p.rs=q.rs)&&isNone p.pd&&isNone q.pd)
 ·rw[hb]at h;exact h.elim
 rw[hb]at h
 simp only[Bool.and_eq_true,fR,fQ,decide_eq_true_eq,aY]at hb
 obtain⟨⟨⟨⟨⟨⟨⟨⟨⟨h1,h2⟩,h3⟩,h4⟩,h5⟩,h6⟩,h7⟩,h8⟩,h9⟩,h10⟩:=hb
 have he:=entP_eq h
 cases p;cases q
 simp only at h1 h2 h3 h4 h5 h6 h7 h8 h9 h10 he
 subst h1 h2 h3 h4 h5 h6 h7 h8 h9 h10 he
 rfl
theorem rowsP_eq:∀ {l m:List Row},rowsP l m->l=m
 | [],[],_=>rfl
 |a::l,b::m,h=>by rw[rowP_eq h.1,rowsP_eq h.2]
 | [],_::_,h=>h.elim
 |_::_,[],h=>h.elim

theorem ancR_ok{rows:List Row}{anc:List Nat}{draw:Bool}{k:Nat}:∀ {l:List Nat},ancR rows anc draw k l=true->∀s∈l,∀j r,nT rows 0 s=some (j,r)->draw=true->(anc.getD k 0).testBit j=true
 | [],_,s,h=>by cases h
 |p::l,h,s,hs=>by
  simp only[ancR,Bool.and_eq_true]at h;rcases List.mem_cons.1 hs with rfl|hs
  ·intro j r hj hd
   have:=h.1
   rw[hj,hd]at this
   simpa using this
  ·exact ancR_ok h.2 s hs
end

theorem rT{s:Nat}:∀(l:List Row) (n:Nat),nT l n s=none->bS l s=none
 | [],_,_=>rfl
 |p::l,n,hn=>by
  simp only[nT]at hn;cases hb:Nat.beq p.d s
  ·rw[hb]at hn;simp only[bS,hb,cond_false];exact rT l _ hn
  ·rw[hb]at hn;cases hn

section
variable {P:Program} {C:Ctx} {w0:World} {F0 H:aA} {env0:St} {ops:Array Oper} {rows:List Row} {Q:Exit->Act->World->Prop}

theorem ear_step(hC:aG P C)(ht:Tab false C env0 ops rows){anc:List Nat}{draw:Bool}{T:Nat->Bool}{o:Oper}{Ty:TypeId}{x z:Operand}(ho:ops[rows.length]? =some o)(hop:o.op= .store Ty x z)(hod:o.dst=none)(hog:o.guard=none)
  {e:Ear} (he:earS C Ty (bR (stR false rows env0) x) (bR (stR false rows env0) z)=some e) (hR:earR e.r e.τ rows=true) (hA:ancR rows anc draw rows.length (gB (stR false rows env0) [x,z])=true)
  (hanc:∀j,j<rows.length->(draw=true->(anc.getD rows.length 0).testBit j=true)->T j=true):
  ∀a w,mO P C w0 F0 H env0 rows T a w->wpOp P ops Q rows.length (mO P C w0 F0 H (v7 e env0) rows (cK T rows.length)) a w:=by
 intro a w ⟨F,S,hi,hund⟩
 have hrow:=earR_ok hR
 have hU:∀(T:Nat->Bool) t,dC (sel rows T 0) t=false:=by
  intro T t;cases hu:dC (sel rows T 0) t
  ·rfl
  ·obtain⟨q,q1,q2⟩:=jM.1 hu
   obtain⟨i,e1,_⟩:=iS _ 0 q1;rw[(hrow q (List.mem_of_getElem? e1)).2.1]at q2;cases q2
 have hU0:∀t,dC rows t=false:=by
  intro t;have:=hU (fun _=>true) t
  rw[pX rows 0 (fun _ _=>rfl)]at this;exact this
 have hst:∀(T:Nat->Bool) (env:St) t,stR true (sel rows T 0) env t=cR true (sel rows T 0) env t:=fun T env t=>iX (hU T t) (fun q _=>hU T q)
 have hlk:∀ {s:Nat} {r:Row},bS (sel rows T 0) s=some r->r∈rows/\r.d=s:=by
  intro s r h;obtain⟨h1,h2⟩:=eK h;obtain⟨i,e1,_⟩:=iS _ 0 h1;exact⟨List.mem_of_getElem? e1,h2⟩
 have hsame:∀s∈gB (stR false rows env0) [x,z],Same (sel rows T 0) rows s:=by
  intro s hs;refine⟨?_,by rw[hU,hU0]⟩
  cases hidx:nT rows 0 s with
  |none=>
   rw[rT _ _ hidx];cases hl:bS (sel rows T 0) s with
   |none=>rfl
   |some r=>
    exfalso
    obtain⟨h1,h2⟩:=hlk hl;have h3:=rT _ _ hidx;obtain⟨i,hi⟩:=List.mem_iff_getElem?.1 h1;have:=ht.ud.look (T:=fun _=>true) hi rfl
    rw[pX rows 0 (fun _ _=>rfl),h2,h3]at this;cases this
  |some jr=>
   obtain⟨j,r⟩:=jr;obtain⟨_,e1,e2⟩:=kJ hidx;simp only[Nat.sub_zero]at e1;have hjl:j<rows.length:=by
    rcases Nat.lt_or_ge j rows.length with h|h
    ·exact h
    ·rw[List.getElem?_eq_none h]at e1;cases e1
   have hT:T j=true:=hanc j hjl (fun hd=>ancR_ok hA s hs j r hidx hd)
   have:=ht.ud.look e1 hT
   rw[(eK e2).2]at this;rw[this,e2]
 have hview:∀y,y=x∨y=z->aU P F w (stR true (sel rows T 0) env0) (fun t=>a.tmps.getD t undef) S (a.eval y) (bR (stR false rows env0) y):=by
  intro y hy;refine tL hi ?_ ?_
  ·cases y with
   |tmp s=>
    intro r hr;exact(hrow r (eK hr).1).2.2.1
   |_=>trivial
  ·rintro s rfl
   have hm:Operand.tmp s∈[x,z]:=by
    rcases hy with h|h
    ·rw[h];exact List.mem_cons_self
    ·rw[h];exact List.mem_cons_of_mem _ List.mem_cons_self
   obtain⟨h1,h2⟩:=o8 (st:=stR false rows env0) hm;exact⟨hsame s h1,fun q hq=>hsame q (h2 q hq)⟩
 unfold wpOp
 rw[ho]
 simp only[]
 have hw:Region.wanted o (yielded ops a.tmps)=true:=by unfold Region.wanted;rw[hog]
 rw[hw]
 simp only[if_true]
 left
 refine ear_ok hC hi hop hod (hview x (.inl rfl)) (hview z (.inr rfl)) he (Q:=Q) ?_
 intro a' w' ⟨F',S',hinv⟩
 refine⟨F',S',?_,fun j q hq _ hg=> ?_⟩
 ·have hselT:sel rows (cK T rows.length) 0=sel rows T 0:=by
   have aux:∀(l:List Row) (n:Nat),n+l.length<=rows.length->sel l (cK T rows.length) n=sel l T n:=by
    intro l
    induction l with
    |nil=>intro n _;rfl
    |cons p l ih=>
     intro n hn;simp only[List.length_cons]at hn;have:cK T rows.length n=T n:=by simp[cK,cE (show n≠rows.length by omega)]
     simp only[sel,this];rw[ih (n+1) (by omega)]
   exact aux rows 0 (by omega)
  have hS:stR true (sel rows (cK T rows.length) 0) (v7 e env0)=v7 e (stR true (sel rows T 0) env0):=by
   rw[hselT];have hr0:bS (sel rows T 0) e.r=none:=by
    cases hl:bS (sel rows T 0) e.r with
    |none=>rfl
    |some r=>exact absurd (hlk hl).2 (hrow r (hlk hl).1).2.2.2.1
   have hEr:stR true (sel rows T 0) env0 e.r=env0 e.r:=by
    rw[hst];unfold cR;rw[hr0]
   funext t
   rw[hst];unfold v7;by_cases htr:t=e.r
   ·subst htr
    rw[bU,hEr];unfold cR;rw[hr0];simp only[bU]
   ·rw[bG _ _ htr]
    unfold keepS;rw[hst];unfold cR;cases hl:bS (sel rows T 0) t with
    |none=>simp only[bG _ _ htr]
    |some r=>
     obtain⟨_,_,h3,_,h5⟩:=hrow r (hlk hl).1;simp only[Row.ent,cond_true,h3,h5]
  rw[hS];exact hinv
 ·have:=(hrow q (List.mem_of_getElem? hq)).2.2.1
  rw[hg]at this;cases this

theorem regionX_ok(hC:aG P C){stp:St->Oper->Option (Prop×St)}(hstp:dM P C stp){draw:Bool}{st2:St}{c:Prop}(h:xX C stp draw env0 ops.toList=some (c,st2))(hc:c)
  {a:Act} {w:World} (hi:Inv P C.np w0 F0 H env0 a w) (hQ:∀a' w',Inv P C.np w0 F0 H st2 a' w'->Q .normal a' w'):mY P ops draw Q a w:=by
 unfold xX at h
 split at h
 ·rename_i c1 rows o tail hgen
  split at h
  ·rename_i Ty x z hop hod hog
   split at h
   ·rename_i e he
    generalize hgen1:fC false C (v7 e env0) ops.toList []=g at h
    obtain⟨c3,rows1,tail1⟩:=g;simp only[]at h;cases hB:(earR e.r e.τ rows&&ancR rows (dT ops.toList) draw rows.length (gB (stR false rows env0) [x,z])&&
      (!draw||(rP ops.toList 0&&gdB (dT ops.toList) ops.toList 0&&nK (dT ops.toList) rows rows 0&&sF (dT ops.toList) tail (rows.length+1))))
    ·rw[hB]at h;cases h
    rw[hB]at h;simp only[cond_true]at h;generalize htl:gZ stp (stF rows (v7 e env0)) tail=g at h;cases g with
    |none=>cases h
    |some q=>
    obtain⟨c2,st2'⟩:=q;simp only[andP,Option.some.injEq,Prod.mk.injEq]at h;obtain⟨rfl,rfl⟩:=h;obtain⟨⟨hc1,hc3,hrr⟩,hc2⟩:=hc;simp only[Bool.and_eq_true]at hB;obtain⟨⟨hER,hAR⟩,hB⟩:=hB;obtain⟨ht,htail⟩:=iM (ops:=ops) ops.toList [] hgen hc1 (by simp) (fun i r hr=>by simp at hr)
    obtain⟨ht1,_⟩:=iM (ops:=ops) ops.toList [] hgen1 hc3 (by simp) (fun i r hr=>by simp at hr)
    rw[rowsP_eq hrr]at ht1;have htd:o::tail=ops.toList.drop rows.length:=by
     apply List.ext_getElem?
     intro j;rw[htail j];simp
    have htd1:tail=ops.toList.drop (rows.length+1):=by
     have:=congrArg (List.drop 1) htd
     rw[List.drop_drop]at this
     simpa using this
    have hmlt:rows.length<ops.size:=by
     have:=congrArg List.length htd
     simp at this;omega
    have hom:ops[rows.length]? =some o:=by
     have:=htail 0
     simp at this;exact this.symm
    have hdB:draw=true->rP ops.toList 0=true/\gdB (dT ops.toList) ops.toList 0=true/\nK (dT ops.toList) rows rows 0=true/\sF (dT ops.toList) tail (rows.length+1)=true:=by
     intro hd;subst hd;simp only[Bool.not_true,Bool.false_or,Bool.and_eq_true]at hB;exact⟨hB.1.1.1,hB.1.1.2,hB.1.2,hB.2⟩
    have hlow:draw=true->∀i k,fA ops i k->k<i:=fun hd i k hw=>qD ops.toList 0 (by simp) (hdB hd).1 i k (Nat.zero_le i) hw
    have hanc:∀ {j k:Nat},((dT ops.toList).getD j 0).testBit k=true->fU ops j k:=by
     intro j k h;have:=mL h
     simpa using this
    have hnopd:∀(i:Nat) (r:Row) r0 p0,rows[i]? =some r->r.pd≠some (r0,p0):=by
     intro i r r0 p0 hr hpd;obtain⟨o,_,hf⟩:=ht.facts hr;rcases hf.op with⟨_,_,_,h⟩|⟨_,_,_,h,_⟩
     ·rw[h]at hpd;cases hpd
     ·cases h
    let J:(Nat->Bool)->Act->World->Prop:=fun T a w=>
     ((∀j,rows.length<=j->T j=false)/\mO P C w0 F0 H env0 rows T a w)∨
     ((T rows.length=true/\∀j,rows.length<j->T j=false)/\mO P C w0 F0 H (v7 e env0) rows T a w)∨
     ∃k st1 c1,rows.length+1<=k/\(∀j,j<ops.size->(T j=true↔j<k))/\Inv P C.np w0 F0 H st1 a w/\gZ stp st1 (ops.toList.drop k)=some (c1,st2')/\c1
    have htstep:∀ {T:Nat->Bool} {k:Nat} {st1:St} {c1:Prop} {a:Act} {w:World},k<ops.size->rows.length+1<=k->(∀j,j<ops.size->(T j=true↔j<k))->Inv P C.np w0 F0 H st1 a w->
      gZ stp st1 (ops.toList.drop k)=some (c1,st2')->c1->wpOp P ops Q k (J (cK T k)) a w:=by
     intro T k st1 c1 a w hk hmk hTk hinv hte hcc;have hdrop:ops.toList.drop k=ops[k]::ops.toList.drop (k+1):=by
      rw[List.drop_eq_getElem_cons (by simpa using hk)];simp
     rw[hdrop]at hte;obtain⟨hg,c3,st3,c4,h1,h2,h3,h4⟩:=tP hte hcc;unfold wpOp;rw[Array.getElem?_eq_getElem hk];simp only[];have hwant:Region.wanted ops[k] (yielded ops a.tmps)=true:=by unfold Region.wanted;rw[hg]
     rw[hwant];simp only[if_true];left;refine hstp hinv h1 h2 _ Q ?_;intro a' w' hinv';refine .inr (.inr ⟨k+1,st3,c4,by omega,?_,hinv',h3,h4⟩)
     intro j hj;unfold cK;rw[Bool.or_eq_true,aY,hTk j hj];omega
    refine iQ J hlow ?_ ?_ ?_
    ·intro T i hin hTi hdr hnd
     intro a w hJ;have hwait:∀k,rows.length<i->k<i->T k=true:=by
      intro k hmi hki;cases draw with
      |true=>
       obtain⟨hcl,hw⟩:=hdr rfl;have:=tQ (hdB rfl).2.2.2 (i-(rows.length+1)) (by rw[htd1];simp;omega) k (by omega);rw[show rows.length+1+(i-(rows.length+1))=i from by omega]at this
       exact bV hcl hw (hanc this)
      |false=>rw[hnd rfl k];exact dY.2 hki
     have hrowstep:∀env1,Tab false C env1 ops rows->i<rows.length->mO P C w0 F0 H env1 rows T a w->wpOp P ops Q i (mO P C w0 F0 H env1 rows (cK T i)) a w:=by
      intro env1 ht him hI;have hr:rows[i]? =some rows[i]:=List.getElem?_eq_getElem him;have ho:ops[i]? =some ops[i]:=Array.getElem?_eq_getElem hin;obtain⟨o',ho',hf⟩:=ht.facts hr;rw[ho]at ho';injection ho' with ho';subst ho';have hgd:∀g b,ops[i].guard=some (g,b)->T g=true:=by
       intro g b hgb;cases draw with
       |true=>
        obtain⟨hcl,hw⟩:=hdr rfl;have:=yR (hdB rfl).2.1 i ops[i] g b (by simp[hin]) hgb;rw[Nat.zero_add]at this;exact bV hcl hw (hanc this)
       |false=>
        rw[hnd rfl g];obtain⟨gs,hg,_⟩:=hf.guard;rw[hgb]at hg;simp only[mC]at hg;split at hg
        ·rename_i q hq
         rw[List.getElem?_take]at hq;split at hq
         ·rename_i hgi;exact dY.2 hgi
         ·cases hq
        ·cases hg
      have hag:∀s∈rows[i].rs,∀j q,rows[j]? =some q->q.d=s∨s∈q.used->T j=Nat.blt j i:=by
       intro s hs j q hq hd;cases draw with
       |true=>
        obtain⟨hcl,hw⟩:=hdr rfl;have h1:=p7 (hdB rfl).2.2.1 i _ hr;rw[Nat.zero_add]at h1;have h2:=oK h1 j q hq (oE hs hd);rw[Nat.zero_add]at h2;rcases h2 with h2|h2|h2
        ·subst h2;rw[hTi,lL]
        ·rw[bV hcl hw (hanc h2),dY.2 (kY (hlow rfl) (hanc h2))]
        ·have hlt:=kY (hlow rfl) (hanc h2)
         have e1:Nat.blt j i=false:=by
          cases hb:Nat.blt j i
          ·rfl
          ·have:=dY.1 hb;omega
         rw[e1];cases hTj:T j
         ·rfl
         ·have:=hcl.reach (hanc h2) hTj
          rw[hTi]at this;cases this
       |false=>exact hnd rfl j
      exact row_ok hC ht hr hTi ho hgd (fun r0 p0 h=>absurd h (hnopd i _ r0 p0 hr)) hag a w hI
     rcases hJ with⟨hpre,hI⟩|⟨⟨hm1,hpre⟩,hI⟩|⟨k,st1,c1,hmk,hTk,hinv,hte,hcc⟩
     ·by_cases him:i<rows.length
      ·refine wpOp_mono ?_ (hrowstep env0 ht him hI)
       intro a' w' hI';refine .inl ⟨?_,hI'⟩;intro j hj;simp only[cK,cE (show j≠i by omega),Bool.false_or]
       exact hpre j hj
      ·have him':i=rows.length:=by
        rcases Nat.lt_or_ge rows.length i with h|h
        ·have h1:=hwait rows.length h h
         rw[hpre rows.length (Nat.le_refl _)]at h1;cases h1
        ·omega
       subst him';refine wpOp_mono ?_ (ear_step hC ht hom hop hod hog he hER hAR (fun j hj hd=> ?_) a w hI)
       ·intro a' w' hI'
        refine .inr (.inl ⟨⟨by simp[cK],?_⟩,hI'⟩)
        intro j hj;simp only[cK,cE (show j≠rows.length by omega),Bool.false_or]
        exact hpre j (by omega)
       ·cases hdd:draw with
        |true=>
         obtain⟨hcl,hw⟩:=hdr hdd;exact bV hcl hw (hanc (hd hdd))
        |false=>rw[hnd hdd j];exact dY.2 hj
     ·by_cases him:i<rows.length
      ·refine wpOp_mono ?_ (hrowstep _ ht1 him hI)
       intro a' w' hI';refine .inr (.inl ⟨⟨?_,?_⟩,hI'⟩)
       ·simp[cK,hm1]
       ·intro j hj
        simp only[cK,cE (show j≠i by omega),Bool.false_or]
        exact hpre j hj
      ·have hne:i≠rows.length:=fun h=>by rw[h,hm1]at hTi;cases hTi
       have him':i=rows.length+1:=by
        rcases Nat.lt_or_ge (rows.length+1) i with h|h
        ·have h1:=hwait (rows.length+1) (by omega) h
         rw[hpre (rows.length+1) (by omega)]at h1;cases h1
        ·omega
       subst him';have hall:∀j,j<rows.length->T j=true:=fun j hj=>hwait j (by omega) (by omega)
       refine htstep hin (Nat.le_refl _) ?_ (hI.done ht1 hall) (by rw[<-htd1];exact htl) hc2
       intro j hj;constructor
       ·intro h
        rcases Nat.lt_or_ge rows.length j with h'|h'
        ·rw[hpre j h']at h;cases h
        ·omega
       ·intro h
        exact hwait j (by omega) h
     ·have hki:k<=i:=by
       rcases Nat.lt_or_ge i k with h|h
       ·have:=(hTk i hin).2 h
        rw[hTi]at this;cases this
       ·exact h
      have hik:i=k:=by
       rcases Nat.lt_or_ge k i with h|h
       ·have h1:=hwait k (by omega) h
        have:=(hTk k (by omega)).1 h1
        omega
       ·omega
      subst hik;exact htstep hin hmk hTk hinv hte hcc
    ·intro T a w hT hJ
     rcases hJ with⟨hpre,hI⟩|⟨⟨hm1,hpre⟩,hI⟩|⟨k,st1,c1,hmk,hTk,hinv,hte,hcc⟩
     ·have:=hT rows.length hmlt
      rw[hpre _ (Nat.le_refl _)]at this;cases this
     ·have hm:ops.size<=rows.length+1:=by
       rcases Nat.lt_or_ge (rows.length+1) ops.size with h|h
       ·have:=hT (rows.length+1) h
        rw[hpre _ (by omega)]at this;cases this
       ·exact h
      have hnil:tail=[]:=by rw[htd1];simp;omega
      rw[hnil]at htl;simp only[gZ,Option.some.injEq,Prod.mk.injEq]at htl;obtain⟨_,rfl⟩:=htl;exact hQ a w (hI.done ht1 (fun j hj=>hT j (by omega)))
     ·have hk:ops.size<=k:=by
       rcases Nat.lt_or_ge k ops.size with h|h
       ·have:=(hTk k h).1 (hT k h);omega
       ·exact h
      have hnil:ops.toList.drop k=[]:=by simp;omega
      rw[hnil]at hte;simp only[gZ,Option.some.injEq,Prod.mk.injEq]at hte;obtain⟨_,rfl⟩:=hte;exact hQ a w hinv
    ·intro w' hh hos htp hout
     obtain⟨F,S,hi⟩:=hi;refine .inl ⟨fun _ _=>rfl,F,S,?_,fun j q _ h=>by cases h⟩
     have hs:∀(l:List Row) (k:Nat),sel l (fun _=>false) k=[]:=by
      intro l
      induction l with
      |nil=>intro k;rfl
      |cons r l ih=>intro k;simp only[sel,cond_false];exact ih (k+1)
     rw[hs];have he:stR true [] env0=env0:=by
      funext t
      unfold stR cR;simp only[dC,cond_false,bS];cases (env0 t).root<;>rfl
     rw[he];exact hi.world hos htp hout (by rw[hh];exact Nat.le_refl _) (fun b _=>by rw[hh]) (fun k _ _=>by rw[hh])
   ·cases h
  ·cases h
 ·cases h

end

def pY(C:Ctx)(stp:St->Oper->Option (Prop×St))(draw:Bool)(st:St)(ops:List Oper):Option (Prop×St):=
 match x3 C stp draw st ops with
 |some r=>some r
 |none=>match xZ C draw st ops with
  |some r=>some r
  |none=>match xX C stp draw st ops with
   |some r=>some r
   |none=>xY C stp draw (dropAll st C.ded) ops
def s7(C:Ctx)(stp:St->Oper->Option (Prop×St))(draw:Bool)(st:St)(ops:List Oper):List Nat->Option (Prop×St)
 | []=>none
 |r::l=>match pY C stp draw (pG st r) ops with
  |some x=>some x
  |none=>s7 C stp draw st ops l
def s8(C:Ctx)(stp:St->Oper->Option (Prop×St))(draw:Bool)(st:St)(ops:List Oper):Option (Prop×St):=
 match pY C stp draw st ops with
 |some r=>some r
 |none=>match s7 C stp draw st ops C.fz1 with
  |some r=>some r
  |none=>pY C stp draw (kC st C.fzs) ops


section
variable {P:Program} {C:Ctx} {w0:World} {F0 H:aA} {env0:St} {ops:Array Oper} {rows:List Row} {Q:Exit->Act->World->Prop}
theorem pC(hC:aG P C){stp:St->Oper->Option (Prop×St)}(hstp:dM P C stp){draw:Bool}{st':St}{c:Prop}(h:pY C stp draw env0 ops.toList=some (c,st'))(hc:c)
  {a:Act} {w:World} (hi:Inv P C.np w0 F0 H env0 a w) (hQ:∀a' w',Inv P C.np w0 F0 H st' a' w'->Q .normal a' w'):mY P ops draw Q a w:=by
 unfold pY at h
 split at h
 ·rename_i r hr
  simp only[Option.some.injEq]at h;subst h;exact region_ok hC hstp hr hc hi hQ
 ·split at h
  ·rename_i r hr
   simp only[Option.some.injEq]at h;subst h;exact regionL_ok hC hr hc hi hQ
  ·split at h
   ·rename_i r hr
    simp only[Option.some.injEq]at h;subst h;exact regionX_ok hC hstp hr hc hi hQ
   ·obtain⟨F,S,hi⟩:=hi
    exact regionP_ok hC hstp h hc ⟨_,_,hi.dropAll' C.ded⟩ hQ
theorem tZ(hC:aG P C){stp:St->Oper->Option (Prop×St)}(hstp:dM P C stp){draw:Bool}{st':St}{c:Prop}:∀ {l:List Nat},s7 C stp draw env0 ops.toList l=some (c,st')->c->
  ∀ {a:Act} {w:World},Inv P C.np w0 F0 H env0 a w->(∀a' w',Inv P C.np w0 F0 H st' a' w'->Q .normal a' w')->mY P ops draw Q a w
 | [],h,_,_,_,_,_=>by cases h
 |r::l,h,hc,a,w,hi,hQ=>by
  unfold s7 at h;split at h
  ·rename_i x hx
   simp only[Option.some.injEq]at h;subst h;exact pC hC hstp hx hc (yU hi) hQ
  ·exact tZ hC hstp h hc hi hQ
theorem t7(hC:aG P C){stp:St->Oper->Option (Prop×St)}(hstp:dM P C stp){draw:Bool}{st':St}{c:Prop}(h:s8 C stp draw env0 ops.toList=some (c,st'))(hc:c)
  {a:Act} {w:World} (hi:Inv P C.np w0 F0 H env0 a w) (hQ:∀a' w',Inv P C.np w0 F0 H st' a' w'->Q .normal a' w'):mY P ops draw Q a w:=by
 unfold s8 at h
 split at h
 ·rename_i r hr
  simp only[Option.some.injEq]at h;subst h;exact pC hC hstp hr hc hi hQ
 ·split at h
  ·rename_i r hr
   simp only[Option.some.injEq]at h;subst h;exact tZ hC hstp hr hc hi hQ
  ·exact pC hC hstp h hc (iT hi) hQ
end
end Go.Lf
namespace Go.Lf

def aB:(τ:Ty)->τ.den->Prop
 | .int k,n=>inK k n
 | .slice e,xs=>List.length xs<=lim/\∀x,x∈(xs:List e.den)->aB e x
 | .prod a b,x=>aB a x.1/\aB b x.2
 | .arr n e,xs=>List.length xs=n/\∀x,x∈(xs:List e.den)->aB e x
 | .bool,_=>True
 | .unit,_=>True
 | .str,s=>List.length s<=lim
 | .abs _,_=>True

theorem Own.fact{F:aA}{w:World}:∀ {τ:Ty} {m:Md} {S:aA} {cs:List Value} {x:τ.den},Own F w τ m S cs x->aB τ x
 | .int _,_,_,_,_,h=>h.2
 | .bool,_,_,_,_,_=>trivial
 | .str,_,_,_,_,h=>h.2
 | .abs _,_,_,_,_,_=>trivial
 | .unit,_,_,_,_,_=>trivial
 | .prod a b,m,S,cs,x,h=>by
  obtain⟨c1,c2,S1,S2,_,_,_,_,h1,h2⟩:=h;exact⟨Own.fact h1,Own.fact h2⟩
 | .slice e,m,S,cs,xs,h=>by
  obtain⟨ao,cap,_,hc,hl,h⟩:=h;refine⟨hl,?_⟩;intro x hx;obtain⟨i,hi⟩:=List.mem_iff_getElem?.1 hx;cases m with
  |own me=>
   rcases h with⟨_,h⟩|⟨b,off,row,T,Si,_,_,_,_,_,_,_,he⟩
   ·have hl0:xs.length<=0:=by omega
    have:=List.length_eq_zero_iff.1 (Nat.le_zero.1 hl0)
    rw[this]at hx;cases hx
   ·exact Own.fact (he i x hi)
  |shr=>
   rcases h with h|⟨b,off,row,T,fr,_,_,_,_,he⟩
   ·rw[h]at hx;cases hx
   ·exact Own.fact (he i x hi)
  |pair _ _=>
   rcases h with h|⟨b,off,row,T,fr,_,_,_,_,he⟩
   ·rw[h]at hx;cases hx
   ·exact Own.fact (he i x hi)
 | .arr n e,m,S,cs,xs,h=>by
  obtain⟨hn,_,Si,_,_,he⟩:=h;refine⟨hn,?_⟩;intro x hx;obtain⟨i,hi⟩:=List.mem_iff_getElem?.1 hx;exact Own.fact (he i x hi)

theorem aT.fact{F S:aA}{w:World}{τ:Ty}{m:Md}{v:Value}{x:τ.den}(h:aT F w τ m S v x):aB τ x:=by
 obtain⟨cs,_,h⟩:=h;exact h.fact

def entFact:Ent->Prop
 | .shr τ x=>aB τ x
 | .own τ _ x=>aB τ x
 | .box τ _ x=>aB τ x
 | .saddr τ x=>aB τ x
 | .full e x=>aB (.slice e) x
 |_=>True

theorem aF.fact{P:Program}{F:aA}{w:World}{env:St}{V:Nat->Value}{S:Nat->aA}{t:Nat}:∀ {e:Ent},aF P F w env V S t e->entFact e
 | .shr _ _,h=>aT.fact h
 | .own _ _ _,⟨_,_,_,h⟩=>h.2.2.fact
 | .box _ _ _,⟨_,_,_,h⟩=>h.2.2.fact
 | .saddr _ _,⟨_,_,_,_,_,_,_,_,_,h⟩=>h.fact
 | .full _ _,⟨_,_,h⟩=>h.fact
 | .dead,_=>trivial
 | .sub _ _,_=>trivial
 | .addr _ _,_=>trivial
 | .pend _ _ _ _ _,_=>trivial
 | .rd _ _ _,_=>trivial
 | .raddr _ _ _,_=>trivial
 | .nilS,_=>trivial
 | .fn _ _ _,_=>trivial
 | .tup _ _ _,_=>trivial
 | .pp _,_=>trivial
 | .nb _ _,_=>trivial
 | .stup _ _,_=>trivial

def mF:List (Nat×Ent)->List Nat->Prop
 | [],_=>True
 |(k,e)::l,ks=>(bif eD ks k then True else entFact e)/\mF l (k::ks)

theorem iN{P:Program}{N:NP}{w0:World}{F0 H:aA}{env:St}{a:Act}{w:World}(hi:Inv P N w0 F0 H env a w){f:List (Nat×Ent)}(hf:∀t e,look f t=some e->env t=e):
  ∀(l:List (Nat×Ent)) (ks:List Nat),(∀t e,eD ks t=false->look l t=some e->look f t=some e)->mF l ks
 | [],_,_=>trivial
 |(k,e)::l,ks,h=>by
  obtain⟨F,S,hi⟩:=hi;refine⟨?_,iN ⟨F,S,hi⟩ hf l (k::ks) ?_⟩
  ·cases hm:eD ks k
   ·have h1:=h k e hm (by simp[look])
    have:=hi.ent k
    rw[hf k e h1]at this;exact this.fact
   ·trivial
  ·intro t e' ht hl
   simp only[eD]at ht;cases hk:Nat.beq k t
   ·rw[hk]at ht
    exact h t e' ht (by simp only[look,hk,cond_false];exact hl)
   ·rw[hk]at ht;cases ht

def gE:(ks:List AK)->aH ks->Prop
 | [],_=>True
 | .val τ::ks,x=>aB τ x.1/\gE ks x.2
 | .sptr τ::ks,x=>aB τ x.1/\gE ks x.2
 | .fn _ _::ks,x=>gE ks x.2

theorem d4{P:Program}{F:aA}{w:World}:∀ {ks:List AK} {vs:List Value} {x:aH ks},cD P F w ks vs x->gE ks x
 | [],_,_,_=>trivial
 | .val τ::ks,vs,x,⟨v,r,_,h1,h2⟩=>⟨aT.fact h1,d4 h2⟩
 | .sptr τ::ks,vs,x,⟨v,r,_,h1,h2⟩=>by
  obtain⟨_,_,_,_,_,_,_,_,_,h⟩:=h1;exact⟨h.fact,d4 h2⟩
 | .fn _ _::ks,vs,x,⟨v,r,_,_,h2⟩=>(d4 h2:gE ks x.2)
end Go.Lf
