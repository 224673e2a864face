/- Arguments as they come in: numbers, slices of numbers, numbers in structs and arrays, slices of such structs. -/
import Derived.Test.YtagdgckmikcllaaLff
import Derived.Laws.Sem
import Derived.ProofKit
import Derived.SizedLaws
import Derived.Deep.Slices
set_option linter.unusedVariables false
set_option linter.unusedSimpArgs false
namespace Go.Lf

def floB(o:Oper):Bool:=(match o.guard with
 |none=>true
 |some _=>false)&&(match o.op,o.dst with
 | .move (.tmp _),some _=>true
 | .extract (.tmp _) _,some _=>true
 |_,_=>false)
def addE(f:Nat)(o:Oper):Oper:={o with after:=o.after.push ⟨f,.data⟩}
def predB(o:Oper)(m:Nat):Bool:=o.after.toList.all fun e=>bif Region.binds .any e then m.testBit e.on else true
def addB(anc:List Nat)(o:Oper)(f j:Nat):Bool:=Nat.blt f j&& !(anc.getD j 0).testBit f&&predB o (anc.getD j 0)
def gP(anc:List Nat)(of:Oper)(f:Nat):List Oper->Nat->List Oper
 | [],_=>[]
 |o::l,j=>(bif addB anc of f j then addE f o else o)::gP anc of f l (j+1)
def tT(o:Oper):Bool:=match o.op with
 | .select _ _=>false
 |_=>true
def w6(ops:Array Oper)(anc:List Nat)(of:Oper)(f:Nat):List Oper->Nat->Bool
 | [],_=>true
 |o::l,j=>tT o&&(Nat.beq j f||(anc.getD j 0).testBit f||(anc.getD f 0).testBit j||of.apart ops o)&&w6 ops anc of f l (j+1)
def hoist1(ops:List Oper)(f:Nat):List Oper:=match ops[f]? with
 |some of=>bif floB of&&w6 ops.toArray (dT ops) of f ops 0 then gP (dT ops) of f ops 0 else ops
 |none=>ops
def hoistN:Nat->List Oper->List Oper
 |0,ops=>ops
 |n+1,ops=>hoist1 (hoistN n ops) n
def hoist(ops:List Oper):List Oper:=hoistN ops.length ops

section
variable {P:Program} {Q:Exit->Act->World->Prop}

theorem vA{anc:List Nat}{of:Oper}{f:Nat}:∀ {l:List Oper} {k:Nat} (j:Nat),(gP anc of f l k)[j]? =(l[j]?).map fun o=>bif addB anc of f (k+j)then addE f o else o
 | [],k,j=>by simp[gP]
 |o::l,k,0=>by simp[gP]
 |o::l,k,j+1=>by
  simp only[gP,List.getElem?_cons_succ];rw[vA (l:=l) (k:=k+1) j,show k+1+j=k+(j+1)by omega]

theorem freeB_ok{ops:Array Oper}{anc:List Nat}{of:Oper}{f:Nat}:∀ {l:List Oper} {k:Nat},w6 ops anc of f l k=true->∀j o,l[j]? =some o->
  tT o=true/\(k+j=f∨(anc.getD (k+j) 0).testBit f=true∨(anc.getD f 0).testBit (k+j)=true∨of.apart ops o=true)
 | [],_,_,j,o,h=>by simp at h
 |o::l,k,h,0,o',ho=>by
  simp only[List.getElem?_cons_zero,Option.some.injEq]at ho;subst ho;simp only[w6,Bool.and_eq_true,Bool.or_eq_true]at h;refine⟨h.1.1,?_⟩;rcases h.1.2 with((h1|h1)|h1)|h1
  ·exact .inl (Nat.eq_of_beq_eq_true h1)
  ·exact .inr (.inl h1)
  ·exact .inr (.inr (.inl h1))
  ·exact .inr (.inr (.inr h1))
 |o::l,k,h,j+1,o',ho=>by
  simp only[List.getElem?_cons_succ]at ho;simp only[w6,Bool.and_eq_true]at h;have:=freeB_ok h.2 j o' ho;rw[show k+1+j=k+(j+1)by omega]at this
  exact this

theorem xS{o:Oper}(h:tT o=true):∀cs b,o.op≠ .select cs b:=by
 intro cs b he
 rw[tT,he]at h;cases h

def i4(K:Act->World->Prop):Exit->Act->World->Prop:=fun e a w=>match e with
 | .normal=>K a w
 |_=>False

theorem flo_step{ops:Array Oper}{f:Nat}{of:Oper}(hf:ops[f]? =some of)(hb:floB of=true){K:Act->World->Prop}{K0:Act->World->Prop}{a:Act}{w:World}(h:wpOp P ops (i4 K0) f K a w):
  ∃v,Yields P ops of v a/\K (a.put of.dst v) w:=by
 unfold wpOp at h
 simp only[hf]at h
 unfold floB at hb
 simp only[Bool.and_eq_true]at hb
 obtain⟨hg,ho⟩:=hb
 have hgn:of.guard=none:=by
  cases hgg:of.guard with
  |none=>rfl
  |some x=>rw[hgg]at hg;cases hg
 have hw:Region.wanted of (yielded ops a.tmps)=true:=by simp[Region.wanted,hgn]
 rw[if_pos hw]at h
 have hlet:¬LetsOut (i4 K0):=by rintro⟨_,_,h⟩;exact h
 rcases h with h|⟨_,h⟩
 ·unfold Oper.wp at h
  split at ho
  ·rename_i x d hop hd
   have hv:∀w,(execOp a.eval of).run P w= .ok (.value (a.eval (.tmp x))) w:=by
    intro w;simp[execOp,hop]
   rw[hv,Oper.upon_value]at h;exact⟨_,.inl ⟨hw,hv⟩,h⟩
  ·rename_i x k d hop hd
   have hcase:(∃v,∀w,(execOp a.eval of).run P w= .ok (.value v) w)∨∀w,∃s w',(execOp a.eval of).run P w= .halt s w'/\∀v,s≠ .panic v:=by
    simp only[execOp,hop];cases hx:a.eval (.tmp x)<;>simp[Instr.extract,stuck];rename_i vs;cases hvs:vs[k]? <;>simp[stuck]
   rcases hcase with⟨v,hv⟩|hs
   ·rw[hv,Oper.upon_value]at h
    exact⟨_,.inl ⟨hw,hv⟩,h⟩
   ·obtain⟨s,w',h1,h2⟩:=hs w
    rw[h1]at h;cases s<;>first|exact h.elim|exact absurd rfl (h2 _)
  ·cases ho
 ·exact absurd h hlet

section core
variable {ops ops':Array Oper} {X:Nat->Bool} {f:Nat} {of:Oper} {K0:Act->World->Prop}

theorem nC(hmap:∀i,ops'[i]? =(ops[i]?).map fun o=>bif X i then addE f o else o)(t:Array Value):yielded ops' t=yielded ops t:=by
 funext j
 unfold yielded
 rw[hmap j]
 cases ops[j]? with
 |none=>rfl
 |some o=>simp only[Option.map_some,Option.bind_some];cases X j<;>rfl

theorem wpOp_add(hmap:∀i,ops'[i]? =(ops[i]?).map fun o=>bif X i then addE f o else o){i:Nat}{K:Act->World->Prop}{a:Act}{w:World}(h:wpOp P ops' Q i K a w):wpOp P ops Q i K a w:=by
 unfold wpOp at h⊢
 rw[nC hmap,hmap i]at h
 cases ho:ops[i]? with
 |none=>rw[ho]at h;exact h
 |some o=>
  rw[ho]at h;simp only[Option.map_some]at h⊢;cases hx:X i
  ·rw[hx]at h;exact h
  ·rw[hx]at h;exact h

theorem hoist_core(hmap:∀i,ops'[i]? =(ops[i]?).map fun o=>bif X i then addE f o else o)(hf:ops[f]? =some of)(hb:floB of=true)
  (hfree:∀j o,ops[j]? =some o->tT o=true/\(j=f∨fU ops j f∨fU ops f j∨of.apart ops o=true)) (hX:∀j,X j=true->j≠f/\∀k,fA ops f k->fU ops j k):
  ∀n,(∀(listed:Array Bool) (a:Act) (w:World),listed.size=ops.size->jH ops (fun j=>listed.getD j false)->(listed.getD f false=true∨¬∀k,fA ops f k->listed.getD k false=true)->
    wpAny P .any ops' (i4 K0) n listed a w->wpAny P .any ops (i4 K0) n listed a w)/\
   ∀(listed:Array Bool) (a:Act) (w:World) (v:Value),listed.size=ops.size->jH ops (fun j=>listed.getD j false)->listed.getD f false=false->(∀k,fA ops f k->listed.getD k false=true)->Yields P ops of v a->
    wpAny P .any ops' (i4 K0) n (listed.setIfInBounds f true) (a.put of.dst v) w->wpAny P .any ops (i4 K0) (n+1) listed a w:=by
 have hXf:X f=false:=by
  cases hx:X f
  ·rfl
  ·exact absurd rfl (hX f hx).1
 have hf':ops'[f]? =some of:=by rw[hmap,hf,hXf];rfl
 have hflt:f<ops.size:=by
  rcases Nat.lt_or_ge f ops.size with h|h
  ·exact h
  ·rw[Array.getElem?_eq_none h]at hf;cases hf
 have hYs:∀ {v:Value} {a:Act},Yields P ops' of v a->Yields P ops of v a:=by
  intro v a h;unfold Yields at h⊢;rw[nC hmap]at h;exact h
 have hpred:∀ {listed:Array Bool} {i:Nat},i∈Region.ready .any ops listed->∀k,fA ops i k->listed.getD k false=true:=by
  rintro listed i hi k ⟨o,e,g1,g2,g3,rfl⟩
  obtain⟨_,o',ho,h2⟩:=mem_ready.1 hi;rw[g1]at ho;injection ho with ho;subst ho;exact h2 e g2 g3
 have hmk:∀ {listed:Array Bool} {i:Nat},i∈Region.ready .any ops listed->(X i=true->listed.getD f false=true)->i∈Region.ready .any ops' listed:=by
  intro listed i hi hx;obtain⟨h1,o,ho,h2⟩:=mem_ready.1 hi;refine mem_ready.2 ⟨h1,_,by rw[hmap,ho];rfl,?_⟩
  intro e he hbd;cases hxi:X i
  ·rw[hxi]at he;exact h2 e he hbd
  ·rw[hxi]at he
   simp only[cond_true,addE,Array.mem_push]at he;rcases he with he|rfl
   ·exact h2 e he hbd
   ·exact hx hxi
 have hsize:∀ {listed:Array Bool} (i:Nat),listed.size=ops.size->(listed.setIfInBounds i true).size=ops.size:=by
  intro listed i h;simpa using h
 have hclose:∀ {listed:Array Bool} {i:Nat},listed.size=ops.size->jH ops (fun j=>listed.getD j false)->i∈Region.ready .any ops listed->jH ops (fun j=>(listed.setIfInBounds i true).getD j false):=by
  intro listed i hs hc hi j k hj hw;by_cases hji:i=j
  ·subst hji;exact getD_set_true (hpred hi k hw)
  ·simp only at hj
   rw[getD_set_ne false hji]at hj;exact getD_set_true (hc j k hj hw)
 intro n
 induction n using Nat.strongRecOn with
 |_ n ih=>
  have hA:∀(listed:Array Bool) (a:Act) (w:World),listed.size=ops.size->jH ops (fun j=>listed.getD j false)->(listed.getD f false=true∨¬∀k,fA ops f k->listed.getD k false=true)->
    wpAny P .any ops' (i4 K0) n listed a w->wpAny P .any ops (i4 K0) n listed a w:=by
   intro listed a w hs hc hnp h;have hR:∀i,i∈Region.ready .any ops listed->i∈Region.ready .any ops' listed:=by
    intro i hi;refine hmk hi fun hx=> ?_
    rcases hnp with h|h
    ·exact h
    ·exact absurd (fun k hk=>bV hc (hpred hi) ((hX i hx).2 k hk)) h
   have hnil:Region.ready .any ops' listed=[]->Region.ready .any ops listed=[]:=by
    intro h0;refine List.eq_nil_iff_forall_not_mem.2 fun i hi=> ?_
    have:=hR i hi
    rw[h0]at this;cases this
   cases n with
   |zero=>exact⟨hnil h.1,h.2⟩
   |succ n=>
    have hnil2:Region.ready .any ops listed=[]->Region.ready .any ops' listed=[]:=by
     intro h0;refine List.eq_nil_iff_forall_not_mem.2 fun i hi=> ?_
     have hi':i∈Region.ready .any ops listed:=by
      obtain⟨h1,o,ho,h2⟩:=mem_ready.1 hi;rw[hmap]at ho;cases hoi:ops[i]? with
      |none=>rw[hoi]at ho;cases ho
      |some o'=>
       rw[hoi]at ho;simp only[Option.map_some,Option.some.injEq]at ho;refine mem_ready.2 ⟨h1,o',hoi,fun e he hbd=>h2 e ?_ hbd⟩
       rw[<-ho];cases X i
       ·exact he
       ·simp only[cond_true,addE,Array.mem_push];exact .inl he
     rw[h0]at hi';cases hi'
    refine⟨fun h0=>h.1 (hnil2 h0),fun i hi=> ?_⟩
    refine wpOp_mono ?_ (wpOp_add hmap (h.2 i (hR i hi)))
    intro a' w' h';have hs1:=hsize (listed:=listed) i hs;have hc1:=hclose hs hc hi;by_cases hp:(listed.setIfInBounds i true).getD f false=true∨¬∀k,fA ops f k->(listed.setIfInBounds i true).getD k false=true
    ·exact(ih n (by omega)).1 _ _ _ hs1 hc1 hp h'
    ·have hp1:(listed.setIfInBounds i true).getD f false=false:=by
      cases hh:(listed.setIfInBounds i true).getD f false
      ·rfl
      ·exact absurd (.inl hh) hp
     have hp2:∀k,fA ops f k->(listed.setIfInBounds i true).getD k false=true:=Classical.not_not.1 fun hh=>hp (.inr hh)
     have hrf:f∈Region.ready .any ops' (listed.setIfInBounds i true):=by
      refine mem_ready.2 ⟨?_,of,hf',fun e he hbd=>hp2 _ ⟨of,e,hf,he,hbd,rfl⟩⟩
      have hl:f<(listed.setIfInBounds i true).size:=by rw[hs1];exact hflt
      simp only[Array.getD_eq_getD_getElem?,Array.getElem?_eq_getElem hl,Option.getD_some]at hp1⊢;exact hp1
     cases n with
     |zero=>rw[h'.1]at hrf;cases hrf
     |succ m=>
      obtain⟨v,hy,h2⟩:=flo_step hf' hb (h'.2 f hrf);exact(ih m (by omega)).2 _ _ _ v hs1 hc1 hp1 hp2 (hYs hy) h2
  refine⟨hA,?_⟩
  intro listed a w v hs hc hfl hfp hy h;have hrf:f∈Region.ready .any ops listed:=by
   refine mem_ready.2 ⟨?_,of,hf,fun e he hbd=>hfp _ ⟨of,e,hf,he,hbd,rfl⟩⟩
   have hl:f<listed.size:=by rw[hs];exact hflt
   simp only[Array.getD_eq_getD_getElem?,Array.getElem?_eq_getElem hl,Option.getD_some]at hfl⊢;exact hfl
  refine⟨fun h0=>(by rw[h0]at hrf;cases hrf),fun i hi=> ?_⟩
  have hsf:(listed.setIfInBounds f true).getD f false=true:=by
   have hl:f<listed.size:=by rw[hs];exact hflt
   simp[hl]
  by_cases hif:i=f
  ·subst hif
   exact Yields.wpOp hf hy (hA _ _ _ (hsize _ hs) (hclose hs hc hrf) (.inl hsf) h)
  ·have hri:i∈Region.ready .any ops' (listed.setIfInBounds f true):=hmk (ready_mono hi hif) fun _=>hsf
   cases n with
   |zero=>rw[h.1]at hri;cases hri
   |succ m=>
    obtain⟨hl,oi,ho,_⟩:=mem_ready.1 hi;obtain⟨g1,g2⟩:=hfree i oi ho;have hap:of.apart ops oi=true:=by
     rcases g2 with g2|g2|g2|g2
     ·exact absurd g2 hif
     ·have:=bV hc (hpred hi) g2
      rw[hfl]at this;cases this
     ·have h1:=bV hc hfp g2
      have hlt:i<listed.size:=by
       rw[hs];rcases Nat.lt_or_ge i ops.size with h|h
       ·exact h
       ·rw[Array.getElem?_eq_none h]at ho;cases ho
      simp only[Array.getD_eq_getD_getElem?,Array.getElem?_eq_getElem hlt,Option.getD_some]at hl h1;rw[hl]at h1;cases h1
     ·exact g2
    have hsf0:=xS (hfree f of hf).1
    refine wpOp_mono ?_ (wpOp_put ho hap hsf0 (xS g1) (fun c a w h=>h) hy (wpOp_add hmap (h.2 i hri)))
    rintro a' w' ⟨hy',h'⟩
    have hcomm:(listed.setIfInBounds f true).setIfInBounds i true=(listed.setIfInBounds i true).setIfInBounds f true:=Array.setIfInBounds_comm _ _ (fun e=>hif e.symm)
    rw[hcomm]at h';refine(ih m (by omega)).2 _ _ _ v (hsize _ hs) (hclose hs hc hi) ?_ (fun k hk=>getD_set_true (hfp k hk)) hy' h'
    rw[getD_set_ne false hif];exact hfl
end core

theorem hoist1_ok{ops:List Oper}{f:Nat}{K0:Act->World->Prop}{a:Act}{w:World}(h:mY P (hoist1 ops f).toArray true (i4 K0) a w):mY P ops.toArray true (i4 K0) a w:=by
 unfold hoist1 at h
 split at h
 ·rename_i of hf
  cases hb:(floB of&&w6 ops.toArray (dT ops) of f ops 0)
  ·rw[hb]at h;exact h
  rw[hb]at h;simp only[cond_true]at h;simp only[Bool.and_eq_true]at hb;have hlen:(gP (dT ops) of f ops 0).toArray.size=ops.toArray.size:=by
   have:∀(l:List Oper) k,(gP (dT ops) of f l k).length=l.length:=by
    intro l;induction l with
    |nil=>intro k;rfl
    |cons o l ih=>intro k;simp[gP,ih]
   simpa using this ops 0
  have hmap:∀i,(gP (dT ops) of f ops 0).toArray[i]? =(ops.toArray[i]?).map fun o=>bif addB (dT ops) of f i then addE f o else o:=by
   intro i;have:=vA (anc:=dT ops) (of:=of) (f:=f) (l:=ops) (k:=0) i
   simpa using this
  have hf':ops.toArray[f]? =some of:=by simpa using hf
  have hfree:∀j o,ops.toArray[j]? =some o->tT o=true/\(j=f∨fU ops.toArray j f∨fU ops.toArray f j∨of.apart ops.toArray o=true):=by
   intro j o ho;obtain⟨g1,g2⟩:=freeB_ok hb.2 j o (by simpa using ho);rw[Nat.zero_add]at g2;exact⟨g1,g2.imp id (Or.imp mL (Or.imp mL id))⟩
  have hX:∀j,addB (dT ops) of f j=true->j≠f/\∀k,fA ops.toArray f k->fU ops.toArray j k:=by
   intro j hj;simp only[addB,Bool.and_eq_true]at hj;refine⟨fun e=>by rw[e,lL]at hj;simp at hj,?_⟩
   rintro k ⟨o,e,q1,q2,q3,rfl⟩
   rw[hf']at q1;injection q1 with q1;subst q1;have:=List.all_eq_true.1 hj.2 e (by simpa using q2);rw[q3]at this;exact mL this
  have hcore:=fun n=>hoist_core (P:=P) (K0:=K0) hmap hf' hb.1 hfree hX n
  ·show wpAny P .any ops.toArray (i4 K0) ops.toArray.size (Array.replicate ops.toArray.size false) a _
   have h:wpAny P .any (gP (dT ops) of f ops 0).toArray (i4 K0) (gP (dT ops) of f ops 0).toArray.size (Array.replicate (gP (dT ops) of f ops 0).toArray.size false) a {w with drawn:=w.drawn+1}:=h
   rw[hlen]at h;have hrep:∀j,(Array.replicate ops.toArray.size false).getD j false=false:=by
    intro j;simp[Array.getD_eq_getD_getElem?,Array.getElem?_replicate];split<;>rfl
   have hcl:jH ops.toArray (fun j=>(Array.replicate ops.toArray.size false).getD j false):=by
    intro i k hi;simp only[hrep]at hi;cases hi
   by_cases hp:∀k,fA ops.toArray f k->(Array.replicate ops.toArray.size false).getD k false=true
   ·
    have hXf:addB (dT ops) of f f=false:=by simp[addB,lL]
    have hrf:f∈Region.ready .any (gP (dT ops) of f ops 0).toArray (Array.replicate ops.toArray.size false):=by
     have hflt:f<ops.toArray.size:=by
      rcases Nat.lt_or_ge f ops.toArray.size with h|h
      ·exact h
      ·rw[Array.getElem?_eq_none h]at hf';cases hf'
     refine mem_ready.2 ⟨?_,of,by rw[hmap,hf',hXf];rfl,fun e he hbd=>hp _ ⟨of,e,hf',he,hbd,rfl⟩⟩
     simp[Array.getD_eq_getD_getElem?,Array.getElem?_replicate]
     rw[if_pos (by simpa using hflt)];rfl
    generalize hn:ops.toArray.size=n at *
    cases n with
    |zero=>
     rw[h.1]at hrf;cases hrf
    |succ m=>
     have hXf':(gP (dT ops) of f ops 0).toArray[f]? =some of:=by rw[hmap,hf',hXf];rfl
     obtain⟨v,hy,h2⟩:=flo_step hXf' hb.1 (h.2 f hrf);have hy':Yields P ops.toArray of v a:=by
      unfold Yields at hy⊢;rw[nC hmap]at hy;exact hy
     exact(hcore m).2 _ _ _ v (by simp) hcl (hrep f) hp hy' h2
   ·exact(hcore _).1 _ _ _ (by simp) hcl (.inr hp) h
 ·exact h

theorem wZ{ops:List Oper}{K0:Act->World->Prop}{a:Act}{w:World}:∀n,mY P (hoistN n ops).toArray true (i4 K0) a w->mY P ops.toArray true (i4 K0) a w
 |0,h=>h
 |n+1,h=>wZ n (hoist1_ok h)
theorem hoist_ok{ops:List Oper}{K0:Act->World->Prop}{a:Act}{w:World}(h:mY P (hoist ops).toArray true (i4 K0) a w):mY P ops.toArray true (i4 K0) a w:=wZ _ h
end
end Go.Lf
namespace Go.Lf

def iB:List Oper->Nat->List (Nat×Oper)
 | [],_=>[]
 |o::l,i=>(i,o)::iB l (i+1)
def dstB(o:Oper):Bool:=match o.dst with
 |some _=>true
 |none=>false
section
variable {P:Program} {C:Ctx} {w0:World} {F0 H:aA} {env0:St} {ops:Array Oper} {Q:Exit->Act->World->Prop}

end
end Go.Lf
namespace Go.Lf

def flB(o:Oper):Bool:=isNone o.guard&&dstB o&&(match o.op with
 | .move _=>true
 | .load _ _=>true
 | .nilCheck _=>true
 | .binOp _ _ _ _ _=>true
 | .unOp _ _ _=>true
 | .convert _ _ _=>true
 | .fieldAddr _ _ _=>true
 | .indexAddr _ _ _=>true
 | .extract _ _=>true
 |_=>false)
def flR(C:Ctx)(o:Oper)(d:Nat)(f:Operand->aP):Res:=
 match o.op with
 | .move x=>kH (f x)
 | .load T x=>bif eD C.mvs d then none else loadE C T (f x)
 | .nilCheck x=>nilE (f x)
 | .binOp op T x y _=>binE C d op T (f x) (f y)
 | .unOp op _ x=>unE C d op (f x)
 | .convert s t x=>convE C s t (f x)
 | .fieldAddr T x k=>tD C T (f x) k
 | .indexAddr T x y=>yN C T (f x) (f y)
 | .extract x k=>extE (f x) k
 |_=>none
def flE(C:Ctx)(st:St)(o:Oper):Option (Prop×Nat×Ent):=
 match o.dst with
 |none=>none
 |some d=>bif wrB C d then(match flR C o d (bR st)with
  |some (c,e)=>bif pB e d then none else some (c,d,e)
  |none=>none)else none

def w7(C:Ctx):List (Nat×Oper)->St->Option (Prop×St)
 | [],st=>some (True,st)
 |(_,o)::l,st=>match flE C st o with
  |some (c,d,e)=>match w7 C l (put st d e)with
   |some (c',st')=>some (c/\c',st')
   |none=>none
  |none=>none
def eqEnt:Ent->Ent->Prop
 | .shr τ x,.shr σ y=>match bY (τ:=σ) (σ:=τ) y with
  |some z=>x=z
  |none=>False
 | .saddr τ x,.saddr σ y=>match bY (τ:=σ) (σ:=τ) y with
  |some z=>x=z
  |none=>False
 | .addr r p,.addr r' p'=>r=r'/\p=p'
 | .raddr r τ x,.raddr r' σ y=>match bY (τ:=σ) (σ:=τ) y with
  |some z=>r=r'/\x=z
  |none=>False
 | .rd r τ x,.rd r' σ y=>match bY (τ:=σ) (σ:=τ) y with
  |some z=>r=r'/\x=z
  |none=>False
 | .sub r p,.sub r' p'=>r=r'/\p=p'
 |_,_=>False
theorem eqEnt_ok{e f:Ent}(h:eqEnt e f):e=f:=by
 unfold eqEnt at h
 split at h
 ·split at h
  ·rename_i z hz
   have:=aV hz
   injection this with e1 e2;subst e1;cases e2;rw[h]
  ·cases h
 ·split at h
  ·rename_i z hz
   have:=aV hz
   injection this with e1 e2;subst e1;cases e2;rw[h]
  ·cases h
 ·rw[h.1,h.2]
 ·split at h
  ·rename_i z hz
   have:=aV hz
   injection this with e1 e2;subst e1;cases e2;rw[h.1,h.2]
  ·cases h
 ·split at h
  ·rename_i z hz
   have:=aV hz
   injection this with e1 e2;subst e1;cases e2;rw[h.1,h.2]
  ·cases h
 ·rw[h.1,h.2]
 ·cases h
def chkZ(C:Ctx)(st:St):List (Nat×Oper)->Option Prop
 | []=>some True
 |(_,o)::l=>match flE C st o with
  |some (c,d,e)=>match chkZ C st l with
   |some c'=>some ((c/\eqEnt e (st d))/\c')
   |none=>none
  |none=>none
def p6(anc:List Nat)(f:Nat):List (Nat×Oper)->Bool
 | []=>true
 |(j,_)::l=> !(anc.getD f 0).testBit j&&p6 anc f l
def x5(anc:List Nat)(f:Nat):List Nat->Bool
 | []=>true
 |j::l=> !(anc.getD j 0).testBit f&&x5 anc f l
def jX(p:Nat->Bool):List (Nat×Oper)->List (Nat×Oper)
 | []=>[]
 |(f,o)::l=>bif p f then(f,o)::jX p l else jX p l

def outsZ:List (Nat×Oper)->List (Nat×Oper)->List ((Nat×Oper)×List (Nat×Oper))
 |_,[]=>[]
 |pre,y::l=>(y,pre++l)::outsZ (pre++[y]) l
def allZ(f:(Nat×Oper)×List (Nat×Oper)->Prop):List ((Nat×Oper)×List (Nat×Oper))->Prop
 | []=>True
 |x::l=>f x/\allZ f l
def goZ(C:Ctx)(stp:St->Oper->Option (Prop×St))(anc:List Nat)(Qn:St->Prop):Nat->List (Nat×Oper)->List Nat->List (Nat×Oper)->List (Nat×Oper)->St->Prop
 |_,[],dn,fr,fd,st=>match fr,chkZ C st (jX (fun f=>x5 anc f dn) fd)with
  | [],some c=>c/\Qn st
  |_,_=>False
 |0,_::_,_,_,_,_=>False
 |n+1,x::l,dn,fr,fd,st=>match chkZ C st (jX (fun f=>x5 anc f dn) fd)with
  |some c=>c/\allZ (fun y=>bif p6 anc y.1.1 y.2 then(match stp st y.1.2 with
    |some (c1,st1)=>match w7 C (jX (fun f=>p6 anc f y.2) fr) st1 with
     |some (c2,st2)=>c1/\c2/\goZ C stp anc Qn n y.2 (y.1.1::dn) (jX (fun f=> !p6 anc f y.2) fr) (fd++jX (fun f=>p6 anc f y.2) fr) st2
     |none=>False
    |none=>False)else True) (outsZ [] (x::l))
  |none=>False

def tmpIs(d:Nat):Operand->Bool
 | .tmp t=>Nat.beq t d
 |_=>false
def rdsB(o:Oper)(d:Nat):Bool:=o.op.operands.toList.any (tmpIs d)
def dstIs(o:Oper)(d:Nat):Bool:=match o.dst with
 |some t=>Nat.beq t d
 |none=>false
def apZ(anc:List Nat)(fls:List (Nat×Oper)):List (Nat×Oper)->Bool
 | []=>true
 |(i,o)::l=>(fls.all fun x=>match x.2.dst with
  |some d=>(!rdsB o d||(anc.getD i 0).testBit x.1)&&(flB o|| !dstIs o d)
  |none=>true)&&apZ anc fls l
def selZ:List Oper->Bool
 | []=>true
 |o::l=>tT o&&isNone o.guard&&selZ l
def chZ:List (Nat×Oper)->List (Nat×Oper)
 | []=>[]
 |(i,o)::l=>bif flB o then chZ l else(i,o)::chZ l
def flZ:List (Nat×Oper)->List (Nat×Oper)
 | []=>[]
 |(i,o)::l=>bif flB o then(i,o)::flZ l else flZ l

def xW(C:Ctx)(stp:St->Oper->Option (Prop×St))(st:St)(ops:List Oper)(Qn:St->Prop):Prop:=
 bif rP ops 0&&selZ ops&&apZ (dT ops) (flZ (iB ops 0)) (iB ops 0)then
  (match w7 C (jX (fun f=>p6 (dT ops) f (chZ (iB ops 0))) (flZ (iB ops 0))) st with
  |some (c,st1)=>c/\goZ C stp (dT ops) Qn (List.length (chZ (iB ops 0))) (chZ (iB ops 0)) [] (jX (fun f=> !p6 (dT ops) f (chZ (iB ops 0))) (flZ (iB ops 0))) (jX (fun f=>p6 (dT ops) f (chZ (iB ops 0))) (flZ (iB ops 0))) st1
  |none=>False)else False

section
variable {P:Program} {C:Ctx} {N:NP} {w0:World} {F0 H:aA} {env:St} {a a':Act} {w:World} {F:aA} {S:Nat->aA} {d:Nat}

theorem flR_ok(hC:aG P C)(hi:aJ P C.np w0 F0 H env a w F S){o:Oper}{c:Prop}{e:Ent}(h:flR C o d (bR env)=some (c,e))(hc:c):c8 P F w env (fun t=>a.tmps.getD t undef) S d (execOp a.eval o) e:=by
 unfold flR at h
 split at h
 ·rename_i x hop
  obtain⟨g1,g2⟩:=qA (d:=d) hi (aX hi x) h;exact⟨_,by simp[execOp,hop],g1,g2⟩
 ·rename_i T x hop
  cases hmv:eD C.mvs d
  ·rw[hmv]at h;exact loadE_ok hC hi hop (aX hi x) h hc
  ·rw[hmv]at h;cases h
 ·rename_i x hop;exact nilE_ok hi hop (aX hi x) h hc
 ·rename_i hop;exact binE_ok hC hi hop (aX hi _) (aX hi _) h hc
 ·rename_i hop;exact unE_ok hi hop (aX hi _) h hc
 ·rename_i hop;exact convE_ok hC hi hop (aX hi _) h hc
 ·rename_i hop;exact vD hC hi hop (aX hi _) h hc
 ·rename_i hop;exact wY hC hi hop (aX hi _) (aX hi _) h hc
 ·rename_i hop;exact extE_ok hi hop (aX hi _) h hc
 ·cases h

theorem flE_ok(hC:aG P C)(hi:aJ P C.np w0 F0 H env a w F S){o:Oper}{c:Prop}{e:Ent}(h:flE C env o=some (c,d,e))(hc:c):
  o.dst=some d/\e.isOwner=false/\∃v S2,(execOp a.eval o).run P w= .ok (.value v) w/\aJ P C.np w0 F0 H (put env d e) (a.put (some d) v) w F S2:=by
 unfold flE at h
 split at h
 ·cases h
 ·rename_i d' hod
  cases hw:wrB C d'
  ·rw[hw]at h;cases h
  rw[hw]at h;simp only[cond_true]at h;split at h
  ·rename_i c' e' hr
   cases hk:pB e' d'
   ·rw[hk]at h
    simp only[cond_false,Option.some.injEq,Prod.mk.injEq]at h;obtain⟨rfl,rfl,rfl⟩:=h;obtain⟨v,h1,h2,h3⟩:=flR_ok (d:=d') hC hi hr hc;exact⟨hod,h2,v,_,h1,hi.putSimple (eA hw) h2 (oJ hk) (h3 (oJ hk))⟩
   ·rw[hk]at h;cases h
  ·cases h

theorem putE_self{st:St}{e:Ent}(h:st d=e)(he:e.isOwner=false):put st d e=st:=by
 unfold put
 rw[h,he]
 simp only[cond_false]
 funext t
 by_cases ht:t=d
 ·subst ht;rw[bU,h]
 ·rw[bG _ _ ht]

structure Agr(D:Nat->Prop)(a a':Act):Prop where
 defers:a'.defers=a.defers
 size:a'.tmps.size=a.tmps.size
 get:∀t,¬D t->a'.tmps[t]? =a.tmps[t]?
theorem Agr.refl(D:Nat->Prop)(a:Act):Agr D a a:=⟨rfl,rfl,fun _ _=>rfl⟩
theorem Agr.eq{D:Nat->Prop}(h:Agr D a a')(hD:∀t,¬D t):a'=a:=by
 obtain⟨h1,h2,h3⟩:=h
 cases a;cases a'
 simp only at h1 h2 h3
 subst h1
 congr 1
 exact Array.ext_getElem? fun t=>h3 t (hD t)
theorem p8(a:Act)(d:Nat)(v:Value)(t:Nat):(a.put (some d) v).tmps[t]? =if d=t then(if d<a.tmps.size then some v else none)else a.tmps[t]? :=by
 show(a.tmps.setIfInBounds d v)[t]? =_
 rw[Array.getElem?_setIfInBounds]
theorem Agr.put{D:Nat->Prop}(h:Agr D a a')(o:Option Tmp)(v:Value):Agr D (a.put o v) (a'.put o v):=by
 cases o with
 |none=>exact h
 |some d=>
  refine⟨h.defers,by show(a'.tmps.setIfInBounds d v).size=(a.tmps.setIfInBounds d v).size;simp[h.size],fun t ht=> ?_⟩
  rw[p8,p8,h.size];split
  ·rfl
  ·exact h.get t ht
theorem Agr.defer{D:Nat->Prop}(h:Agr D a a')(x:Deferred):Agr D {a with defers:=x::a.defers} {a' with defers:=x::a'.defers}:=
 ⟨by simp[h.defers],h.size,h.get⟩
theorem Agr.mono{D D':Nat->Prop}(h:Agr D a a')(hD:∀t,D t->D' t):Agr D' a a':=⟨h.defers,h.size,fun t ht=>h.get t fun hd=>ht (hD t hd)⟩
theorem Agr.eval{D:Nat->Prop}(h:Agr D a a'){z:Operand}(hz:∀t,z= .tmp t->¬D t):a'.eval z=a.eval z:=by
 cases z with
 |tmp t=>have:=h.get t (hz t rfl);simp only[Act.eval,Array.getD_eq_getD_getElem?,this]
 |_=>rfl
theorem Agr.exec{D:Nat->Prop}(h:Agr D a a'){o:Oper}(hs:tT o=true)(ho:∀t,Operand.tmp t∈o.op.operands->¬D t):execOp a'.eval o=execOp a.eval o:=
 execOp_congr o (xS hs) fun z hz=>h.eval fun t ht=>ho t (ht▸hz)

theorem wp_agr{D:Nat->Prop}(h:Agr D a a'){o:Oper}(hs:tT o=true)(ho:∀t,Operand.tmp t∈o.op.operands->¬D t){K K':Act->World->Prop}{Q:Exit->Act->World->Prop}
  (hw:o.wp P a' w K' (fun _ _ _=>False)) (hK:∀a1 a1' w1,Agr D a1 a1'->K' a1' w1->K a1 w1):o.wp P a w K Q:=by
 unfold Oper.wp at hw⊢
 rw[h.exec hs ho]at hw
 have hlet:¬LetsOut (fun(_:Exit) (_:Act) (_:World)=>False):=by rintro⟨_,_,h⟩;exact h
 generalize (execOp a.eval o).run P w=r at hw⊢
 cases r with
 |ok n w'=>
  cases n<;>simp only[Oper.upon]at hw⊢
  case value u=>exact hK _ _ _ (h.put _ _) hw
  case skip=>exact hK _ _ _ (h.put _ _) hw
  case defer x=>exact hK _ _ _ ((h.defer x).put _ _) hw
  case enter f args=>
   refine Calls.mono hw fun e w'' he=> ?_
   cases e with
   |returned u=>exact hK _ _ _ (h.put _ _) he
   |panicked c=>exact he.elim
   |outgrown=>exact absurd he hlet
  case row row args=>exact Rows.mono hw fun u w'' he=>hK _ _ _ (h.put _ _) he
 |halt x w'=>
  cases x<;>simp only[Oper.upon]at hw⊢
  all_goals first|exact hw.elim|exact hw

theorem eJ{p:Nat->Bool}{x:Nat×Oper}:∀ {l:List (Nat×Oper)},x∈jX p l↔x∈l/\p x.1=true
 | []=>by simp[jX]
 |(f,o)::l=>by
  simp only[jX];cases hp:p f
  ·simp only[cond_false,eJ (l:=l),List.mem_cons]
   constructor
   ·exact fun h=>⟨.inr h.1,h.2⟩
   ·rintro⟨rfl|h,h2⟩
    ·rw[hp]at h2;cases h2
    ·exact⟨h,h2⟩
  ·simp only[cond_true,List.mem_cons,eJ (l:=l)]
   constructor
   ·rintro (rfl|h)
    ·exact⟨.inl rfl,hp⟩
    ·exact⟨.inr h.1,h.2⟩
   ·rintro⟨rfl|h,h2⟩
    ·exact .inl rfl
    ·exact .inr ⟨h,h2⟩
theorem p5{anc:List Nat}{f:Nat}:∀ {l:List (Nat×Oper)},p6 anc f l=true↔∀x∈l,(anc.getD f 0).testBit x.1=false
 | []=>by simp[p6]
 |(j,o)::l=>by simp[p6,p5 (l:=l)]
theorem pndZ_iff{anc:List Nat}{f:Nat}:∀ {l:List Nat},x5 anc f l=true↔∀j∈l,(anc.getD j 0).testBit f=false
 | []=>by simp[x5]
 |j::l=>by simp[x5,pndZ_iff (l:=l)]
theorem y4{x:Nat×Oper}:∀ {l:List (Nat×Oper)},x∈chZ l↔x∈l/\flB x.2=false
 | []=>by simp[chZ]
 |(i,o)::l=>by
  simp only[chZ];cases hp:flB o
  ·simp only[cond_false,List.mem_cons,y4 (l:=l)]
   constructor
   ·rintro (rfl|h)
    ·exact⟨.inl rfl,hp⟩
    ·exact⟨.inr h.1,h.2⟩
   ·rintro⟨rfl|h,h2⟩
    ·exact .inl rfl
    ·exact .inr ⟨h,h2⟩
  ·simp only[cond_true,y4 (l:=l),List.mem_cons]
   constructor
   ·exact fun h=>⟨.inr h.1,h.2⟩
   ·rintro⟨rfl|h,h2⟩
    ·rw[hp]at h2;cases h2
    ·exact⟨h,h2⟩
theorem yW{x:Nat×Oper}:∀ {l:List (Nat×Oper)},x∈flZ l↔x∈l/\flB x.2=true
 | []=>by simp[flZ]
 |(i,o)::l=>by
  simp only[flZ];cases hp:flB o
  ·simp only[cond_false,yW (l:=l),List.mem_cons]
   constructor
   ·exact fun h=>⟨.inr h.1,h.2⟩
   ·rintro⟨rfl|h,h2⟩
    ·rw[hp]at h2;cases h2
    ·exact⟨h,h2⟩
  ·simp only[cond_true,List.mem_cons,yW (l:=l)]
   constructor
   ·rintro (rfl|h)
    ·exact⟨.inl rfl,hp⟩
    ·exact⟨.inr h.1,h.2⟩
   ·rintro⟨rfl|h,h2⟩
    ·exact .inl rfl
    ·exact .inr ⟨h,h2⟩
theorem rG{x:Nat×Oper}:∀ {l:List Oper} {k:Nat},x∈iB l k↔∃i,l[i]? =some x.2/\x.1=k+i
 | [],k=>by simp[iB]
 |o::l,k=>by
  simp only[iB,List.mem_cons,rG (l:=l) (k:=k+1)];constructor
  ·rintro (rfl|⟨i,h1,h2⟩)
   ·exact⟨0,rfl,rfl⟩
   ·exact⟨i+1,by simpa using h1,by omega⟩
  ·rintro⟨i,h1,h2⟩
   cases i with
   |zero=>
    left
    simp only[List.getElem?_cons_zero,Option.some.injEq]at h1;cases x;simp_all
   |succ i=>exact .inr ⟨i,by simpa using h1,by omega⟩
theorem selZ_ok:∀ {l:List Oper},selZ l=true->∀o∈l,tT o=true/\o.guard=none
 | [],_,o,h=>by cases h
 |x::l,h,o,ho=>by
  simp only[selZ,Bool.and_eq_true]at h;rcases List.mem_cons.1 ho with rfl|ho
  ·exact⟨h.1.1,fQ.1 h.1.2⟩
  ·exact selZ_ok h.2 o ho
theorem goZ_nil{stp:St->Oper->Option (Prop×St)}{anc:List Nat}{Qn:St->Prop}{n:Nat}{dn:List Nat}{fr fd:List (Nat×Oper)}{st:St}(h:goZ C stp anc Qn n [] dn fr fd st):
  ∃c,chkZ C st (jX (fun f=>x5 anc f dn) fd)=some c/\c/\Qn st:=by
 cases n<;>simp only[goZ]at h
 all_goals
  split at h
  ·rename_i hk
   exact⟨_,hk,h⟩
  ·exact h.elim
theorem allZ_ok{f:(Nat×Oper)×List (Nat×Oper)->Prop}:∀ {l:List ((Nat×Oper)×List (Nat×Oper))},allZ f l->∀x∈l,f x
 | [],_,_,h=>by cases h
 |y::l,h,x,hx=>by
  rcases List.mem_cons.1 hx with rfl|hx
  ·exact h.1
  ·exact allZ_ok h.2 x hx
theorem wP:∀ {l pre:List (Nat×Oper)} {y:Nat×Oper},y∈l->∃l',(y,l')∈outsZ pre l/\(pre++l).Perm (y::l')
 | [],_,_,h=>by cases h
 |x::l,pre,y,h=>by
  rcases List.mem_cons.1 h with h|h
  ·rw[h]
   exact⟨pre++l,List.Mem.head _,List.perm_middle⟩
  ·obtain⟨l',h1,h2⟩:=wP (pre:=pre++[x]) h
   rw[List.append_assoc]at h2;exact⟨l',List.Mem.tail _ h1,h2⟩
theorem permI_nd:∀ {l:List Oper} {k:Nat},(iB l k).Pairwise fun x y=>x.1≠y.1
 | [],_=> .nil
 |o::l,k=>by
  refine .cons (fun y hy=> ?_) permI_nd
  obtain⟨i,_,h2⟩:=rG.1 hy;show k≠y.1;omega
theorem y3:∀ {l:List (Nat×Oper)},(chZ l).Sublist l
 | []=> .slnil
 |(i,o)::l=>by
  simp only[chZ];cases flB o
  ·exact .cons_cons _ y3
  ·exact .cons _ y3
theorem apZ_ok{anc:List Nat}{fls:List (Nat×Oper)}:∀ {l:List (Nat×Oper)},apZ anc fls l=true->∀x∈l,∀y∈fls,∀d,y.2.dst=some d->
  (Operand.tmp d∈x.2.op.operands->(anc.getD x.1 0).testBit y.1=true)/\(flB x.2=false->x.2.dst≠some d)
 | [],_,x,hx,_,_,_,_=>by cases hx
 |(i,o)::l,h,x,hx,y,hy,d,hd=>by
  simp only[apZ,Bool.and_eq_true,List.all_eq_true]at h;rcases List.mem_cons.1 hx with rfl|hx
  ·have:=h.1 y hy
   rw[hd]at this;simp only[Bool.and_eq_true,Bool.or_eq_true,Bool.not_eq_true']at this;refine⟨fun hm=> ?_,fun hf he=> ?_⟩
   ·rcases this.1 with h1|h1
    ·have:rdsB o d=true:=List.any_eq_true.2 ⟨.tmp d,by simpa using hm,show Nat.beq d d=true from Nat.beq_refl d⟩
     rw[h1]at this;cases this
    ·exact h1
   ·rcases this.2 with h1|h1
    ·have hf:flB o=false:=hf
     rw[hf]at h1;cases h1
    ·have he:o.dst=some d:=he
     unfold dstIs at h1;rw[he]at h1;simp only[Nat.beq_refl]at h1;cases h1
  ·exact apZ_ok h.2 x hx y hy d hd

theorem vB(hC:aG P C){D:Nat->Prop}:∀ {l:List (Nat×Oper)} {env st2:St} {a':Act} {S:Nat->aA} {c:Prop},w7 C l env=some (c,st2)->c->aJ P C.np w0 F0 H env a' w F S->Agr D a a'->
  ∃a2 S2,aJ P C.np w0 F0 H st2 a2 w F S2/\Agr (fun t=>D t∨∃x∈l,x.2.dst=some t) a a2
 | [],env,st2,a',S,c,h,hc,hi,hag=>by
  simp only[w7,Option.some.injEq,Prod.mk.injEq]at h;obtain⟨_,rfl⟩:=h;exact⟨a',S,hi,hag.mono fun t h=> .inl h⟩
 |(f,o)::l,env,st2,a',S,c,h,hc,hi,hag=>by
  simp only[w7]at h;split at h
  ·rename_i c1 d e h1
   split at h
   ·rename_i c2 st3 h2
    simp only[Option.some.injEq,Prod.mk.injEq]at h;obtain⟨rfl,rfl⟩:=h;obtain⟨hod,_,v,S2,_,hi2⟩:=flE_ok hC hi h1 hc.1;have hag2:Agr (fun t=>D t∨t=d) a (a'.put (some d) v):=by
     refine⟨hag.defers,by show(a'.tmps.setIfInBounds d v).size=_;simp[hag.size],fun t ht=> ?_⟩
     rw[p8,if_neg (fun e=>ht (.inr e.symm))]
     exact hag.get t fun h=>ht (.inl h)
    obtain⟨a2,S3,hi3,hag3⟩:=vB hC (D:=fun t=>D t∨t=d) h2 hc.2 hi2 hag2
    refine⟨a2,S3,hi3,hag3.mono ?_⟩
    rintro t ((h|rfl)|⟨x,hx,hd⟩)
    ·exact .inl h
    ·exact .inr ⟨(f,o),by simp,hod⟩
    ·exact .inr ⟨x,by simp[hx],hd⟩
   ·cases h
  ·cases h

theorem chkZ_ok:∀ {l:List (Nat×Oper)} {env:St} {c:Prop},chkZ C env l=some c->c->∀x∈l,∃c' d e,flE C env x.2=some (c',d,e)/\c'/\e=env d
 | [],_,_,_,_,x,hx=>by cases hx
 |(f,o)::l,env,c,h,hc,x,hx=>by
  simp only[chkZ]at h;split at h
  ·rename_i c1 d e h1
   split at h
   ·rename_i c2 h2
    simp only[Option.some.injEq]at h;subst h;rcases List.mem_cons.1 hx with rfl|hx
    ·exact⟨_,_,_,h1,hc.1.1,eqEnt_ok hc.1.2⟩
    ·exact chkZ_ok h2 hc.2 x hx
   ·cases h
  ·cases h
end

section
variable {P:Program} {C:Ctx} {w0:World} {F0 H:aA} {env0:St} {ops:Array Oper} {Q:Exit->Act->World->Prop}

structure InvZ(P:Program)(C:Ctx)(stp:St->Oper->Option (Prop×St))(w0:World)(F0 H:aA)(ops:Array Oper)(anc:List Nat)(Qn:St->Prop)(T:Nat->Bool)(a:Act)(w:World)
  (rest:List (Nat×Oper)) (dn:List Nat) (fr fd:List (Nat×Oper)) (st:St) (n:Nat) (a':Act):Prop where
 go:goZ C stp anc Qn n rest dn fr fd st
 prs:∀x∈rest,T x.1=false/\ops[x.1]? =some x.2/\flB x.2=false
 nd:rest.Pairwise fun x y=>x.1≠y.1
 pdn:∀j∈dn,T j=true
 pfr:∀x∈fr,T x.1=false/\ops[x.1]? =some x.2/\flB x.2=true/\∃y∈rest,(anc.getD x.1 0).testBit y.1=true
 pfd:∀x∈fd,ops[x.1]? =some x.2/\flB x.2=true
 all:∀i o,ops[i]? =some o->(i,o)∈rest∨i∈dn∨(i,o)∈fr∨(i,o)∈fd
 agr:Agr (fun t=>∃x∈fd,T x.1=false/\x.2.dst=some t) a a'
 inv:Inv P C.np w0 F0 H st a' w

theorem regionZ_ok(hC:aG P C){stp:St->Oper->Option (Prop×St)}(hstp:dM P C stp){Qn:St->Prop}(h:xW C stp env0 ops.toList Qn)
  {a:Act} {w:World} (hi:Inv P C.np w0 F0 H env0 a w) (hQ:∀st' a' w',Qn st'->Inv P C.np w0 F0 H st' a' w'->Q .normal a' w'):mY P ops true Q a w:=by
 unfold xW at h
 generalize hchs:chZ (iB ops.toList 0)=chs at h
 generalize hfls:flZ (iB ops.toList 0)=fls at h
 generalize hanc:dT ops.toList=anc at h
 cases hB:(rP ops.toList 0&&selZ ops.toList&&apZ anc fls (iB ops.toList 0))
 ·rw[hB]at h;cases h
 rw[hB]at h
 simp only[cond_true]at h
 simp only[Bool.and_eq_true]at hB
 obtain⟨⟨hlowB,hsel⟩,hap⟩:=hB
 split at h
 ·rename_i c1 st1 hf0
  ·obtain⟨hc1,hgo⟩:=h
   have hlow:∀i k,fA ops i k->k<i:=fun i k hw=>qD ops.toList 0 (by simp) hlowB i k (Nat.zero_le i) hw
   have hR:∀ {j k:Nat},(anc.getD j 0).testBit k=true->fU ops j k:=by
    intro j k h;rw[<-hanc]at h;have:=mL h
    simpa using this
   have hpm:∀ {x:Nat×Oper},x∈iB ops.toList 0↔ops[x.1]? =some x.2:=by
    intro x;rw[rG];constructor
    ·rintro⟨i,h1,h2⟩
     rw[h2,Nat.zero_add];simpa using h1
    ·intro h
     exact⟨x.1,by simpa using h,by omega⟩
   have hchm:∀ {x:Nat×Oper},x∈chs↔ops[x.1]? =some x.2/\flB x.2=false:=by
    intro x;rw[<-hchs,y4,hpm]
   have hflm:∀ {x:Nat×Oper},x∈fls↔ops[x.1]? =some x.2/\flB x.2=true:=by
    intro x;rw[<-hfls,yW,hpm]
   have hso:∀ {i:Nat} {o:Oper},ops[i]? =some o->tT o=true/\o.guard=none:=by
    intro i o ho;exact selZ_ok hsel o (List.mem_of_getElem? (by simpa using ho))
   have hapx:∀ {i:Nat} {o:Oper},ops[i]? =some o->∀y∈fls,∀d,y.2.dst=some d->(Operand.tmp d∈o.op.operands->(anc.getD i 0).testBit y.1=true)/\(flB o=false->o.dst≠some d):=by
    intro i o ho y hy d hd;exact apZ_ok hap (i,o) (hpm.2 ho) y hy d hd
   refine iQ (draw:=true) (fun T a w=>∃rest dn fr fd st n a',InvZ P C stp w0 F0 H ops anc Qn T a w rest dn fr fd st n a') (fun _=>hlow) ?_ ?_ ?_
   ·intro T i hin hTi hdr _ a w hJ
    obtain⟨hcl,hw⟩:=hdr rfl;obtain⟨rest,dn,fr,fd,st,n,a',hz⟩:=hJ;have ho:ops[i]? =some ops[i]:=Array.getElem?_eq_getElem hin;generalize ops[i]=o at ho;obtain⟨hsl,hg⟩:=hso ho;have hwant:∀a:Act,Region.wanted o (yielded ops a.tmps)=true:=fun a=>by unfold Region.wanted;rw[hg]
    have hrd:∀t,Operand.tmp t∈o.op.operands->¬∃x∈fd,T x.1=false/\x.2.dst=some t:=by
     rintro t ht ⟨x,hx,hxT,hxd⟩
     have h1:=(hapx ho x (hflm.2 (hz.pfd x hx)) t hxd).1 ht
     rw[bV hcl hw (hR h1)]at hxT;cases hxT
    have hnot:∀y∈rest,(anc.getD i 0).testBit y.1=true->False:=by
     intro y hy hb;have:=bV hcl hw (hR hb);rw[(hz.prs y hy).1]at this;cases this
    unfold wpOp;rw[ho];simp only[];rw[hwant];simp only[if_true];left;rcases hz.all i o ho with hir|hid|hif|hif
    ·
     obtain⟨rest',hout,hperm⟩:=wP (pre:=[]) hir;have hgo1:=hz.go;cases rest with
     |nil=>cases hir
     |cons x rest0=>
     cases n with
     |zero=>exact hgo1.elim
     |succ n=>
      simp only[goZ]at hgo1;split at hgo1
      ·rename_i c3 hchk
       have hstep:=allZ_ok hgo1.2 _ hout
       have hmem:∀y,y∈rest'->y∈x::rest0:=fun y hy=>(hperm.symm.subset (List.mem_cons_of_mem _ hy))
       have hrdy:p6 anc i rest'=true:=by
        rw[p5];intro y hy;cases hb:(anc.getD i 0).testBit y.1
        ·rfl
        ·exact(hnot y (hmem y hy) hb).elim
       simp only[hrdy,cond_true]at hstep;have hnd:=(hperm.pairwise_iff (R:=fun x y:Nat×Oper=>x.1≠y.1) (fun h=>fun e=>h e.symm)).1 (by simpa using hz.nd)
       obtain⟨hnd1,hnd2⟩:=List.pairwise_cons.1 hnd;split at hstep
       ·rename_i c4 st3 hst
        split at hstep
        ·rename_i c5 st4 hfo
         obtain⟨q1,q2,q3⟩:=hstep;have hfl:flB o=false:=(hz.prs (i,o) hir).2.2;refine wp_agr hz.agr hsl hrd (hstp hz.inv hst q1 (fun a w=>Inv P C.np w0 F0 H st3 a w) _ (fun _ _ h=>h)) ?_
         intro a1 a1' w1 hag1 ⟨F1,S1,hi1⟩;obtain⟨a2,S2,hi2,hag2⟩:=vB hC hfo q2 hi1 hag1;have hTT:∀k,k≠i->cK T i k=T k:=fun k hk=>by simp only[cK,cE hk,Bool.false_or]
         have hne:∀x∈rest',x.1≠i:=by
          intro x hx e;exact hnd1 x hx e.symm
         have hnf:∀x:Nat×Oper,ops[x.1]? =some x.2->flB x.2=true->x.1≠i:=by
          intro x hx hf e;rw[e,ho]at hx;injection hx with hx;rw[<-hx,hfl]at hf;cases hf
         refine⟨rest',i::dn,_,_,st4,n,a2,q3,?_,hnd2,?_,?_,?_,?_,?_,⟨F1,S2,hi2⟩⟩
         ·intro x hx
          have:=hz.prs x (hmem x hx)
          rw[hTT _ (hne x hx)];exact this
         ·intro j hj
          rcases List.mem_cons.1 hj with rfl|hj
          ·simp[cK]
          ·by_cases hji:j=i
           ·subst hji;simp[cK]
           ·rw[hTT _ hji];exact hz.pdn j hj
         ·intro x hx
          obtain⟨hx,hr⟩:=eJ.1 hx;obtain⟨g1,g2,g3,_⟩:=hz.pfr x hx;refine⟨by rw[hTT _ (hnf x g2 g3)];exact g1,g2,g3,?_⟩;simp only[Bool.not_eq_true']at hr;have:¬∀y∈rest',(anc.getD x.1 0).testBit y.1=false:=by
           intro h;rw[p5.2 h]at hr;cases hr
          have:=Classical.not_forall.1 this
          obtain⟨y,hy⟩:=this;have:=Classical.not_imp.1 hy;exact⟨y,this.1,by simpa using this.2⟩
         ·intro x hx
          rcases List.mem_append.1 hx with hx|hx
          ·exact hz.pfd x hx
          ·obtain⟨hx,_⟩:=eJ.1 hx
           exact⟨(hz.pfr x hx).2.1,(hz.pfr x hx).2.2.1⟩
         ·intro k ok hk
          rcases hz.all k ok hk with h|h|h|h
          ·rcases List.mem_cons.1 (hperm.subset (by simpa using h))with h|h
           ·injection h with h _;subst h;exact .inr (.inl (by simp))
           ·exact .inl h
          ·exact .inr (.inl (by simp[h]))
          ·cases hr:p6 anc k rest'
           ·exact .inr (.inr (.inl (eJ.2 ⟨h,by simp[hr]⟩)))
           ·exact .inr (.inr (.inr (List.mem_append.2 (.inr (eJ.2 ⟨h,hr⟩)))))
          ·exact .inr (.inr (.inr (List.mem_append.2 (.inl h))))
         ·refine hag2.mono ?_
          rintro t (⟨x,hx,g1,g2⟩|⟨x,hx,g2⟩)
          ·have:=hz.pfd x hx
           exact⟨x,List.mem_append.2 (.inl hx),by rw[hTT _ (hnf x this.1 this.2)];exact g1,g2⟩
          ·obtain⟨hx',_⟩:=eJ.1 hx
           obtain⟨g3,g4,g5,_⟩:=hz.pfr x hx';exact⟨x,List.mem_append.2 (.inr hx),by rw[hTT _ (hnf x g4 g5)];exact g3,g2⟩
        ·exact hstep.elim
       ·exact hstep.elim
      ·exact hgo1.elim
    ·rw[hz.pdn i hid]at hTi;cases hTi
    ·obtain⟨_,_,_,y,hy,hb⟩:=hz.pfr _ hif
     exact(hnot y hy hb).elim
    ·
     have hpn:x5 anc i dn=true:=by
      rw[pndZ_iff];intro j hj;cases hb:(anc.getD j 0).testBit i
      ·rfl
      ·have:=hcl.reach (hR hb) (hz.pdn j hj)
       rw[hTi]at this;cases this
     have hck:∃c',chkZ C st (jX (fun f=>x5 anc f dn) fd)=some c'/\c':=by
      have hgo1:=hz.go
      cases rest with
      |nil=>
       obtain⟨c',g1,g2,_⟩:=goZ_nil hgo1;exact⟨c',g1,g2⟩
      |cons x rest'=>
       cases n with
       |zero=>exact hgo1.elim
       |succ n=>
        simp only[goZ]at hgo1;split at hgo1
        ·rename_i c3 hchk
         exact⟨_,hchk,hgo1.1⟩
        ·exact hgo1.elim
     obtain⟨c',hck,hcc⟩:=hck;obtain⟨c3,d,e,he,h3,hed⟩:=chkZ_ok hck hcc (i,o) (eJ.2 ⟨hif,hpn⟩);obtain⟨F1,S1,hi1⟩:=hz.inv;obtain⟨hod,hown,v,S2,hrun,hi2⟩:=flE_ok hC hi1 he h3;rw[putE_self hed.symm hown]at hi2;rw[hz.agr.exec hsl hrd]at hrun;unfold Oper.wp;rw[hrun,Oper.upon_value,hod];have hTT:∀k,k≠i->cK T i k=T k:=fun k hk=>by simp only[cK,cE hk,Bool.false_or]
     have hflo:=(hz.pfd _ hif).2
     refine⟨rest,dn,fr,fd,st,n,a'.put (some d) v,hz.go,?_,hz.nd,?_,?_,hz.pfd,hz.all,?_,⟨F1,S2,hi2⟩⟩
     ·intro x hx
      have:=hz.prs x hx
      refine⟨?_,this.2⟩
      rw[hTT _ ?_]
      ·exact this.1
      ·intro e
       have h1:=this.2.1
       rw[e,ho]at h1;injection h1 with h1;have h2:=this.2.2;rw[<-h1,hflo]at h2;cases h2
     ·intro j hj
      by_cases hji:j=i
      ·subst hji;simp[cK]
      ·rw[hTT _ hji];exact hz.pdn j hj
     ·intro x hx
      have:=hz.pfr x hx
      refine⟨?_,this.2⟩
      rw[hTT _ ?_]
      ·exact this.1
      ·intro e
       obtain⟨y,hy,hb⟩:=this.2.2.2;rw[e]at hb;exact hnot y hy hb
     ·refine⟨hz.agr.defers,by show(a'.tmps.setIfInBounds d v).size=(a.tmps.setIfInBounds d v).size;simp[hz.agr.size],fun t ht=> ?_⟩
      rw[p8,p8,hz.agr.size];split
      ·rfl
      ·rename_i hdt
       refine hz.agr.get t ?_
       rintro⟨x,hx,g1,g2⟩
       refine ht ⟨x,hx,?_,g2⟩
       rw[hTT _ ?_]
       ·exact g1
       ·intro e
        have h1:=(hz.pfd x hx).1
        rw[e,ho]at h1;injection h1 with h1;rw[<-h1,hod]at g2;injection g2 with g2;exact hdt g2
   ·intro T a w hT hJ
    obtain⟨rest,dn,fr,fd,st,n,a',hz⟩:=hJ;have hlt:∀ {i:Nat} {o:Oper},ops[i]? =some o->T i=true:=by
     intro i o ho;refine hT i ?_;rcases Nat.lt_or_ge i ops.size with h|h
     ·exact h
     ·rw[Array.getElem?_eq_none h]at ho;cases ho
    have hr:rest=[]:=by
     refine List.eq_nil_iff_forall_not_mem.2 fun x hx=> ?_
     have:=hz.prs x hx
     rw[hlt this.2.1]at this;cases this.1
    subst hr;have heq:a'=a:=hz.agr.eq (by
     rintro t ⟨x,hx,g1,_⟩
     rw[hlt (hz.pfd x hx).1]at g1;cases g1)
    have hgo1:=hz.go
    obtain⟨_,_,_,hq⟩:=goZ_nil hgo1;have:=hz.inv;rw[heq]at this;exact hQ st a w hq this
   ·intro w' hh hos htp hout
    obtain⟨F,S,hi⟩:=hi;have hi':=hi.world hos htp hout (by rw[hh];exact Nat.le_refl _) (fun b _=>by rw[hh]) (fun k _ _=>by rw[hh])
    obtain⟨a2,S2,hi2,hag2⟩:=vB hC (D:=fun _=>False) hf0 hc1 hi' (Agr.refl _ a)
    refine⟨chs,[],_,_,st1,_,a2,hgo,?_,by rw[<-hchs];exact List.Pairwise.sublist y3 permI_nd,?_,?_,?_,?_,?_,⟨F,S2,hi2⟩⟩
    ·intro x hx
     exact⟨rfl,hchm.1 hx⟩
    ·intro j hj;cases hj
    ·intro x hx
     obtain⟨hx,hr⟩:=eJ.1 hx;obtain⟨g1,g2⟩:=hflm.1 hx;refine⟨rfl,g1,g2,?_⟩;simp only[Bool.not_eq_true']at hr;have:¬∀y∈chs,(anc.getD x.1 0).testBit y.1=false:=by
      intro h;rw[p5.2 h]at hr;cases hr
     obtain⟨y,hy⟩:=Classical.not_forall.1 this;have:=Classical.not_imp.1 hy;exact⟨y,this.1,by simpa using this.2⟩
    ·intro x hx
     exact hflm.1 (eJ.1 hx).1
    ·intro i o ho
     cases hfo:flB o
     ·exact .inl (hchm.2 ⟨ho,hfo⟩)
     ·have hm:(i,o)∈fls:=hflm.2 ⟨ho,hfo⟩
      cases hr:p6 anc i chs
      ·exact .inr (.inr (.inl (eJ.2 ⟨hm,by simp[hr]⟩)))
      ·exact .inr (.inr (.inr (eJ.2 ⟨hm,hr⟩)))
    ·refine hag2.mono ?_
     rintro t (h|⟨x,hx,hd⟩)
     ·exact h.elim
     ·exact⟨x,hx,rfl,hd⟩
 ·exact h.elim
end
end Go.Lf
namespace Go.Lf

def leE:Ent->Ent->Prop
 |_,.dead=>True
 | .shr τ x,.shr σ y=>match bY (τ:=τ) (σ:=σ) x with
  |some z=>z=y
  |none=>False
 | .full e x,.shr σ y=>match bY (τ:= .slice e) (σ:=σ) x with
  |some z=>z=y
  |none=>False
 | .full e x,.full e' y=>match bY (τ:= .slice e) (σ:= .slice e') x with
  |some z=>z=y
  |none=>False
 | .own τ m x,.own σ m' y=>bif decide (m=m')then(match bY (τ:=τ) (σ:=σ) x with
  |some z=>z=y
  |none=>False)else False
 | .box τ m x,.box σ m' y=>bif decide (m=m')then(match bY (τ:=τ) (σ:=σ) x with
  |some z=>z=y
  |none=>False)else False
 | .saddr τ x,.saddr σ y=>match bY (τ:=τ) (σ:=σ) x with
  |some z=>z=y
  |none=>False
 | .rd r τ x,.rd r' σ y=>bif Nat.beq r r' then(match bY (τ:=τ) (σ:=σ) x with
  |some z=>z=y
  |none=>False)else False
 | .raddr r τ x,.raddr r' σ y=>bif Nat.beq r r' then(match bY (τ:=τ) (σ:=σ) x with
  |some z=>z=y
  |none=>False)else False
 | .sub r p,.sub r' p'=>bif Nat.beq r r' then p=p' else False
 | .addr r p,.addr r' p'=>bif Nat.beq r r' then p=p' else False
 | .nilS,.nilS=>True
 | .nilS,.shr (.slice _) y=>y=[]
 | .nilS,.own (.slice _) (.own _) y=>y=[]
 | .fn A R g,.fn A' R' g'=>∃(h1:A=A') (h2:R=R'),(h1▸h2▸g:Fun A' R')=g'
 | .pp r,.pp r'=>bif Nat.beq r r' then True else False
 |_,_=>False

theorem wU{e e':Ent}(h:leE e e'):e'= .dead∨e'=e∨(e= .nilS/\∃τ,e'= .shr (.slice τ) ([]:List τ.den))∨(e= .nilS/\∃τ me,e'= .own (.slice τ) (.own me) ([]:List τ.den))∨
  ∃e0 x,e= .full e0 x/\e'= .shr (.slice e0) x:=by
 have aux:∀ {τ σ:Ty} {x:τ.den} {y:σ.den} {f:(τ:Ty)->τ.den->Ent},(match bY (τ:=τ) (σ:=σ) x with|some z=>z=y|none=>False)->f σ y=f τ x:=by
  intro τ σ x y f h;split at h
  ·rename_i z hz
   have:=aV hz
   injection this with e1 e2;subst e1;cases e2;subst h;rfl
  ·cases h
 unfold leE at h
 split at h
 ·exact .inl rfl
 ·exact .inr (.inl (aux (f:= .shr) h))
 ·rename_i e x σ y
  right;right;right;right
  split at h
  ·rename_i z hz
   have:=aV hz
   injection this with e1 e2;subst e1;cases e2;subst h;exact⟨e,x,rfl,rfl⟩
  ·cases h
 ·rename_i e x e' y
  right;left
  split at h
  ·rename_i z hz
   have:=aV hz
   injection this with e1 e2;injection e1 with e1;subst e1;cases e2;subst h;rfl
  ·cases h
 ·rename_i τ m x σ m' y
  cases hm:decide (m=m')
  ·rw[hm]at h;cases h
  ·rw[hm]at h
   have:=of_decide_eq_true hm
   subst this;exact .inr (.inl (aux (f:=fun τ x=> .own τ m x) h))
 ·rename_i τ m x σ m' y
  cases hm:decide (m=m')
  ·rw[hm]at h;cases h
  ·rw[hm]at h
   have:=of_decide_eq_true hm
   subst this;exact .inr (.inl (aux (f:=fun τ x=> .box τ m x) h))
 ·exact .inr (.inl (aux (f:= .saddr) h))
 ·rename_i r τ x r' σ y
  cases hm:Nat.beq r r'
  ·rw[hm]at h;cases h
  ·rw[hm]at h
   have:=aY.1 hm
   subst this;exact .inr (.inl (aux (f:=fun τ x=> .rd r τ x) h))
 ·rename_i r τ x r' σ y
  cases hm:Nat.beq r r'
  ·rw[hm]at h;cases h
  ·rw[hm]at h
   have:=aY.1 hm
   subst this;exact .inr (.inl (aux (f:=fun τ x=> .raddr r τ x) h))
 ·rename_i r p r' p'
  cases hm:Nat.beq r r'
  ·rw[hm]at h;cases h
  ·rw[hm]at h
   have:=aY.1 hm
   subst this;simp only[cond_true]at h;subst h;exact .inr (.inl rfl)
 ·rename_i r p r' p'
  cases hm:Nat.beq r r'
  ·rw[hm]at h;cases h
  ·rw[hm]at h
   have:=aY.1 hm
   subst this;simp only[cond_true]at h;subst h;exact .inr (.inl rfl)
 ·exact .inr (.inl rfl)
 ·rename_i τ y
  subst h;exact .inr (.inr (.inl ⟨rfl,τ,rfl⟩))
 ·rename_i τ me y
  subst h;exact .inr (.inr (.inr (.inl ⟨rfl,τ,me,rfl⟩)))
 ·obtain⟨h1,h2,h⟩:=h
  subst h1;subst h2;subst h;exact .inr (.inl rfl)
 ·rename_i r r'
  cases hm:Nat.beq r r'
  ·rw[hm]at h;cases h
  ·have:=aY.1 hm
   subst this;exact .inr (.inl rfl)
 ·cases h

theorem aJ.le{P:Program}{N:NP}{w0:World}{F0 H:aA}{env:St}{a:Act}{w:World}{F:aA}{S:Nat->aA}(hi:aJ P N w0 F0 H env a w F S){env2:St}
  (h1:∀t,leE (env t) (env2 t)) (h2:∀t r,(env2 t).root=some r->(env2 r).isOwner=true):aJ P N w0 F0 H env2 a w F S:=by
 refine⟨hi.os,hi.tape,hi.output,hi.size,hi.block,hi.fb,hi.f0,hi.fn,hi.sb,hi.sd,?_,hi.defers,hi.slots⟩
 intro t
 have ht:=hi.ent t
 rcases wU (h1 t)with h|h|⟨h,τ,h'⟩|⟨h,τ,me,h'⟩|⟨e0,x,h,h'⟩
 ·rw[h];trivial
 ·rw[h]
  refine aF.keep (fun _ h=>h) (fun _ _=>rfl) rfl ?_ (fun _=>⟨rfl,fun _ _=>rfl,fun b h1 h2=>absurd h1 h2⟩) ht
  intro r hr;refine⟨fun ho=> ?_,fun _=>rfl,rfl,fun _ _=>rfl,fun b h1 h2=>absurd h1 h2,fun b hb=>(hi.sb r b hb).2.2⟩
  have ho2:=h2 t r (by rw[h];exact hr)
  rcases wU (h1 r)with k|k|⟨k,_,k'⟩|⟨k,_,_,k'⟩|⟨_,_,k,k'⟩
  ·rw[k]at ho2;cases ho2
  ·exact k
  ·rw[k]at ho;cases ho
  ·rw[k]at ho;cases ho
  ·rw[k]at ho;cases ho
 ·rw[h]at ht
  rw[h'];have ht:a.tmps.getD t undef= .slice none 0 0:=ht;show aT F w (.slice τ) .shr none' (a.tmps.getD t undef) ([]:List τ.den);rw[ht];exact .nil _ _ _ _ _
 ·rw[h]at ht
  rw[h'];have ht:a.tmps.getD t undef= .slice none 0 0:=ht;obtain⟨cs,q1,q2⟩:=aT.nil F w τ (.own me) (S t);exact⟨.val cs,S t,cs,.inl ⟨rfl,rfl,rfl,ht.trans q1⟩,rfl,q2⟩
 ·rw[h]at ht
  rw[h'];obtain⟨_,_,ht⟩:=ht;exact ht

structure aW where
 ι:Type
 inv:ι->Prop
 dec:ι->Nat
 ovr:ι->List (Nat×Ent)
 keep:List Nat
 sub:ι->List aW:=fun _=>[]
 frz:List Nat:=[]

def stx(l:aW)(st:St)(x:l.ι):St:=fun t=>match look (l.ovr x) t with
 |some e=>e
 |none=>bif eD l.keep t then st t else .dead

def sK:List (Nat×Ent)->List Nat
 | []=>[]
 |p::l=>p.1::sK l

def leAll(st st':St):List Nat->Prop
 | []=>True
 |t::l=>leE (st t) (st' t)/\leAll st st' l
def tV(st:St):List Nat->Bool
 | []=>true
 |t::l=>(match(st t).root with
  |some r=>(st r).isOwner
  |none=>true)&&tV st l

def atX(l:aW)(st:St)(x:l.ι)(st':St):Prop:=
 bif tV (stx l st x) (sK (l.ovr x)++l.keep)then leAll st' (stx l st x) (sK (l.ovr x)++l.keep)else False

def nl:Code->Nat
 | .loop b=>1
 | .seq a b=>nl a+nl b
 | .cond _ a b=>nl a+nl b
 | .block _ b=>nl b
 |_=>0

def wpI(C:Ctx)(stp:St->Oper->Option (Prop×St)):List aW->Code->Nat->St->(St->Prop)->(Nat->St->Prop)->(St->Prop)->Prop
 |_,.skip,_,st,Qn,_,_=>Qn st
 |L,.region _ ops draw,_,st,Qn,_,_=>match s8 C stp draw st ops.toList with
  |some (c,st')=>c/\Qn st'
  |none=>bif draw then(match s8 C stp true st (hoist ops.toList)with
   |some (c,st')=>c/\Qn st'
   |none=>xW C stp st ops.toList Qn)else False
 |L,.seq a b,k,st,Qn,Qx,Qr=>wpI C stp L a k st (fun st'=>wpI C stp L b (k+nl a) st' Qn Qx Qr) Qx Qr
 |L,.cond x a b,k,st,Qn,Qx,Qr=>match(bR st x).val with
  |some ⟨.bool,p⟩=>(p=true->wpI C stp L a k st Qn Qx Qr)/\(p=false->wpI C stp L b (k+nl a) st Qn Qx Qr)
  |none=>match(bR st x).e with
   | .nb p q=>(p->wpI C stp L a k st Qn Qx Qr)/\(q->wpI C stp L b (k+nl a) st Qn Qx Qr)
   |_=>False
  |_=>False
 |L,.block id b,k,st,Qn,Qx,Qr=>wpI C stp L b k st Qn (fun i st'=>bif Nat.beq i id then Qn st' else Qx i st') Qr
 |L,.loop b,k,st,_,Qx,Qr=>match L[k]? with
  |some l=>(∃x,l.inv x/\atX l (kC st l.frz) x (kC st l.frz))/\∀x,l.inv x->mF (l.ovr x) []->wpI C stp (l.sub x) b 0 (stx l (kC st l.frz) x) (fun st'=>∃y,l.inv y/\l.dec y<l.dec x/\atX l (kC st l.frz) y (kC st' l.frz)) Qx Qr
  |none=>False
 |_,.exit id,_,st,_,Qx,_=>Qx id st
 |_,.ret,_,st,_,_,Qr=>Qr st
 |_,_,_,_,_,_,_=>False

section
variable {P:Program} {C:Ctx} {w0:World} {F0 H:aA}

theorem wQ:∀ {l:List (Nat×Ent)} {t:Nat} {e:Ent},look l t=some e->t∈sK l
 | [],_,_,h=>by cases h
 |(k,v)::l,t,e,h=>by
  simp only[look]at h;cases hb:Nat.beq k t
  ·rw[hb]at h;simp only[sK,List.mem_cons];exact .inr (wQ h)
  ·simp only[sK,List.mem_cons];exact .inl (aY.1 hb).symm

theorem wV{st st':St}:∀ {l:List Nat} {t:Nat},leAll st st' l->t∈l->leE (st t) (st' t)
 |x::l,t,h,ht=>by
  rcases List.mem_cons.1 ht with rfl|ht
  ·exact h.1
  ·exact wV h.2 ht
theorem tU{st:St}:∀ {l:List Nat} {t r:Nat},tV st l=true->t∈l->(st t).root=some r->(st r).isOwner=true
 |x::l,t,r,h,ht,hr=>by
  simp only[tV,Bool.and_eq_true]at h;rcases List.mem_cons.1 ht with rfl|ht
  ·have:=h.1;rw[hr]at this;exact this
  ·exact tU h.2 ht hr

theorem leE_dead(e:Ent):leE e .dead:=by cases e<;>trivial

theorem mI{N:NP}{l:aW}{st st':St}{x:l.ι}(h:atX l st x st'){a:Act}{w:World}(hi:Inv P N w0 F0 H st' a w):Inv P N w0 F0 H (stx l st x) a w:=by
 unfold atX at h
 cases hb:tV (stx l st x) (sK (l.ovr x)++l.keep)
 ·rw[hb]at h;cases h
 rw[hb]at h
 simp only[cond_true]at h
 obtain⟨F,S,hi⟩:=hi
 have hkey:∀t,stx l st x t≠ .dead->t∈sK (l.ovr x)++l.keep:=by
  intro t ht;unfold stx at ht;rw[List.mem_append];cases hl:look (l.ovr x) t with
  |some e=>exact .inl (wQ hl)
  |none=>
   rw[hl]at ht;simp only[]at ht;cases hm:eD l.keep t
   ·rw[hm]at ht;exact absurd rfl ht
   ·exact .inr (fF.1 hm)
 refine⟨F,S,hi.le ?_ ?_⟩
 ·intro t
  by_cases ht:stx l st x t= .dead
  ·rw[ht];exact leE_dead _
  ·exact wV h (hkey t ht)
 ·intro t r hr
  exact tU hb (hkey t (fun h=>by rw[h]at hr;cases hr)) hr

theorem oB{c:Code}{ι:Type}(I:ι->Act->World->Prop)(dec:ι->Nat){Q:Exit->Act->World->Prop}{a:Act}{w:World}(x:ι)(h0:I x a w)
  (round:∀x a w,I x a w->c.wp P (Exit.then (fun a' w'=>∃y,I y a' w'/\dec y<dec x) Q) a w):(Code.loop c).wp P Q a w:=by
 have hmin:∀(p:Nat->Prop) (n:Nat),p n->∃m,p m/\∀k,p k->m<=k:=by
  intro p n
  induction n using Nat.strongRecOn with
  |_ n ih=>
   intro hn;by_cases h:∃m,m<n/\p m
   ·obtain⟨m,h1,h2⟩:=h;exact ih m h1 h2
   ·refine⟨n,hn,fun k hk=> ?_⟩
    rcases Nat.lt_or_ge k n with h'|h'
    ·exact absurd ⟨k,h',hk⟩ h
    ·exact h'
 let p:Act->World->Nat->Prop:=fun a w n=>∃x,I x a w/\dec x=n
 have hex:∀a w,∃m,(∃n,p a w n)->p a w m/\∀k,p a w k->m<=k:=by
  intro a w;by_cases h:∃n,p a w n
  ·obtain⟨n,hn⟩:=h
   obtain⟨m,h1,h2⟩:=hmin (p a w) n hn;exact⟨m,fun _=>⟨h1,h2⟩⟩
  ·exact⟨0,fun h'=>absurd h' h⟩
 let μ:Act->World->Nat:=fun a w=>Classical.choose (hex a w)
 have hμ:∀a w,(∃n,p a w n)->p a w (μ a w)/\∀k,p a w k->μ a w<=k:=fun a w=>Classical.choose_spec (hex a w)
 refine wp_loop (fun a w=>∃x,I x a w) μ ⟨x,h0⟩ ?_
 intro a w ⟨x,hx⟩
 obtain⟨⟨y,hy,hd⟩,_⟩:=hμ a w ⟨_,x,hx,rfl⟩
 refine wp_mono (round y a w hy) ?_
 intro e a' w' h
 cases e with
 |normal=>
  obtain⟨z,hz,hlt⟩:=h;refine⟨⟨z,hz⟩,?_⟩;have:=(hμ a' w' ⟨_,z,hz,rfl⟩).2 _ ⟨z,hz,rfl⟩;omega
 |_=>exact h

theorem cT(hC:aG P C){stp:St->Oper->Option (Prop×St)}(hstp:dM P C stp):
  ∀(c:Code) {L:List aW} {k:Nat} {st:St} {Qn:St->Prop} {Qx:Nat->St->Prop} {Qr:St->Prop} {Q:Exit->Act->World->Prop} {a:Act} {w:World},wpI C stp L c k st Qn Qx Qr->Inv P C.np w0 F0 H st a w->
   (∀st a w,Qn st->Inv P C.np w0 F0 H st a w->Q .normal a w)->(∀i st a w,Qx i st->Inv P C.np w0 F0 H st a w->Q (.exit i) a w)->(∀st a w,Qr st->Inv P C.np w0 F0 H st a w->Q .ret a w)->c.wp P Q a w
 | .skip,L,k,st,Qn,Qx,Qr,Q,a,w,h,hi,hn,hx,hr=>wp_skip (hn _ _ _ h hi)
 | .region id ops draw,L,k,st,Qn,Qx,Qr,Q,a,w,h,hi,hn,hx,hr=>by
  simp only[wpI]at h;split at h
  ·rename_i c st' hr'
   exact(t7 hC hstp hr' h.1 hi (fun a' w' hi'=>hn _ _ _ h.2 hi')).wp hC.mixed
  ·cases draw with
   |false=>cases h
   |true=>
    simp only[cond_true]at h;split at h
    ·rename_i c st' hr'
     have h1:=t7 (ops:=(hoist ops.toList).toArray) (Q:=i4 fun a' w'=>Inv P C.np w0 F0 H st' a' w') hC hstp hr' h.1 hi (fun a' w' hi'=>hi')
     refine wp_mono ((hoist_ok h1).wp (id:=id) hC.mixed) ?_
     intro e a' w' h';cases e with
     |normal=>exact hn _ _ _ h.2 h'
     |_=>exact h'.elim
    ·exact(regionZ_ok hC hstp h hi (fun st' a' w' hq hi'=>hn _ _ _ hq hi')).wp hC.mixed
 | .seq x y,L,k,st,Qn,Qx,Qr,Q,a,w,h,hi,hn,hx,hr=>by
  simp only[wpI]at h;refine wp_seq (cT hC hstp x h hi ?_ ?_ ?_)
  ·intro st1 a1 w1 h1 hi1
   exact cT hC hstp y h1 hi1 hn hx hr
  ·exact hx
  ·exact hr
 | .cond z x y,L,k,st,Qn,Qx,Qr,Q,a,w,h,hi,hn,hx,hr=>by
  simp only[wpI]at h;split at h
  ·rename_i p hv
   obtain⟨F,S,hi0⟩:=hi;have:=(aP.val_ok hi0 (aX hi0 z) hv).bool_eq;refine wp_cond_split this (fun hp=>cT hC hstp x (h.1 hp) ⟨F,S,hi0⟩ hn hx hr) (fun hp=>cT hC hstp y (h.2 hp) ⟨F,S,hi0⟩ hn hx hr)
  ·split at h
   ·rename_i p q hv
    obtain⟨F,S,hi0⟩:=hi;have h1:=(aX hi0 z).ent (by rw[hv];rfl) 0 (by rw[hv];simp[Ent.root]);rw[hv]at h1;simp only[aF,if_true]at h1;obtain⟨b,h1,h2,h3⟩:=h1;refine wp_cond_split h1 (fun hp=>cT hC hstp x (h.1 (h2 hp)) ⟨F,S,hi0⟩ hn hx hr) (fun hp=>cT hC hstp y (h.2 (h3 hp)) ⟨F,S,hi0⟩ hn hx hr)
   ·cases h
  ·cases h
 | .block id b,L,k,st,Qn,Qx,Qr,Q,a,w,h,hi,hn,hx,hr=>by
  simp only[wpI]at h;refine wp_block (cT hC hstp b h hi hn ?_ hr);intro i st1 a1 w1 h1 hi1;simp only[Exit.inBlock];cases hb:Nat.beq i id
  ·rw[hb]at h1
   have:i≠id:=fun e=>by subst e;rw[Nat.beq_refl]at hb;cases hb
   rw[if_neg this];exact hx _ _ _ _ h1 hi1
  ·rw[hb]at h1
   rw[if_pos (aY.1 hb)];exact hn _ _ _ h1 hi1
 | .loop b,L,k,st,Qn,Qx,Qr,Q,a,w,h,hi,hn,hx,hr=>by
  simp only[wpI]at h;split at h
  ·rename_i l hl
   obtain⟨⟨x,h1,h2⟩,h3⟩:=h;refine oB (fun x a w=>l.inv x/\Inv P C.np w0 F0 H (stx l (kC st l.frz) x) a w) l.dec x ⟨h1,mI h2 (iT hi)⟩ ?_
   intro y a1 w1 ⟨g1,g2⟩;refine cT hC hstp b (h3 y g1 (iN g2 (f:=l.ovr y) (fun t e h=>by simp only[stx,h]) (l.ovr y) [] (fun t e _ h=>h))) g2 ?_ hx hr
   intro st2 a2 w2 ⟨z,k1,k2,k3⟩ hi2;exact⟨z,⟨k1,mI k3 (iT hi2)⟩,k2⟩
  ·cases h
 | .exit id,L,k,st,Qn,Qx,Qr,Q,a,w,h,hi,hn,hx,hr=>wp_exit (hx _ _ _ _ h hi)
 | .ret,L,k,st,Qn,Qx,Qr,Q,a,w,h,hi,hn,hx,hr=>wp_ret (hr _ _ _ h hi)
 | .rangeFunc _ _ _ _,_,_,_,_,_,_,_,_,_,h,_,_,_,_=>by simp only[wpI]at h
 | .scope _,_,_,_,_,_,_,_,_,_,h,_,_,_,_=>by simp only[wpI]at h
 | .label _,_,_,_,_,_,_,_,_,_,h,_,_,_,_=>by simp only[wpI]at h
 | .goto _,_,_,_,_,_,_,_,_,_,h,_,_,_,_=>by simp only[wpI]at h
 | .refuse _,_,_,_,_,_,_,_,_,_,h,_,_,_,_=>by simp only[wpI]at h
end
end Go.Lf
namespace Go.Lf

def argEnt:(k:AK)->k.den->Ent
 | .val τ,x=> .shr τ x
 | .fn A R,g=> .fn A R g
 | .sptr τ,x=> .saddr τ x
def bZ:(ks:List AK)->aH ks->Nat->List (Nat×Ent)
 | [],_,_=>[]
 |k::ks,x,n=>(n,argEnt k x.1)::bZ ks x.2 (n+1)
def ofL(l:List (Nat×Ent)):St:=fun t=>match look l t with
 |some e=>e
 |none=> .dead

def readR(τ:Ty)(v:aP):Option τ.den:=
 match v.shrAs τ with
 |some x=>some x
 |none=>match v.val with
  |some ⟨σ,x⟩=>bY (τ:=σ) (σ:=τ) x
  |none=>none

def mR:(τ:Ty)->Md->List aP->Option (τ.den×List Nat)
 | .unit,_,[]=>some ((),[])
 | .prod a b,m,v::vs=>match ownR a m.fst v,mR b m.snd vs with
  |some (x,l),some (y,l')=>some ((x,y),l++l')
  |_,_=>none
 |_,_,_=>none
def jE:(τ:Ty)->List aP->Option τ.den
 | .unit,[]=>some ()
 | .prod a b,v::vs=>match readR a v,jE b vs with
  |some x,some y=>some (x,y)
  |_,_=>none
 |_,_=>none

def pI(st:St)(T:TypeId)(C:Ctx)(t:Nat)(τ:Ty):Option τ.den:=
 match st t with
 | .box σ _ x=>bif decide (look C.tys T=some τ)then bY (τ:=σ) (σ:=τ) x else none
 |_=>none

def y5(st:St)(T:TypeId)(C:Ctx)(t:Nat)(τ:Ty)(md:Md):Option τ.den:=
 match st t with
 | .box σ m x=>bif decide (look C.tys T=some τ)&&decide (m=md)then bY (τ:=σ) (σ:=τ) x else none
 |_=>none

def tK(st:St):List ResultVar->Option (List aP)
 | []=>some []
 | .tmp t::l=>match tK st l with
  |some vs=>some (bR st (.tmp t)::vs)
  |none=>none
 | .cell _ _::_=>none

def gM(C:Ctx)(st:St):(τ:Ty)->List ResultVar->Option τ.den
 | .unit,[]=>some ()
 | .prod a b,.tmp t::rs=>match readR a (bR st (.tmp t)),gM C st b rs with
  |some x,some y=>some (x,y)
  |_,_=>none
 | .prod a b,.cell t T::rs=>match pI st T C t a,gM C st b rs with
  |some x,some y=>some (x,y)
  |_,_=>none
 |_,_=>none
def retE(C:Ctx)(rs:List ResultVar)(s:bD)(st:St):Option s.res.den:=
 match rs,s.multi with
 | [.tmp t],false=>match ownR s.res s.mode (bR st (.tmp t))with
  |some (x,_)=>some x
  |none=>bif dO s.mode then readR s.res (bR st (.tmp t))else none
 | [.cell t T],false=>bif s.res.flat||dO s.mode then pI st T C t s.res else y5 st T C t s.res s.mode
 |_,true=>bif Nat.beq rs.length 1 then none else match tK st rs with
  |some vs=>match mR s.res s.mode vs with
   |some (x,l)=>bif bQ l then some x else none
   |none=>bif dO s.mode then jE s.res vs else none
  |none=>bif dO s.mode then gM C st s.res rs else none
 |_,_=>none

def jU(C:Ctx)(rs:List ResultVar)(s:bD)(y:s.res.den)(st:St):Prop:=match retE C rs s st with
 |some x=>x=y
 |none=>False

def eR(C:Ctx)(stp:St->Oper->Option (Prop×St))(s:bD)(L:aH s.args->List aW)(fn:Func):Prop:=
 match fn.body with
 |some c=>∀x,s.pre x->gE s.args x->wpI C stp (L x) c 0 (ofL (bZ s.args x 0)) (jU C fn.results.toList s (s.fn x)) (fun _ _=>False) (jU C fn.results.toList s (s.fn x))
 |none=>False

section
variable {P:Program} {C:Ctx} {N:NP} {w0:World} {F0 H:aA} {env:St} {a:Act} {w:World} {F:aA} {S:Nat->aA}

theorem argEnt_ok{k:AK}{v:Value}{x:k.den}(h:qP P F w k v x){V:Nat->Value}{t:Nat}(hV:V t=v):aF P F w env V S t (argEnt k x):=by
 cases k with
 |val τ=>show aT F w τ .shr none' (V t) x;rw[hV];exact h
 |fn A R=>show qO P F w (V t) A R x;rw[hV];exact h
 |sptr τ=>show gV F w (V t) τ x;rw[hV];exact h

theorem mK{V:Nat->Value}:∀ {ks:List AK} {vs:List Value} {x:aH ks} {n:Nat},cD P F w ks vs x->(∀i v,vs[i]? =some v->V (n+i)=v)->
  vs.length=ks.length/\∀t e,look (bZ ks x n) t=some e->e.isOwner=false/\e.root=none/\aF P F w env V S t e
 | [],vs,x,n,h,hV=>by
  have h:vs=[]:=h
  subst h;exact⟨rfl,fun t e h=>by cases h⟩
 |k::ks,vs,x,n,h,hV=>by
  obtain⟨v,r,rfl,h1,h2⟩:=h;obtain⟨g1,g2⟩:=mK (V:=V) (n:=n+1) h2 (fun i u hu=>by have:=hV (i+1) u (by simpa using hu);rw[<-this];congr 1;omega)
  refine⟨by simp[g1],fun t e he=> ?_⟩
  simp only[bZ,look]at he;cases hb:Nat.beq n t
  ·rw[hb]at he;exact g2 t e he
  ·rw[hb]at he
   simp only[cond_true,Option.some.injEq]at he;subst he;have ht:=aY.1 hb;subst ht;refine⟨by cases k<;>rfl,by cases k<;>rfl,argEnt_ok h1 (by have:=hV 0 v rfl;simpa using this)⟩

theorem aJ.start{ks:List AK}{vs:List Value}{x:aH ks}(hG:kQ N.g F w)(hF:∀b,F b->b<w.heap.size)(h:cD P F w ks vs x)(hn:vs.length<=N.n)(hp:N.p=none)(hps:N.ps=[]):
  aJ P N w F none' (ofL (bZ ks x 0)) {tmps:=vs.toArray++Array.replicate (N.n-vs.length) undef,defers:=[]} w F (fun _=>none'):=by
 have hV:∀i v,vs[i]? =some v->(vs.toArray++Array.replicate (N.n-vs.length) undef).getD (0+i) undef=v:=by
  intro i v hv;have hi:i<vs.length:=by
   rcases Nat.lt_or_ge i vs.length with h|h
   ·exact h
   ·rw[List.getElem?_eq_none h]at hv;cases hv
  rw[Nat.zero_add,Array.getD_eq_getD_getElem?,Array.getElem?_append_left (by simpa using hi)];simp[hv]
 have he:=mK (env:=ofL (bZ ks x 0)) (S:=fun _=>none') (V:=fun t=>(vs.toArray++Array.replicate (N.n-vs.length) undef).getD t undef) (n:=0) h hV
 refine⟨rfl,rfl,rfl,Nat.le_refl _,fun _ _ _=>rfl,hF,fun _ h=>h,fun b h1 h2=>absurd h1 h2,fun _ _ h=>h.elim,fun _ _ _ _ h=>h.elim,?_,rfl,⟨by simp;omega,(fun s h=>by rw[hp]at h;cases h),fun b o h=>⟨(hG b o h).1,fun h=>h.elim,hF b (hG b o h).1,(hG b o h).2⟩,fun z hz=>by rw[hps]at hz;cases hz⟩⟩
 intro t
 show aF P F w (ofL (bZ ks x 0)) (fun t=>(vs.toArray++Array.replicate (N.n-vs.length) undef).getD t undef) (fun _=>none') t (match look (bZ ks x 0) t with|some e=>e|none=> .dead)
 cases hl:look (bZ ks x 0) t with
 |none=>trivial
 |some e=>exact(he.2 t e hl).2.2

theorem pZ(hi:aJ P N w0 F0 H env a w F S){v:Value}{vw:aP}(hv:aU P F w env (fun t=>a.tmps.getD t undef) S v vw){τ:Ty}{x:τ.den}(h:readR τ vw=some x):
  aT (FA F S) w τ .shr none' v x:=by
 unfold readR at h
 split at h
 ·rename_i y hy
  simp only[Option.some.injEq]at h;subst h;exact(fN hi hv hy).mono (fun b hb=> .inl hb) (fun _ h=>h)
 ·split at h
  ·rename_i σ y hy
   have:=aV h
   injection this with e1 e2;subst e1;cases e2;exact aP.val_ok hi hv hy
  ·cases h

def oS(a:Act):ResultVar->Sem Value
 |ResultVar.tmp t=>(pure (a.tmps.getD t undef):Sem Value)
 | .cell b t=>do loadVar t (<-asAddr (a.tmps.getD b undef))

theorem qS(hi:aJ P N w0 F0 H env a w F S):∀ {rs:List ResultVar} {vws:List aP},tK env rs=some vws->
  ∃vs,VsOK P F w env (fun t=>a.tmps.getD t undef) S vs vws/\(rs.mapM (oS a)).run P w= .ok vs w/\vs.length=rs.length
 | [],vws,h=>by
  simp only[tK,Option.some.injEq]at h;subst h;exact⟨[],trivial,by simp[Sem.run_pure],rfl⟩
 | .tmp t::rs,vws,h=>by
  simp only[tK]at h;split at h
  ·rename_i vws' h'
   simp only[Option.some.injEq]at h;subst h;obtain⟨vs,h1,h2,h3⟩:=qS hi h';refine⟨a.tmps.getD t undef::vs,⟨aX hi (.tmp t),h1⟩,?_,by simp[h3]⟩
   rw[List.mapM_cons];simp only[oS,Sem.run_bind,Sem.run_pure,Result.andThen];rw[h2]
  ·cases h
 | .cell _ _::_,_,h=>by cases h

theorem uI(hi:aJ P N w0 F0 H env a w F S):∀ {τ:Ty} {m:Md} {vs:List Value} {vws:List aP} {x:τ.den} {l:List Nat},
  VsOK P F w env (fun t=>a.tmps.getD t undef) S vs vws->mR τ m vws=some (x,l)->bQ l=true->dJ F w τ m (SL S l) vs x
 | .unit,m,[],[],x,l,_,h,_=>rfl
 | .prod A B,m,v::vs,vw::vws,x,l,⟨hv,hvs⟩,h,hn=>by
  simp only[mR]at h;split at h
  ·rename_i y l1 z l2 h1 h2
   simp only[Option.some.injEq,Prod.mk.injEq]at h;obtain⟨rfl,rfl⟩:=h;have hfst:∃S1,Sub S1 (SL S l1)/\aT F w A m.fst S1 v y:=by
    rcases lX hi hv h1 with⟨rfl,h3⟩|⟨t,rfl,h3⟩
    ·exact⟨none',fun _ h=>h.elim,h3⟩
    ·exact⟨S t,fun b hb=>⟨t,by simp,hb⟩,h3⟩
   have hn2:bQ l2=true/\∀t,t∈l1->t∉l2:=by
    rcases lX hi hv h1 with⟨rfl,h3⟩|⟨t,rfl,h3⟩
    ·exact⟨hn,fun _ h=>by cases h⟩
    ·have:=d8 hn
     exact⟨this.2,fun u hu=>by simp at hu;subst hu;exact this.1⟩
   obtain⟨S1,k1,k2⟩:=hfst;refine⟨v,vs,S1,SL S l2,rfl,?_,?_,?_,k2,uI hi hvs h2 hn2.1⟩
   ·intro b hb;obtain⟨t,ht,hb⟩:=k1 b hb;exact⟨t,by simp[ht],hb⟩
   ·intro b hb;obtain⟨t,ht,hb⟩:=hb;exact⟨t,by simp[ht],hb⟩
   ·intro b hb1 hb2
    obtain⟨t1,ht1,hb1⟩:=k1 b hb1;obtain⟨t2,ht2,hb2⟩:=hb2;exact hi.sd t1 t2 (fun h=>hn2.2 t1 ht1 (h▸ht2)) b hb1 hb2
  ·cases h
 | .prod _ _,_,[],[],_,_,_,h,_=>by simp[mR]at h
 | .prod _ _,_,[],_::_,_,_,h,_,_=>h.elim
 | .prod _ _,_,_::_,[],_,_,h,_,_=>h.elim
 | .unit,_,[],_::_,_,_,h,_,_=>h.elim
 | .unit,_,_::_,[],_,_,h,_,_=>h.elim
 | .unit,_,_::_,_::_,_,_,_,h,_=>by simp[mR]at h
 | .int _,_,_,_,_,_,_,h,_=>by simp[mR]at h
 | .bool,_,_,_,_,_,_,h,_=>by simp[mR]at h
 | .str,_,_,_,_,_,_,h,_=>by simp[mR]at h
 | .abs _,_,_,_,_,_,_,h,_=>by simp[mR]at h
 | .slice _,_,_,_,_,_,_,h,_=>by simp[mR]at h
 | .arr _ _,_,_,_,_,_,_,h,_=>by simp[mR]at h

theorem rE(hi:aJ P N w0 F0 H env a w F S):∀ {τ:Ty} {vs:List Value} {vws:List aP} {x:τ.den},
  VsOK P F w env (fun t=>a.tmps.getD t undef) S vs vws->jE τ vws=some x->dJ (FA F S) w τ .shr none' vs x
 | .unit,[],[],x,_,h=>rfl
 | .prod A B,v::vs,vw::vws,x,⟨hv,hvs⟩,h=>by
  simp only[jE]at h;split at h
  ·rename_i y z h1 h2
   simp only[Option.some.injEq]at h;subst h;exact⟨v,vs,none',none',rfl,fun _ h=>h,fun _ h=>h,fun _ h=>h.elim,pZ hi hv h1,rE hi hvs h2⟩
  ·cases h
 | .prod _ _,[],[],_,_,h=>by simp[jE]at h
 | .prod _ _,[],_::_,_,h,_=>h.elim
 | .prod _ _,_::_,[],_,h,_=>h.elim
 | .unit,[],_::_,_,h,_=>h.elim
 | .unit,_::_,[],_,h,_=>h.elim
 | .unit,_::_,_::_,_,_,h=>by simp[jE]at h
 | .int _,_,_,_,_,h=>by simp[jE]at h
 | .bool,_,_,_,_,h=>by simp[jE]at h
 | .str,_,_,_,_,h=>by simp[jE]at h
 | .abs _,_,_,_,_,h=>by simp[jE]at h
 | .slice _,_,_,_,_,h=>by simp[jE]at h
 | .arr _ _,_,_,_,_,h=>by simp[jE]at h

theorem aJ.post{F:aA}(hi:aJ P N w0 F0 none' env a w F S){multi:Bool}{τ:Ty}{m:Md}{v:Value}{x:τ.den}{F' Sd:aA}
  (hF:Sub F F') (hF':∀b,F' b->F b∨∃t,S t b) (hS:∀b,Sd b->(∃t,S t b)/\¬F' b) (h:RetV F' w multi τ m Sd v x):
  mZ F0 w0 multi τ m x (.returned v) w:=by
 have hnew:∀b,(∃t,S t b)->w0.heap.size<=b/\b<w.heap.size:=by
  rintro b ⟨t,hb⟩
  obtain⟨h1,h2,_⟩:=hi.sb t b hb;exact⟨h1.elim id (fun h=>h.elim),h2⟩
 refine⟨v,F',Sd,rfl,?_,fun b hb=>hF b (hi.f0 b hb),?_,?_,?_,h⟩
 ·exact⟨hi.os,hi.tape,hi.output,hi.size,fun k hk=>hi.block k hk (fun h=>h)⟩
 ·intro b h1 h2
  rcases hF' b h1 with h|h
  ·exact(hi.fn b h h2).elim id (fun h=>h.elim)
  ·exact(hnew b h).1
 ·intro b h
  rcases h with h|h
  ·rcases hF' b h with h|h
   ·exact hi.fb b h
   ·exact(hnew b h).2
  ·exact(hnew b (hS b h).1).2
 ·intro b h
  exact⟨(hnew b (hS b h).1).1,(hS b h).2⟩


theorem cX{fn:Func}{vs:List Value}(h:(fn.results.toList.mapM (oS a)).run P w= .ok vs w):
  (results fn a.tmps).run P w= .ok (if h:vs.toArray.size=1 then vs.toArray[0]else .tuple vs.toArray) w:=by
 have e:results fn a.tmps=(fn.results.mapM (oS a))>>=fun vs=>pure (if h:vs.size=1 then vs[0]else .tuple vs):=by
  unfold results
  congr 1
 rw[e,Array.mapM_eq_mapM_toList]
 simp only[map_eq_pure_bind,Sem.run_bind,h,Result.andThen,Sem.run_pure]

theorem xD(hC:aG P C)(hi:aJ P N w0 F0 H env a w F S){T:TypeId}{t:Nat}{τ:Ty}{x:τ.den}(h:pI env T C t τ=some x):
  ∃v,(oS a (.cell t T)).run P w= .ok v w/\aT (FA F S) w τ .shr none' v x:=by
 unfold pI at h
 split at h
 ·rename_i σ m z he
  cases hT:decide (look C.tys T=some τ)
  ·rw[hT]at h;cases h
  rw[hT]at h;simp only[cond_true]at h;have hT':=of_decide_eq_true hT;have:=aV h;injection this with e1 e2;subst e1;cases e2;have h1:=hi.ent t;rw[he]at h1;obtain⟨pl,S0,cs,h1⟩:=h1;obtain⟨_,_,b,rfl,rfl,hv,hb⟩:=h1.box_inj;obtain⟨q1,q2,row,T0,q3,q4,q5⟩:=h1.2.1;have hl:=(hC.types T _ hT').loadVar q3 q4;rw[q5]at hl;refine⟨bH σ cs,by simp only[oS,hv,asAddr,Sem.run_bind,Sem.run_pure,Result.andThen,hl],?_⟩
  have hO:aT F w σ m (fun k=>S t k/\k≠b) (bH σ cs) z:=⟨cs,rfl,h1.2.2⟩
  exact hO.freeze (fun k hk=>hk.imp id fun hk=>⟨t,hk.1⟩)
 ·cases h
theorem kX(hC:aG P C)(hi:aJ P N w0 F0 H env a w F S):∀ {τ:Ty} {rs:List ResultVar} {x:τ.den},gM C env τ rs=some x->
  ∃vs,(rs.mapM (oS a)).run P w= .ok vs w/\vs.length=rs.length/\dJ (FA F S) w τ .shr none' vs x
 | .unit,[],x,h=>⟨[],by simp[Sem.run_pure],rfl,rfl⟩
 | .prod A B,.tmp t::rs,x,h=>by
  simp only[gM]at h;split at h
  ·rename_i y z h1 h2
   simp only[Option.some.injEq]at h;subst h;obtain⟨vs,k1,k2,k3⟩:=kX hC hi h2;refine⟨a.tmps.getD t undef::vs,?_,by simp[k2],_,vs,none',none',rfl,fun _ h=>h,fun _ h=>h,fun _ h=>h.elim,pZ hi (aX hi (.tmp t)) h1,k3⟩
   rw[List.mapM_cons];simp only[oS,Sem.run_bind,Sem.run_pure,Result.andThen];rw[k1]
  ·cases h
 | .prod A B,.cell t T::rs,x,h=>by
  simp only[gM]at h;split at h
  ·rename_i y z h1 h2
   simp only[Option.some.injEq]at h;subst h;obtain⟨vs,k1,k2,k3⟩:=kX hC hi h2;obtain⟨v,q1,q2⟩:=xD hC hi h1;refine⟨v::vs,?_,by simp[k2],_,vs,none',none',rfl,fun _ h=>h,fun _ h=>h,fun _ h=>h.elim,q2,k3⟩
   rw[List.mapM_cons];simp only[Sem.run_bind,Result.andThen,q1,k1,Sem.run_pure]
  ·cases h
 | .unit,_::_,_,h=>by simp[gM]at h
 | .prod _ _,[],_,h=>by simp[gM]at h
 | .int _,_,_,h=>by simp[gM]at h
 | .bool,_,_,h=>by simp[gM]at h
 | .str,_,_,h=>by simp[gM]at h
 | .abs _,_,_,h=>by simp[gM]at h
 | .slice _,_,_,h=>by simp[gM]at h
 | .arr _ _,_,_,h=>by simp[gM]at h

theorem kE(hC:aG P C){s:bD}{fn:Func}{y:s.res.den}(h:jU C fn.results.toList s y env){a:Act}{w:World}(hi:Inv P N w0 F0 none' env a w):
  ∃v,(results fn a.tmps).run P w= .ok v w/\mZ F0 w0 s.multi s.res s.mode y (.returned v) w:=by
 unfold jU at h
 generalize hret:retE C fn.results.toList s env=g at h
 cases g with
 |none=>cases h
 |some x=>
  simp only[]at h;subst h;obtain⟨F,S,hi⟩:=hi;have hFA:∀ {m:Md} {v:Value},dO m=true->aT (FA F S) w s.res .shr none' v x->s.multi=false->m=s.mode->mZ F0 w0 s.multi s.res s.mode x (.returned v) w:=by
   intro m v hm hv hmu hms;subst hms;have hm':s.mode= .shr:=by cases hmm:s.mode<;>first|rfl|(rw[hmm]at hm;cases hm)
   refine hi.post (F':=FA F S) (Sd:=none') (fun b hb=> .inl hb) (fun b hb=>hb) (fun b hb=>hb.elim) ?_
   rw[hmu,hm'];exact hv
  unfold retE at hret;split at hret
  ·rename_i t hrs hmu
   have hrun:=cX (P:=P) (w:=w) (a:=a) (fn:=fn) (vs:=[a.tmps.getD t undef]) (by rw[hrs];simp[oS,Sem.run_bind,Sem.run_pure,Result.andThen])
   refine⟨_,hrun,?_⟩
   simp only[List.size_toArray,List.length_cons,List.length_nil,Nat.zero_add,dite_true];show mZ F0 w0 s.multi s.res s.mode x (.returned (a.tmps.getD t undef)) w;have hv:=aX hi (.tmp t);split at hret
   ·rename_i z l hz
    simp only[Option.some.injEq]at hret;subst hret;rcases lX hi hv hz with⟨rfl,h⟩|⟨u,rfl,h⟩
    ·refine hi.post (F':=F) (Sd:=none') (fun b hb=>hb) (fun b hb=> .inl hb) (fun b hb=>hb.elim) ?_
     rw[hmu];exact h
    ·refine hi.post (F':=F) (Sd:=S u) (fun b hb=>hb) (fun b hb=> .inl hb) (fun b hb=>⟨⟨u,hb⟩,(hi.sb u b hb).2.2⟩) ?_
     rw[hmu];exact h
   ·cases hm:dO s.mode
    ·rw[hm]at hret;cases hret
    ·rw[hm]at hret
     simp only[cond_true]at hret;exact hFA hm (pZ hi hv hret) hmu rfl
  ·rename_i t T hrs hmu
   cases hm:(s.res.flat||dO s.mode)
   ·rw[hm]at hret
    simp only[cond_false]at hret;unfold y5 at hret;split at hret
    ·rename_i σ m z he
     cases hT:(decide (look C.tys T=some s.res)&&decide (m=s.mode))
     ·rw[hT]at hret;cases hret
     rw[hT]at hret;simp only[cond_true]at hret;simp only[Bool.and_eq_true,decide_eq_true_eq]at hT;obtain⟨hT',hmd⟩:=hT;have:=aV hret;injection this with e1 e2;subst e1;cases e2;have h1:=hi.ent t;rw[he]at h1;obtain⟨pl,S0,cs,h1⟩:=h1;obtain⟨_,_,b,rfl,rfl,hv,hb⟩:=h1.box_inj;obtain⟨q1,q2,row,T0,q3,q4,q5⟩:=h1.2.1;have hl:=(hC.types T _ hT').loadVar q3 q4;rw[q5]at hl;have hrun:=cX (P:=P) (w:=w) (a:=a) (fn:=fn) (vs:=[bH s.res cs]) (by
      rw[hrs];simp only[List.mapM_cons,List.mapM_nil,oS,hv,asAddr,Sem.run_bind,Sem.run_pure,Result.andThen,hl])
     refine⟨_,hrun,?_⟩
     simp only[List.size_toArray,List.length_cons,List.length_nil,Nat.zero_add,dite_true];show mZ F0 w0 s.multi s.res s.mode _ (.returned (bH s.res cs)) w;refine hi.post (F':=F) (Sd:=fun k=>S t k/\k≠b) (fun b hb=>hb) (fun b hb=> .inl hb) (fun k hk=>⟨⟨t,hk.1⟩,(hi.sb t k hk.1).2.2⟩) ?_
     rw[hmu];show aT F w s.res s.mode _ _ _;rw[<-hmd];exact⟨cs,rfl,h1.2.2⟩
    ·cases hret
   rw[hm]at hret;simp only[cond_true]at hret;unfold pI at hret;split at hret
   ·rename_i σ m z he
    cases hT:decide (look C.tys T=some s.res)
    ·rw[hT]at hret;cases hret
    rw[hT]at hret;simp only[cond_true]at hret;have hT':=of_decide_eq_true hT;have:=aV hret;injection this with e1 e2;subst e1;cases e2;have h1:=hi.ent t;rw[he]at h1;obtain⟨pl,S0,cs,h1⟩:=h1;obtain⟨_,_,b,rfl,rfl,hv,hb⟩:=h1.box_inj;obtain⟨q1,q2,row,T0,q3,q4,q5⟩:=h1.2.1;have hl:=(hC.types T _ hT').loadVar q3 q4;rw[q5]at hl;have hrun:=cX (P:=P) (w:=w) (a:=a) (fn:=fn) (vs:=[bH s.res cs]) (by
     rw[hrs];simp only[List.mapM_cons,List.mapM_nil,oS,hv,asAddr,Sem.run_bind,Sem.run_pure,Result.andThen,hl])
    refine⟨_,hrun,?_⟩
    simp only[List.size_toArray,List.length_cons,List.length_nil,Nat.zero_add,dite_true];show mZ F0 w0 s.multi s.res s.mode _ (.returned (bH s.res cs)) w;have hO:aT F w s.res m (fun k=>S t k/\k≠b) (bH s.res cs) _:=⟨cs,rfl,h1.2.2⟩
    simp only[Bool.or_eq_true]at hm;rcases hm with hm|hm
    ·refine hi.post (F':=F) (Sd:=none') (fun b hb=>hb) (fun b hb=> .inl hb) (fun b hb=>hb.elim) ?_
     rw[hmu];exact aT.flat hm hO
    ·exact hFA hm (hO.freeze (fun k hk=>hk.imp id fun hk=>⟨t,hk.1⟩)) hmu rfl
   ·cases hret
  ·rename_i hmu
   cases hl:Nat.beq fn.results.toList.length 1
   ·rw[hl]at hret
    simp only[cond_false]at hret;split at hret
    ·rename_i vws hvs
     obtain⟨vs,k1,k2,k3⟩:=qS hi hvs;have hrun:=cX (P:=P) (w:=w) (a:=a) (fn:=fn) (vs:=vs) k2;have hne:¬vs.toArray.size=1:=by
      intro h;simp only[List.size_toArray]at h;rw[k3]at h;rw[aY.2 h]at hl;cases hl
     rw[dif_neg hne]at hrun;refine⟨_,hrun,?_⟩;split at hret
     ·rename_i z l hz
      cases hn:bQ l
      ·rw[hn]at hret;cases hret
      rw[hn]at hret;simp only[cond_true,Option.some.injEq]at hret;subst hret;refine hi.post (F':=F) (Sd:=SL S l) (fun b hb=>hb) (fun b hb=> .inl hb) (fun b ⟨u,_,hb⟩=>⟨⟨u,hb⟩,(hi.sb u b hb).2.2⟩) ?_
      rw[hmu];exact⟨vs,rfl,uI hi k1 hz hn⟩
     ·cases hm:dO s.mode
      ·rw[hm]at hret;cases hret
      ·rw[hm]at hret
       simp only[cond_true]at hret;have hm':s.mode= .shr:=by cases hmm:s.mode<;>first|rfl|(rw[hmm]at hm;cases hm)
       refine hi.post (F':=FA F S) (Sd:=none') (fun b hb=> .inl hb) (fun b hb=>hb) (fun b hb=>hb.elim) ?_
       rw[hmu,hm'];exact⟨vs,rfl,rE hi k1 hret⟩
    ·cases hm:dO s.mode
     ·rw[hm]at hret;cases hret
     ·rw[hm]at hret
      simp only[cond_true]at hret;obtain⟨vs,k1,k3,k4⟩:=kX hC hi hret;have hrun:=cX (P:=P) (w:=w) (a:=a) (fn:=fn) (vs:=vs) k1;have hne:¬vs.toArray.size=1:=by
       intro h;simp only[List.size_toArray]at h;rw[k3]at h;rw[aY.2 h]at hl;cases hl
      rw[dif_neg hne]at hrun;refine⟨_,hrun,?_⟩;have hm':s.mode= .shr:=by cases hmm:s.mode<;>first|rfl|(rw[hmm]at hm;cases hm)
      refine hi.post (F':=FA F S) (Sd:=none') (fun b hb=> .inl hb) (fun b hb=>hb) (fun b hb=>hb.elim) ?_
      rw[hmu,hm'];exact⟨vs,rfl,k4⟩
   ·rw[hl]at hret;cases hret
  ·cases hret

theorem cD.len:∀ {ks:List AK} {vs:List Value} {x:aH ks},cD P F w ks vs x->vs.length=ks.length
 | [],vs,_,h=>by
  have h:vs=[]:=h
  subst h;rfl
 |k::ks,vs,x,h=>by
  obtain⟨v,r,rfl,_,h2⟩:=h;simp[cD.len h2]

theorem FOk.intro(hC:aG P C){stp:St->Oper->Option (Prop×St)}(hstp:dM P C stp){f:FuncId}{s:bD}{fn:Func}(hdef:fV P f)(hf:P.funcs[f]? =some fn)(hN:C.np=⟨fn.ntmps,none,0,s.glb,[]⟩)
  (hlen:Nat.ble s.args.length fn.ntmps=true) (L:aH s.args->List aW) (h:eR C stp s L fn):FOk P f s:=by
 refine⟨hdef,?_⟩
 intro w F vs xs hG hF ha hp
 unfold eR at h
 split at h
 ·rename_i c hb
  have hl:=cD.len ha
  have hlen':s.args.length<=fn.ntmps:=Nat.le_of_ble_eq_true hlen
  have hst:=aJ.start (P:=P) (N:=C.np) (by rw[hN];exact hG) hF ha (by rw[hN];show vs.length<=fn.ntmps;omega) (by rw[hN]) (by rw[hN])
  refine calls_of_wp hf hb ?_
  rw[show C.np.n=fn.ntmps by rw[hN]]at hst
  refine cT hC hstp c (h xs hp (d4 ha)) ⟨F,_,by simpa using hst⟩ ?_ (fun _ _ _ _ h=>h.elim) ?_
  ·intro st a w' hq hi
   obtain⟨v,h1,h2⟩:=kE hC hq hi;obtain⟨_,_,hi⟩:=hi;exact⟨hi.defers,v,h1,h2⟩
  ·intro st a w' hq hi
   obtain⟨v,h1,h2⟩:=kE hC hq hi;obtain⟨_,_,hi⟩:=hi;exact⟨hi.defers,v,h1,h2⟩
 ·cases h
end
end Go.Lf
namespace Go.Lf

structure Taken where
 τ:Ty
 m:Md
 x:τ.den
 t:Nat

def takeE(v:aP):Option Taken:=
 match v.e with
 | .own τ m x=>match v.s with
  |some t=>some ⟨τ,m,x,t⟩
  |none=>none
 | .pend r _ e me x=>some ⟨.slice e,.own me,x,r⟩
 | .sub r []=>match v.r with
  | .own τ m x=>some ⟨τ,m,x,r⟩
  |_=>none
 |_=>none

def isSub:Ent->Bool
 | .sub _ _=>true
 |_=>false

def ownA(C:Ctx)(d:Nat)(st:St)(v:aP):Option (Prop×St):=
 bif isSub v.e&&isNone (look C.mds d)then none else match takeE v with
 |some k=>some (True,put (drop st k.t) d (mkE C d k.τ k.m k.x))
 |none=>none

def lV(C:Ctx)(st:St)(o:Oper):Option (Prop×St):=
 match o.dst,opE C o (bR st)with
 |some d,some (c,e,l)=>some (c,put (dropAll st l) d e)
 |_,_=>none

def appC(C:Ctx)(st:St)(o:Oper)(q:Call):Option (Prop×St):=
 match q.callee,q.args.toList,q.argTypes.toList,o.dst with
 | .builtin .append,[x,y],[T,T2],some d=>bif wrB C d then appE C d st T T2 (bR st x) (bR st y)else none
 |_,_,_,_=>none

def mvT(C:Ctx)(st:St)(o:Oper)(x:Operand):Option (Prop×St):=
 match x,o.dst with
 | .tmp t,some d=>match st t with
  | .tup τ m x=>bif wrB C d then some (True,put (drop st t) d (.tup τ m x))else none
  |_=>none
 |_,_=>none

def stp(C:Ctx)(st:St)(o:Oper):Option (Prop×St):=
 match o.op with
 | .move x=>match mvT C st o x with
  |some r=>some r
  |none=>lV C st o
 | .store T x v=>bif isNone o.dst then storeE C st T (bR st x) (bR st v)else none
 | .assign x=>match o.dst with
  |some d=>match(bif wrB C d then ownA C d st (bR st x)else none)with
   |some r=>some r
   |none=>lV C st o
  |none=>none
 | .panic _=>some (False,st)
 | .call q=>match appC C st o q with
  |some r=>some r
  |none=>lV C st o
 |_=>lV C st o

section
variable {P:Program} {C:Ctx} {N:NP} {w0:World} {F0 H:aA} {env:St} {a:Act} {w:World} {F:aA} {S:Nat->aA} {d:Nat}

theorem pend_ok(hi:aJ P N w0 F0 H env a w F S){v:Value}{vw:aP}(hv:aU P F w env (fun t=>a.tmps.getD t undef) S v vw){r:Nat}{p:cM}{e:Ty}{me:Md}{x:List e.den}(he:vw.e= .pend r p e me x):
  ∃τ m z pl S0 cs y pl' S' Sp,fH F w (S r) (a.tmps.getD r undef) (env r) τ m z pl S0 cs/\sD F w τ m S0 pl z p (.slice e) (.own me) pl' S'/\
   bI p τ m=some (.own me)/\inR p τ z/\aN p τ z=some ⟨.slice e,y⟩/\aT F w (.slice e) (.own me) Sp v x/\Sub Sp (S r)/\(∀k,Sp k->¬(S0 k/\¬S' k)/\¬pl.isB k):=by
 have h1:=hv.ent (by rw[he];rfl) (r+1) (by rw[he];simp[Ent.root])
 rw[he]at h1
 simp only[aF,if_true]at h1
 obtain⟨τ0,m0,x0,pl,S0,cs,y,pl',S',Sp,cp,g1,g2,g3,g4,g5,g6,g7,g8,g9⟩:=h1
 simp only[show ¬(r=r+1)from by omega,if_false]at g1
 exact⟨τ0,m0,x0,pl,S0,cs,y,pl',S',Sp,g1,g2,g3,g4,g5,⟨cp,g6,g7⟩,g8,g9⟩

theorem takeE_ok(hi:aJ P N w0 F0 H env a w F S){v:Value}{vw:aP}(hv:aU P F w env (fun t=>a.tmps.getD t undef) S v vw){k:Taken}(h:takeE vw=some k):
  ∃Sd,Sub Sd (S k.t)/\aT F w k.τ k.m Sd v k.x:=by
 unfold takeE at h
 split at h
 ·rename_i τ m x he
  split at h
  ·rename_i t hs
   simp only[Option.some.injEq]at h;subst h;obtain⟨t',g1,g2,rfl⟩:=hv.own (by rw[he];rfl);rw[hs]at g1;injection g1 with g1;subst g1;have h3:=hi.ent t;rw[g2,he]at h3;obtain⟨pl,S0,cs,h3⟩:=h3;obtain⟨_,_,e3,e4,e5⟩:=h3.own_inj;subst e4;exact⟨_,fun _ h=>h,cs,e5,h3.2.2⟩
  ·cases h
 ·rename_i r p e me x he
  simp only[Option.some.injEq]at h;subst h;obtain⟨τ,m,z,pl,S0,cs,y,pl',S',Sp,g1,g2,g3,g4,g5,g6,g7,g8⟩:=pend_ok hi hv he;exact⟨Sp,g7,g6⟩
 ·rename_i r he
  split at h
  ·rename_i τ m x hr
   simp only[Option.some.injEq]at h;subst h;have h2:=hv.ent (by rw[he];rfl) (r+1) (by rw[he];simp[Ent.root]);rw[he]at h2;simp only[aF,if_true]at h2;obtain⟨τ0,m0,x0,pl,S0,cs,σ',μ,pl',cs',g1,g2,g3,g4,g5,g6,g7⟩:=h2;simp only[show ¬(r=r+1)from by omega,if_false]at g1
   have hroot:=hv.root
   rw[he]at hroot;simp only[mQ,Ent.root]at hroot;rw[<-hroot,hr]at g1;obtain⟨e1,e2,e3,e4,e5⟩:=g1.own_inj;injection e1 with e6 e7;subst e6;cases e7;subst e2;subst e3;subst e4;simp only[loc,Option.some.injEq,Prod.mk.injEq]at g2;obtain⟨rfl,rfl⟩:=g2;simp only[aK.read,Option.some.injEq]at g3;subst g3;exact⟨_,fun _ h=>h,cs,g4,g1.2.2⟩
  ·cases h
 ·cases h

theorem aJ.takeOver(hi:aJ P N w0 F0 H env a w F S){t:Nat}{τ:Ty}{m:Md}{x:τ.den}{v:Value}{Sd:aA}(hd:Wr N d)(hs:Sub Sd (S t))(hv:aT F w τ m Sd v x):
  ∃F2 S2,aJ P N w0 F0 H (Go.Lf.put (Go.Lf.drop env t) d (mkE C d τ m x)) (a.put (some d) v) w F2 S2:=by
 refine(hi.drop t).putNew hd (RowKit.Below.refl _ _) (fun _ h=>h) hi.fb (fun b h1 h2=>absurd h1 h2) ?_ hv
 intro b hb
 obtain⟨h1,h2,h3⟩:=hi.sb t b (hs b hb)
 refine⟨h1,h2,h3,fun u hu=> ?_⟩
 by_cases h:u=t
 ·simp[h]at hu;exact hu
 ·simp only[h,if_false]at hu
  exact hi.sd u t h b hu (hs b hb)

theorem ownA_ok(hi:aJ P C.np w0 F0 H env a w F S)(hd:Wr C.np d){v:Value}{vw:aP}(hv:aU P F w env (fun t=>a.tmps.getD t undef) S v vw){c:Prop}{st':St}(h:ownA C d env vw=some (c,st')):
  Inv P C.np w0 F0 H st' (a.put (some d) v) w:=by
 unfold ownA at h
 cases hb:(isSub vw.e&&isNone (look C.mds d))
 ·rw[hb]at h
  simp only[cond_false]at h;split at h
  ·rename_i k hk
   simp only[Option.some.injEq,Prod.mk.injEq]at h;obtain⟨_,rfl⟩:=h;obtain⟨Sd,g1,g2⟩:=takeE_ok hi hv hk;exact hi.takeOver hd g1 g2
  ·cases h
 ·rw[hb]at h;cases h

theorem valS_ok(hi:aJ P N w0 F0 H env a w F S){v:Value}{vw:aP}(hv:aU P F w env (fun t=>a.tmps.getD t undef) S v vw){σ:Ty}{μ μ':Md}{l:Al}{y:σ.den}{u:List Nat}
  (h:valS σ μ l vw=some (y,μ',u,false)):(u=[]/\aT F w σ μ' none' v y)∨∃t,u=[t]/\aT F w σ μ' (S t) v y:=by
 have hsh:∀ {y:σ.den},vw.shrAs σ=some y->aT F w σ (bif σ.flat then μ else .shr) none' v y:=by
  intro y hy;have:=fN hi hv hy;cases hf:σ.flat
  ·exact this
  ·exact aT.flat hf this
 unfold valS at h
 split at h
 ·rename_i he
  split at h
  ·rename_i z hz
   simp only[Option.some.injEq,Prod.mk.injEq]at h;obtain⟨rfl,rfl,rfl,_⟩:=h;have:=iC (e:=σ) (m:=μ) (x:=z) (l:=[]) hi hv (by unfold aP.ownAs;rw[he];simp[hz]);rcases this with⟨_,h⟩|⟨t,h,_⟩
   ·exact .inl ⟨rfl,h⟩
   ·cases h
  ·split at h
   ·rename_i z hz
    simp only[Option.some.injEq,Prod.mk.injEq]at h;obtain⟨rfl,rfl,rfl,_⟩:=h;exact .inl ⟨rfl,fN hi hv (by unfold aP.shrAs;rw[he];exact hz)⟩
   ·cases h
 ·split at h
  ·rename_i z u' hz
   simp only[Option.some.injEq,Prod.mk.injEq]at h;obtain⟨rfl,rfl,rfl,_⟩:=h;exact iC hi hv hz
  ·cases h
 ·rename_i r he
  split at h
  ·split at h
   ·rename_i z hz
    simp only[Option.some.injEq,Prod.mk.injEq]at h;obtain⟨rfl,rfl,rfl,_⟩:=h;have hfl:σ.flat=true:=by
     unfold aP.shrAs at hz;rw[he]at hz;simp only[]at hz;cases hf:σ.flat
     ·rw[hf]at hz;cases hz
     ·rfl
    exact .inl ⟨rfl,aT.flat hfl (fN hi hv hz)⟩
   ·split at h
    ·rename_i z u' hz
     simp only[Option.some.injEq,Prod.mk.injEq]at h;obtain⟨rfl,rfl,rfl,_⟩:=h;exact lX hi hv hz
    ·cases h
  ·split at h
   ·rename_i z hz
    simp only[Option.some.injEq,Prod.mk.injEq]at h;obtain⟨rfl,rfl,rfl,_⟩:=h;have hfl:σ.flat=true:=by
     unfold aP.shrAs at hz;rw[he]at hz;simp only[]at hz;cases hf:σ.flat
     ·rw[hf]at hz;cases hz
     ·rfl
    exact .inl ⟨rfl,aT.flat hfl (fN hi hv hz)⟩
   ·split at h
    ·rename_i z u' hz
     simp only[Option.some.injEq,Prod.mk.injEq]at h;obtain⟨rfl,rfl,rfl,_⟩:=h;exact lX hi hv hz
    ·cases h
  ·split at h
   ·rename_i z hz
    simp only[Option.some.injEq,Prod.mk.injEq]at h;obtain⟨rfl,rfl,rfl,_⟩:=h;exact .inl ⟨rfl,hsh hz⟩
   ·cases h
 ·rename_i r p e me x he
  cases hb:(Nat.beq r l.r&&decide (μ= .own me))
  ·rw[hb]at h;cases h
  ·rw[hb]at h
   simp only[cond_true]at h;split at h
   ·simp only[Option.some.injEq,Prod.mk.injEq]at h
    obtain⟨_,_,_,h⟩:=h;cases h
   ·cases h
 ·split at h
  ·rename_i z hz
   simp only[Option.some.injEq,Prod.mk.injEq]at h;obtain⟨rfl,rfl,rfl,_⟩:=h;exact .inl ⟨rfl,hsh hz⟩
  ·cases h

theorem wD{vw:aP}{σ:Ty}{μ μ':Md}{l:Al}{y:σ.den}{u:List Nat}(h:valS σ μ l vw=some (y,μ',u,true)):
  ∃p e me x,vw.e= .pend l.r p e me x/\μ= .own me/\μ'=μ/\u=[]/\(⟨.slice e,x⟩:Σ τ:Ty,τ.den)=⟨σ,y⟩:=by
 unfold valS at h
 split at h
 ·split at h
  ·simp only[Option.some.injEq,Prod.mk.injEq]at h;obtain⟨_,_,_,h⟩:=h;cases h
  ·split at h
   ·simp only[Option.some.injEq,Prod.mk.injEq]at h;obtain⟨_,_,_,h⟩:=h;cases h
   ·cases h
 ·split at h
  ·simp only[Option.some.injEq,Prod.mk.injEq]at h;obtain⟨_,_,_,h⟩:=h;cases h
  ·cases h
 ·split at h
  ·split at h
   ·simp only[Option.some.injEq,Prod.mk.injEq]at h;obtain⟨_,_,_,h⟩:=h;cases h
   ·split at h
    ·simp only[Option.some.injEq,Prod.mk.injEq]at h;obtain⟨_,_,_,h⟩:=h;cases h
    ·cases h
  ·split at h
   ·simp only[Option.some.injEq,Prod.mk.injEq]at h;obtain⟨_,_,_,h⟩:=h;cases h
   ·split at h
    ·simp only[Option.some.injEq,Prod.mk.injEq]at h;obtain⟨_,_,_,h⟩:=h;cases h
    ·cases h
  ·split at h
   ·simp only[Option.some.injEq,Prod.mk.injEq]at h;obtain⟨_,_,_,h⟩:=h;cases h
   ·cases h
 ·rename_i r p e me x he
  cases hb:(Nat.beq r l.r&&decide (μ= .own me))
  ·rw[hb]at h;cases h
  ·rw[hb]at h
   simp only[cond_true]at h;simp only[Bool.and_eq_true,aY,decide_eq_true_eq]at hb;obtain⟨h1,h3⟩:=hb;split at h
   ·rename_i z hz
    simp only[Option.some.injEq,Prod.mk.injEq]at h;obtain⟨rfl,rfl,rfl,_⟩:=h;exact⟨p,e,me,x,by rw[he,h1],h3,rfl,rfl,aV hz⟩
   ·cases h
 ·split at h
  ·simp only[Option.some.injEq,Prod.mk.injEq]at h;obtain⟨_,_,_,h⟩:=h;cases h
  ·cases h

theorem storeE_ok(hC:aG P C)(hi:aJ P N w0 F0 H env a w F S){T:TypeId}{x z:Operand}{o:Oper}(ho:o.op= .store T x z)(hod:o.dst=none){vx vz:aP}
  (hx:aU P F w env (fun t=>a.tmps.getD t undef) S (a.eval x) vx) (hz:aU P F w env (fun t=>a.tmps.getD t undef) S (a.eval z) vz)
  {c:Prop} {st':St} (h:storeE C env T vx vz=some (c,st')) (hc:c) {K:Act->World->Prop} {Q:Exit->Act->World->Prop} (hK:∀a' w',Inv P N w0 F0 H st' a' w'->K a' w'):o.wp P a w K Q:=by
 unfold storeE at h
 split at h
 ·rename_i l hl
  obtain⟨σ,y0,μ,pl,S0,cs,b,off,hA,hv⟩:=gK hi hx hl;rw[hA.get,hA.mode]at h;simp only[]at h;cases hT:decide (look C.tys T=some σ)
  ·rw[hT]at h;cases h
  have hT':=of_decide_eq_true hT
  rw[hT]at h;simp only[cond_true]at h;split at h
  ·rename_i y μ' used isP hvs
   split at h
   ·rename_i x' m' hset hmode
    cases hn:bQ (l.r::used)
    ·rw[hn]at h;cases h
    rw[hn]at h;simp only[cond_true,Option.some.injEq,Prod.mk.injEq]at h;obtain⟨rfl,rfl⟩:=h;have hm:μ'=μ/\m'=l.m∨gC l.p l.τ l.m μ'=some m':=by
     unfold modeS at hmode;cases hd:decide (μ'=μ)
     ·rw[hd]at hmode;exact .inr hmode
     ·rw[hd]at hmode
      simp only[cond_true,Option.some.injEq]at hmode;exact .inl ⟨of_decide_eq_true hd,hmode.symm⟩
    obtain⟨cs2,S',f⟩:=hA.focus (fun b hb=>(hi.sb _ b hb).2.2)
    obtain⟨q1,q2,row,T0,q3,q4,q5⟩:=f.ok;have fin:∀w',(storeVar T ⟨b,off,none⟩ (a.eval z)).run P w= .ok () w'->(execOp a.eval o).run P w= .ok .skip w':=by
     intro w' hw';simp[execOp,ho,Instr.storeAt,hv,Instr.sureAddr,hw']
    cases hfl:flatS σ μ μ' used with
    |true=>
     rw[hfl]at hK;simp only[cond_true]at hK;unfold flatS at hfl;simp only[Bool.and_eq_true,decide_eq_true_eq,List.isEmpty_iff]at hfl;obtain⟨⟨hs,rfl⟩,rfl⟩:=hfl;have hm':m'=l.m:=by
      unfold modeS at hmode;rw[decide_eq_true rfl]at hmode;simp only[cond_true,Option.some.injEq]at hmode;exact hmode.symm
     subst hm';cases isP with
     |true=>
      obtain⟨pp,e,me,xs,he,h1,h2,h3,h4⟩:=wD hvs;injection h4 with h5 _;subst h5;cases hs
     |false=>
      have hval:=valS_ok hi hz hvs
      have hown:∃S1,aT F w σ μ' S1 (a.eval z) y:=by
       rcases hval with⟨_,h⟩|⟨t,h0,h⟩
       ·exact⟨none',h⟩
       ·cases h0
      obtain⟨S1,k2⟩:=hown;obtain⟨w',g1,g2⟩:=o6 hC hi hT' hA.root f hs k2 hset;unfold Oper.wp;rw[fin w' g1,Oper.upon_skip,hod];exact hK a w' g2
    |false=>
    rw[hfl]at hK;simp only[cond_false]at hK;have goal:∀w',(storeVar T ⟨b,off,none⟩ (a.eval z)).run P w= .ok () w'->Inv P N w0 F0 H (upd (yM (dropAll env used) l.r l.p) l.r (dR (env l.r) l.τ m' x')) a w'->o.wp P a w K Q:=by
     intro w' hw' hinv;unfold Oper.wp;rw[fin w' hw',Oper.upon_skip,hod];exact hK a w' hinv
    have hbS:S l.r b:=(f.blk b rfl).elim (hA.root.sub b) hA.root.isB
    cases isP with
    |false=>
     have hval:=valS_ok hi hz hvs
     have hown:∃S1,Sub S1 (SL S used)/\aT F w σ μ' S1 (a.eval z) y:=by
      rcases hval with⟨rfl,h⟩|⟨t,rfl,h⟩
      ·exact⟨none',fun _ h=>h.elim,h⟩
      ·exact⟨S t,fun b hb=>⟨t,by simp,hb⟩,h⟩
     obtain⟨S1,k1,k2⟩:=hown;obtain⟨hnr,_⟩:=d8 hn;have hdis:∀k,S1 k->¬S l.r k:=by
      intro k hk hr;obtain⟨t,ht,hk⟩:=k1 k hk;exact hi.sd t l.r (fun e=>hnr (e▸ht)) k hk hr
     obtain⟨w',g1,g2⟩:=o7 hC hi hT' hA.root f.toPlug ⟨row,T0,q3,q4⟩ k2 hn (fun k hk=>⟨fun h=>hdis k hk (hA.root.sub k h.1),fun h=>hdis k hk (hA.root.isB h),.inr (k1 k hk),fun e=>hdis k hk (e▸hbS)⟩) hset hm hA.get hA.mode hA.inr
     exact goal w' g1 g2
    |true=>
     obtain⟨pp,e,me,xs,he,h1,h2,h3,h4⟩:=wD hvs;have hpp:pp=l.p:=by
      have:=hc
      unfold pendC at this;rw[he]at this;exact this
     subst hpp;subst h2;subst h3;obtain⟨τ,m,z0,pl2,S02,cs3,y2,pl3,S3,Sp,g1,g2,g3,g4,g5,g6,g7,g8⟩:=pend_ok hi hz he;obtain⟨e1,e2,e3,e4⟩:=g1.uniq hA.root;injection e1 with e5 e6;subst e5;cases e6;subst e2;subst e3;subst e4;injection h4 with h5 h6;subst h5;cases h6;subst h1;have hpl:pl3= .mem b off:=by
      have:=g2.loc.symm.trans hA.loc
      simp only[Option.some.injEq,Prod.mk.injEq,true_and]at this;exact this
     subst hpl;obtain⟨w',k1,k2⟩:=o7 hC hi hT' g1 g2 ⟨row,T0,q3,q4⟩ g6 hn (fun k hk=>⟨(g8 k hk).1,(g8 k hk).2,.inl (g7 k hk),fun e=>by
      subst e;have h1:=g2.out k rfl;rcases g2.blk k rfl with h|h
      ·exact(g8 k hk).1 ⟨h,h1⟩
      ·exact(g8 k hk).2 h⟩) hset hm hA.get hA.mode hA.inr
     exact goal w' k1 k2
   ·cases h
  ·cases h
 ·cases h

theorem jW(hC:aG P C)(hi:aJ P C.np w0 F0 H env a w F S){o:Oper}{c:Prop}{st':St}(h:lV C env o=some (c,st'))(hc:c){K:Act->World->Prop}{Q:Exit->Act->World->Prop}
  (hK:∀a' w',Inv P C.np w0 F0 H st' a' w'->K a' w'):o.wp P a w K Q:=by
 unfold lV at h
 split at h
 ·rename_i d c' e l hd ho
  simp only[Option.some.injEq,Prod.mk.injEq]at h;obtain⟨rfl,rfl⟩:=h;have hv:VOK P F w env a S o.op (bR env):=by
   unfold VOK;split
   ·exact⟨aX hi _,fun _ _ _=>aX hi _,fun _ _ _=>aX hi _⟩
   ·exact fun z _=>aX hi z
  obtain⟨d',h1,_,h2⟩:=opE_ok hC hi hv ho hc;rw[hd]at h1;injection h1 with h1;subst h1;exact h2 K Q (fun v w' F2 S2 h=>hK _ _ ⟨F2,S2,h⟩)
 ·cases h

theorem appC_ok(hC:aG P C)(hi:aJ P C.np w0 F0 H env a w F S){o:Oper}{q:Call}(ho:o.op= .call q){c:Prop}{st':St}(h:appC C env o q=some (c,st'))(hc:c){K:Act->World->Prop}{Q:Exit->Act->World->Prop}
  (hK:∀a' w',Inv P C.np w0 F0 H st' a' w'->K a' w'):o.wp P a w K Q:=by
 obtain⟨callee,args,ts⟩:=q
 unfold appC at h
 split at h
 ·rename_i x y T T2 d hcal hargs hts hd
  simp only[]at hcal hargs hts;cases hb:wrB C d
  ·rw[hb]at h;cases h
  rw[hb]at h;simp only[cond_true]at h;have e1:args= #[x,y]:=by apply Array.ext';simpa using hargs
  have e2:ts= #[T,T2]:=by apply Array.ext';simpa using hts
  subst e1;subst e2;subst hcal;have hx:=aX hi x;have hy:=aX hi y;unfold appE at h;split at h
  ·rename_i e e2 r p al hT hT2 he hs
   obtain⟨σ,z,μ,pl,S0,cs,pl',cs',hA,hrd,hv⟩:=kD hi hx hs;split at h
   ·rename_i e' xs' me hg hm
    split at h
    ·rename_i xs ys l hcast hsrc
     cases hn:(bQ (al.r::l)&& !Nat.beq d al.r)
     ·rw[hn]at h;cases h
     rw[hn]at h;simp only[cond_true,Option.some.injEq,Prod.mk.injEq]at h;obtain⟨rfl,rfl⟩:=h;simp only[Bool.and_eq_true,Bool.not_eq_true']at hn;have hdr:d≠al.r:=fun h=>by rw[aY.2 h]at hn;exact absurd hn.2 (by simp)
     obtain⟨rfl,rfl⟩:=dZ hcast;have e3:=hA.get.symm.trans hg;simp only[Option.some.injEq,Sigma.mk.injEq]at e3;obtain⟨rfl,e3⟩:=e3;cases e3;have e4:=hA.mode.symm.trans hm;simp only[Option.some.injEq]at e4;subst e4;obtain⟨ao2,n2,cap2,cs2,Si2,me',q2,hm2⟩:=pU hi hy hsrc;obtain⟨v,w',F2,S2,k1,k2⟩:=appE_core (ty:=o.type) hC hi (eA hb) hT hT2 hA hrd (q2.fix hm2) hn.1 hdr (by simpa using hc);unfold Oper.wp;have hrun:(execOp a.eval o).run P w= .ok (.value v) w':=by
      simp only[execOp,ho,resolve,invoke,builtin,Sem.run_bind,Sem.run_pure,Result.andThen,List.map_toArray,List.map_cons,List.map_nil];rw[hv,k1]
     rw[hrun,Oper.upon_value,hd];exact hK _ _ ⟨F2,S2,k2⟩
    ·cases h
   ·cases h
  ·cases h
 ·cases h

theorem mvT_ok(hi:aJ P C.np w0 F0 H env a w F S){o:Oper}{x:Operand}(ho:o.op= .move x){c:Prop}{env':St}(h:mvT C env o x=some (c,env')){K:Act->World->Prop}{Q:Exit->Act->World->Prop}
  (hK:∀a' w',Inv P C.np w0 F0 H env' a' w'->K a' w'):o.wp P a w K Q:=by
 unfold mvT at h
 split at h
 ·rename_i t d hd
  split at h
  ·rename_i τ m y he
   cases hb:wrB C d
   ·rw[hb]at h;cases h
   rw[hb]at h;simp only[cond_true,Option.some.injEq,Prod.mk.injEq]at h;obtain⟨_,rfl⟩:=h;have h1:=hi.ent t;rw[he]at h1;obtain⟨vs,h2,h3⟩:=h1;have hd':=eA hb;have hVd:(a.put (some d) (a.eval (.tmp t))).tmps.getD d undef=a.eval (.tmp t):=by rw[Act.getD_put (by rw[hi.slots.size];exact hd'.1),if_pos rfl]
   unfold Oper.wp;have hrun:(execOp a.eval o).run P w= .ok (.value (a.eval (.tmp t))) w:=by simp[execOp,ho]
   rw[hrun,Oper.upon_value,hd];refine hK _ _ ⟨F,_,(hi.drop t).put (Sd:=S t) hd' (RowKit.Below.refl _ _) (fun _ h=>h) hi.fb (fun b h1 h2=>absurd h1 h2) ?_ ?_⟩
   ·intro b hb
    obtain⟨g1,g2,g3⟩:=hi.sb t b hb;refine⟨g1,g2,g3,fun u _ hu=> ?_⟩
    by_cases h:u=t
    ·simp[h]at hu;exact hu
    ·simp only[h,if_false]at hu
     exact hi.sd u t h b hu hb
   ·simp only[aF,if_true,hVd]
    exact⟨vs,h2,h3⟩
  ·cases h
 ·cases h

theorem stp_ok(hC:aG P C):dM P C (stp C):=by
 intro w0 F0 H env env' a w o c hi h hc K Q hK
 obtain⟨F,S,hi⟩:=hi
 unfold stp at h
 split at h
 ·rename_i x hop
  split at h
  ·rename_i r hr
   simp only[Option.some.injEq]at h;subst h;exact mvT_ok hi hop hr hK
  ·exact jW hC hi h hc hK
 ·rename_i T x v hop
  cases hd:isNone o.dst
  ·rw[hd]at h;cases h
  ·rw[hd]at h
   exact storeE_ok hC hi hop (fQ.1 hd) (aX hi x) (aX hi v) h hc hK
 ·rename_i x hop
  split at h
  ·rename_i d hd
   split at h
   ·rename_i r hr
    cases hb:wrB C d
    ·rw[hb]at hr;cases hr
    ·rw[hb]at hr
     simp only[cond_true]at hr;simp only[Option.some.injEq]at h;subst h;have:=ownA_ok hi (eA hb) (aX hi x) hr;unfold Oper.wp;have hrun:(execOp a.eval o).run P w= .ok (.value (a.eval x)) w:=by simp[execOp,hop]
     rw[hrun,Oper.upon_value,hd];exact hK _ _ this
   ·exact jW hC hi h hc hK
  ·cases h
 ·simp only[Option.some.injEq,Prod.mk.injEq]at h
  obtain⟨rfl,_⟩:=h;exact hc.elim
 ·rename_i q hop
  split at h
  ·rename_i r hr
   simp only[Option.some.injEq]at h;subst h;exact appC_ok hC hi hop hr hc hK
  ·exact jW hC hi h hc hK
 ·exact jW hC hi h hc hK
end
end Go.Lf
namespace Go.Lf
open Go.ChangeShapes Go.WideShapes Go.ChangeAt Go.RowKit

section
variable {P:Program} {H:Type} {enc:TypeId×Value->H}

end
section
variable {F:aA} {w:World}
end
end Go.Lf
