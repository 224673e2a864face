/- The reference of convert: At. -/
import Derived.Test.YtagdgckmikcllaaLfn
set_option linter.unusedVariables false
set_option linter.unusedSimpArgs false
namespace Sp
def br(c:Code):Nat:=((List.range (cB c).length).filter (fun k=>decide ((trm c k).1=2))).length
theorem filter_le{l:List Nat}{p q:Nat->Bool}(h:∀k∈l,q k=true->p k=true):(l.filter q).length<=(l.filter p).length:=by
 induction l with
 |nil=>simp
 |cons a l ih=>
  have h1:=ih fun k hk=>h k (List.mem_cons_of_mem _ hk)
  have h2:=h a List.mem_cons_self
  cases hq:q a
  ·rw[List.filter_cons_of_neg (by simp[hq])]
   cases hp:p a
   ·rw[List.filter_cons_of_neg (by simp[hp])];exact h1
   ·rw[List.filter_cons_of_pos hp,List.length_cons];omega
  ·rw[List.filter_cons_of_pos hq,List.filter_cons_of_pos (h2 hq),List.length_cons,List.length_cons];omega
theorem filter_lt{l:List Nat}{p q:Nat->Bool}(h:∀k∈l,q k=true->p k=true){b:Nat}(hb:b∈l)(h1:p b=true)(h2:q b=false):(l.filter q).length<(l.filter p).length:=by
 induction l with
 |nil=>cases hb
 |cons a l ih=>
  have hr:∀k∈l,q k=true->p k=true:=fun k hk=>h k (List.mem_cons_of_mem _ hk)
  rcases List.mem_cons.1 hb with rfl|hb
  ·rw[List.filter_cons_of_neg (by simp[h2]),List.filter_cons_of_pos h1,List.length_cons]
   have:=filter_le hr;omega
  ·have h3:=ih hr hb
   have h4:=h a List.mem_cons_self
   cases hq:q a
   ·rw[List.filter_cons_of_neg (by simp[hq])]
    cases hp:p a
    ·rw[List.filter_cons_of_neg (by simp[hp])];exact h3
    ·rw[List.filter_cons_of_pos hp,List.length_cons];omega
   ·rw[List.filter_cons_of_pos hq,List.filter_cons_of_pos (h4 hq),List.length_cons,List.length_cons];omega
theorem xJ{c:Code}{b:Int}(hb:0<=b/\b<((cB c).length:Int))(k:Nat):((k:Int)=b/\trm (eX c b) k=mA (cY c b).2.1)∨((k:Int)≠b/\(trm (eX c b) k=trm c k∨trm (eX c b) k=lK.2.1)):=by
 rcases rL hb k with⟨h,q⟩|⟨h,q|q⟩
 ·left;refine⟨h,?_⟩;show((cB (eX c b)).getD k bE).2.1=_;rw[q]
 ·right;refine⟨h,.inl ?_⟩;show((cB (eX c b)).getD k bE).2.1=_;rw[q];rfl
 ·right;refine⟨h,.inr ?_⟩;show((cB (eX c b)).getD k bE).2.1=_;rw[q]
theorem br_new{c:Code}{b:Int}(hb:0<=b/\b<((cB c).length:Int))(hk:(trm c b.toNat).1=2):br (eX c b)<br c:=by
 unfold br
 rw[qE]
 refine filter_lt (b:=b.toNat) (fun k _ hq=> ?_) (List.mem_range.2 (by omega)) (by simp[hk]) ?_
 ·rcases xJ hb k with⟨_,q⟩|⟨_,q|q⟩
  ·rw[q]at hq;simp[mA]at hq
  ·rw[q]at hq;exact hq
  ·rw[q]at hq;simp[lK]at hq
 ·rcases xJ hb b.toNat with⟨_,q⟩|⟨h,_⟩
  ·rw[q];simp[mA]
  ·omega
theorem okR_at{c:Code}(h:okR c)(b:Int):okR (atC c b).1:=by
 rcases lM c b with e|⟨e,hb,hp,hr,ht⟩
 ·rw[e];exact h
 rw[e]
 show okR (eX c b)
 intro k hk
 rw[qE]at hk
 rcases xJ hb k with⟨_,q⟩|⟨_,q|q⟩
 ·rw[q];intro h;exact absurd (show(0:Int)=2 from h) (by decide)
 ·rw[q];exact h k hk
 ·rw[q];intro h;exact absurd h (by decide)
theorem br_at{c:Code}{b:Int}(h:(atC c b).2.1=true):br (atC c b).1<br c:=by
 rcases lM c b with e|⟨e,hb,hp,hr,ht⟩
 ·rw[e]at h;cases h
 rw[e]
 exact br_new hb (nL hb hp).k
theorem len_at(c:Code)(b:Int):(cB (atC c b).1).length=(cB c).length:=by
 rcases lM c b with e|⟨e,hb,hp,hr,ht⟩
 ·rw[e]
 ·rw[e];exact qE c b
theorem br_le(c:Code):br c<=(cB c).length:=by
 have:=List.length_filter_le (fun k=>decide ((trm c k).1=2)) (List.range (cB c).length)
 rw[List.length_range]at this
 exact this
structure RS(L:Nat)(s:Code×List Int):Prop where
 a:okA s.1
 r:okR s.1
 len:(cB s.1).length=L
 cnt:s.2.length+br s.1<=L
theorem stepR_ok{L:Nat}{s:Code×List Int}(h:RS L s)(u:Uni)(b:Int):RS L (dU u s b):=by
 unfold dU
 split
 ·exact h
 ·split
  ·rename_i q
   refine⟨yD h.a b,okR_at h.r b,(len_at _ _).trans h.len,?_⟩
   have:=br_at q
   have:=h.cnt
   simp only[List.length_append,List.length_cons,List.length_nil];omega
  ·exact h
theorem wG(u:Uni)(s:Code×List Int)(b:Int):s.2.length<=(dU u s b).2.length/\((dU u s b).2.length=s.2.length->dU u s b=s):=by
 unfold dU
 split
 ·exact⟨Nat.le_refl _,fun _=>rfl⟩
 ·split
  ·simp
  ·exact⟨Nat.le_refl _,fun _=>rfl⟩
theorem uE{L:Nat}{s:Code×List Int}(h:RS L s)(u:Uni):∀i,RS L (bW u s i)
 |0=>h
 |i+1=>stepR_ok (uE h u i) u _
theorem iK(u:Uni)(s:Code×List Int):∀i,s.2.length<=(bW u s i).2.length/\((bW u s i).2.length=s.2.length->bW u s i=s)
 |0=>⟨Nat.le_refl _,fun _=>rfl⟩
 |i+1=>by
  obtain⟨h1,h2⟩:=iK u s i;obtain⟨g1,g2⟩:=wG u (bW u s i) (((cB s.1).length:Int)-1-(i:Int));simp only[bW];refine⟨by omega,fun h=> ?_⟩
  have e1:=g2 (by omega)
  have e2:=h2 (by omega)
  rw[e1,e2]
theorem nN{L:Nat}{s:Code×List Int}(h:RS L s)(u:Uni):∀n,RS L (bT u s n)
 |0=>h
 |n+1=>uE (nN h u n) u _
theorem jY(u:Uni)(s:Code×List Int){n:Nat}(h:(bT u s (n+1)).2.length=(bT u s n).2.length):∀k,bT u s (n+k)=bT u s n
 |0=>rfl
 |k+1=>by
  have h1:bT u s (n+1)=bT u s n:=(iK u (bT u s n) _).2 h
  have h2:=jY u s h k
  have e:bT u s (n+(k+1))=bW u (bT u s (n+k)) (cB s.1).length:=rfl
  rw[e,h2];exact h1
theorem pD(u:Uni)(s:Code×List Int):∀n,(bT u s (n+1)).2.length≠(bT u s n).2.length->s.2.length+n+1<=(bT u s (n+1)).2.length
 |0,h=>by
  have:=(iK u s (cB s.1).length).1
  have h:(bW u s (cB s.1).length).2.length≠s.2.length:=h
  show s.2.length+0+1<=(bW u s (cB s.1).length).2.length
  omega
 |n+1,h=>by
  have h1:(bT u s (n+1)).2.length≠(bT u s n).2.length:=by
   intro e;have e1:=jY u s e 1;have e2:=jY u s e 2;rw[show n+1+1=n+2 from rfl,e2,e1]at h;exact h rfl
  have h2:=pD u s n h1
  have h3:=(iK u (bT u s (n+1)) (cB s.1).length).1
  have h:(bW u (bT u s (n+1)) (cB s.1).length).2.length≠(bT u s (n+1)).2.length:=h
  show _<=(bW u (bT u s (n+1)) (cB s.1).length).2.length
  omega
end Sp
namespace Sp
theorem nt_set{l:List Bool}:∀ {i:Nat},i<l.length->l.getD i false=false->nt (l.set i true)=nt l+1:=by
 induction l with
 |nil=>intro i h;simp at h
 |cons a l ih=>
  intro i h hf;cases i with
  |zero=>
   have:a=false:=by simpa using hf
   subst this;simp[nt]
  |succ i=>
   have:=ih (i:=i) (by simpa using h) (by simpa using hf)
   unfold nt at this⊢;cases a<;>simp[List.filter_cons]at this⊢ <;>omega
theorem nt_le(l:List Bool):nt l<=l.length:=List.length_filter_le _ _
theorem set_id{l:List Bool}{i:Nat}(h:l.getD i false=true):l.set i true=l:=by
 have hi:i<l.length:=by
  rcases Nat.lt_or_ge i l.length with g|g
  ·exact g
  ·rw[List.getD_eq_getElem?_getD,List.getElem?_eq_none g]at h;cases h
 apply sV false (by simp)
 intro j hj
 rw[kB _ _ _ _ _ hi]
 split
 ·rename_i e;subst e;exact h.symm
 ·rfl
theorem RO.start{c:Code}(h:okT c):RO c 0 ((List.replicate (cB c).length false).set 0 true):=by
 have hn:=h.ne
 refine⟨Nat.zero_le _,by simp,?_,?_,.inr ?_⟩
 ·intro b hb
  rw[kB _ _ _ _ _ (by simpa using hn)]at hb;split at hb
  ·rename_i e;subst e;exact .zero
  ·rw[nU]at hb;cases hb
 ·rw[kB _ _ _ _ _ (by simpa using hn)];simp
 ·rw[nt_set (by simpa using hn) (nU _ _)];omega
theorem RP.start{c:Code}{n:Nat}{o:List Bool}(h:RO c n o):RP c o 0 o:=
 ⟨Nat.zero_le _,h.len,h.sd,h.z,fun _=>rfl,.inl rfl,fun _ b hb=>absurd hb (by omega)⟩
theorem RQ.start{c:Code}{o:List Bool}{b:Nat}{out:List Bool}(h:RP c o b out):RQ c o b 0 out:=
 ⟨h,Nat.zero_le _,fun _ _ t ht=>by simp at ht⟩
theorem RQ.step{c:Code}(hc:okT c){o:List Bool}{b i:Nat}{out:List Bool}(h:RQ c o b i out)(hb:b<(cB c).length)(hi:i<(aR (trm c b)).length)(ho:out.getD b false=true):
  RQ c o b (i+1) (out.set ((aR (trm c b)).getD i 0).toNat true):=by
 have hm:(aR (trm c b)).getD i 0∈aR (trm c b):=by rw[gat hi];exact List.getElem_mem _
 generalize ht:(aR (trm c b)).getD i 0=t at *
 have hr:=hc.to b hb t hm
 have htl:t.toNat<out.length:=by rw[h.len];omega
 cases hx:out.getD t.toNat false
 ·have hn:=nt_set htl hx
  have hlt:nt o<nt (out.set t.toNat true):=by
   rcases h.m with e|e
   ·rw[e]at hn;rw[e];omega
   ·omega
  have hne:out.set t.toNat true≠o:=fun e=>by rw[e]at hlt;omega
  refine⟨⟨h.le,by rw[List.length_set];exact h.len,?_,?_,?_,.inr hlt,fun e=>absurd e hne⟩,hi,fun e=>absurd e hne⟩
  ·intro k hk
   rw[kB _ _ _ _ _ htl]at hk;split at hk
   ·rename_i e;subst e;exact .step (h.sd b ho) hb hm
   ·exact h.sd k hk
  ·rw[kB _ _ _ _ _ htl];split
   ·rfl
   ·exact h.z
  ·intro hcl
   exfalso
   have e:=h.a hcl
   rw[e]at ho hx;have:=hcl b hb ho t hm;rw[hx]at this;cases this
 ·rw[set_id hx]
  refine⟨h.toRP,hi,fun e hob t' ht'=> ?_⟩
  rw[jN hi,ht,List.mem_append,List.mem_singleton]at ht';rcases ht' with ht'|rfl
  ·exact h.d e hob t' ht'
  ·exact hx
theorem RQ.fin{c:Code}{o:List Bool}{b i:Nat}{out:List Bool}(h:RQ c o b i out)(hb:b<(cB c).length)(hi:(aR (trm c b)).length<=i∨out.getD b false=false):RP c o (b+1) out:=by
 refine⟨hb,h.len,h.sd,h.z,h.a,h.m,fun e b' hb' ho t ht=> ?_⟩
 by_cases hbb:b'=b
 ·subst hbb
  rcases hi with hi|hi
  ·have:=h.d e ho t
   rw[List.take_of_length_le hi]at this;exact this ht
  ·rw[hi]at ho;cases ho
 ·exact h.k e b' (by omega) ho t ht
theorem RP.fin{c:Code}{n:Nat}{o:List Bool}{b:Nat}{out:List Bool}(h0:RO c n o)(h:RP c o b out)(hb:(cB c).length<=b)(hn:n<(cB c).length):RO c (n+1) out:=by
 refine⟨hn,h.len,h.sd,h.z,?_⟩
 rcases h.m with e|e
 ·exact .inl fun b' hb'=>h.k e b' (by omega)
 ·rcases h0.cp with g|g
  ·have:=h.a g;rw[this]at e;omega
  ·exact .inr (by omega)
theorem RO.fin{c:Code}(hc:okT c){n:Nat}{o:List Bool}(h:RO c n o)(hn:(cB c).length<=n):o=eP c:=by
 have hcl:Cl c o:=by
  rcases h.cp with g|g
  ·exact g
  ·have:=nt_le o;rw[h.len]at this;omega
 have hall:∀b,Rch c b->b<(cB c).length/\o.getD b false=true:=by
  intro b hb
  induction hb with
  |zero=>exact⟨hc.ne,h.z⟩
  |@step b t h1 h2 h3 ih=>
   have:=hc.to b h2 t h3
   exact⟨by omega,hcl b h2 ih.2 t h3⟩
 apply sV false (by rw[h.len,jV])
 intro b hb
 rw[h.len]at hb
 rw[kF c hb]
 unfold gI
 cases hx:o.getD b false
 ·symm
  refine @decide_eq_false _ (Classical.propDecidable _) fun hr=> ?_
  rw[(hall b hr).2]at hx;cases hx
 ·symm
  exact @decide_eq_true _ (Classical.propDecidable _) (h.sd b hx)
theorem befN_succ(c:Code)(a:Int)(k:Nat):qJ c a (k+1)=if(gI c k&&decide (a∈aR (trm c k)))=true then qJ c a k++[(k:Int)]else qJ c a k:=by
 unfold qJ
 rw[List.range_succ,List.filter_append,List.map_append]
 split
 ·rename_i h;rw[List.filter_cons_of_pos (p:=fun i=>gI c i&&decide (a∈aR (trm c i))) h];rfl
 ·rename_i h;rw[List.filter_cons_of_neg (p:=fun i=>gI c i&&decide (a∈aR (trm c i))) h];simp
theorem befN_len(c:Code)(a:Int)(k:Nat):(qJ c a k).length<=k:=by
 unfold qJ
 rw[List.length_map]
 have:=List.length_filter_le (fun i=>gI c i&&decide (a∈aR (trm c i))) (List.range k)
 rwa [List.length_range]at this
theorem mem_bef(c:Code)(a b:Int):b∈pL c a↔0<=b/\b<((cB c).length:Int)/\gI c b.toNat=true/\a∈aR (trm c b.toNat):=by
 unfold pL qJ
 rw[List.mem_map]
 constructor
 ·rintro⟨k,hk,rfl⟩
  rw[List.mem_filter,List.mem_range,Bool.and_eq_true,decide_eq_true_iff]at hk;exact⟨by omega,by omega,hk.2.1,hk.2.2⟩
 ·rintro⟨h1,h2,h3,h4⟩
  refine⟨b.toNat,?_,by omega⟩
  rw[List.mem_filter,List.mem_range,Bool.and_eq_true,decide_eq_true_iff];exact⟨by omega,h3,h4⟩
theorem bef_cnt(c:Code){a:Nat}(ha:a<(cB c).length):(frL c).getD a 0=((pL c (a:Int)).length:Int):=by
 unfold frL frN
 rw[oU _ _ _ ha]
 unfold sZ pL qJ
 rw[List.length_map]
theorem arm_eq{c:Code}(hc:okT c){b a:Int}(hb:0<=b/\b<((cB c).length:Int))(hr:gI c b.toNat=true)(ha:a∈aR (trm c b.toNat)):fL c b a=pN (wk0 c) b a:=by
 have har:=hc.to b.toNat (by omega) a ha
 have hm:=(mem_bef c a b).2 ⟨hb.1,hb.2,hr,ha⟩
 unfold fL pN
 have e:decide (pL c a=[b])=decide ((wk0 c).2.2.1.getD a.toNat 0=1):=by
  have h1:(wk0 c).2.2.1.getD a.toNat 0=((pL c a).length:Int):=by
   have:=bef_cnt c (a:=a.toNat) (by omega)
   rw[show ((a.toNat:Nat):Int)=a by omega]at this
   exact this
  rw[h1]
  congr 1
  rw[eq_iff_iff];constructor
  ·intro h;rw[h];rfl
  ·intro h
   have h:(pL c a).length=1:=by omega
   obtain⟨x,hx⟩:=List.length_eq_one_iff.1 h;rw[hx]at hm⊢;rw[List.mem_singleton]at hm;rw[hm]
 rw[e]
 rfl
theorem armR_k{c:Code}{b a:Int}(h:fL c b a=true):a≠b/\pL c a=[b]/\(trm c a.toNat).1=1:=by
 unfold fL at h
 simp only[Bool.and_eq_true,decide_eq_true_iff]at h
 exact⟨h.1,h.2.2.1,h.2.2.2.2.1⟩
theorem arm_no{c:Code}(hc:okT c){b t0 t1:Int}(hb:0<=b/\b<((cB c).length:Int))(hr:gI c b.toNat=true)(h0:t0∈aR (trm c b.toNat))(a0:fL c b t0=true)(a1:fL c b t1=true)(e:to0 (trm c t0.toNat)=t1):False:=by
 obtain⟨n0,f0,k0⟩:=armR_k a0
 obtain⟨n1,f1,k1⟩:=armR_k a1
 have hr0:=hc.to b.toNat (by omega) t0 h0
 have hs:aR (trm c t0.toNat)=[to0 (trm c t0.toNat)]:=by
  unfold aR;rw[if_neg (by rw[k0];decide),if_neg (fun h=>by rw[k0]at h;exact absurd h.1 (by decide))]
 have hR:Rch c b.toNat:=@of_decide_eq_true _ (Classical.propDecidable _) hr
 have hR0:gI c t0.toNat=true:=@decide_eq_true _ (Classical.propDecidable _) (Rch.step hR (by omega) h0)
 have:t0∈pL c t1:=(mem_bef c t1 t0).2 ⟨hr0.1,hr0.2,hR0,by rw[hs,e];simp⟩
 rw[f1,List.mem_singleton]at this
 exact n0 this
theorem pln_same{c:Code}(hc:okT c){b:Int}(hb:0<=b/\b<((cB c).length:Int)):
  (vY c b).1=(cY c b).2.2.1/\((cY c b).2.2.1=true->(vY c b).2.1=[decide (0<=(cY c b).1.getD 0 0),decide (0<=(cY c b).1.getD 1 0)]/\(vY c b).2.2.1=(cY c b).2.1):=by
 have e1:(wk0 c).2.1.getD b.toNat false=gI c b.toNat:=kF c (by omega)
 have e2:(wk0 c).1=c:=rfl
 unfold vY cY rF
 dsimp only
 rw[e1,e2]
 by_cases hcond:gI c b.toNat=false∨(trm c b.toNat).1≠2∨to0 (trm c b.toNat)=to1 (trm c b.toNat)
 ·rw[if_pos hcond,if_pos hcond]
  exact⟨rfl,fun h=>by cases h⟩
 rw[if_neg hcond,if_neg hcond]
 have hr:gI c b.toNat=true:=by
  cases h:gI c b.toNat
  ·exact absurd (.inl h) hcond
  ·rfl
 have hk:(trm c b.toNat).1=2:=Classical.byContradiction fun h=>hcond (.inr (.inl h))
 have hne:to0 (trm c b.toNat)≠to1 (trm c b.toNat):=fun h=>hcond (.inr (.inr h))
 have hs:aR (trm c b.toNat)=[to0 (trm c b.toNat),to1 (trm c b.toNat)]:=by
  unfold aR;rw[if_neg (by rw[hk];decide),if_pos ⟨hk,hne⟩];exact oD (hc.two _ (by omega))
 have h0:to0 (trm c b.toNat)∈aR (trm c b.toNat):=by rw[hs];simp
 have h1:to1 (trm c b.toNat)∈aR (trm c b.toNat):=by rw[hs];simp
 have r0:=hc.to b.toNat (by omega) _ h0
 have r1:=hc.to b.toNat (by omega) _ h1
 have q0:=arm_eq hc hb hr h0
 have q1:=arm_eq hc hb hr h1
 have x01:fL c b (to0 (trm c b.toNat))=true->fL c b (to1 (trm c b.toNat))=true->mV c b≠to1 (trm c b.toNat):=fun a0 a1 e=>arm_no hc hb hr h0 a0 a1 e
 have x10:fL c b (to0 (trm c b.toNat))=true->fL c b (to1 (trm c b.toNat))=true->p9 c b≠to0 (trm c b.toNat):=fun a0 a1 e=>arm_no hc hb hr h1 a1 a0 e
 have ej0:gX (wk0 c) b (to0 (trm c b.toNat))=if fL c b (to0 (trm c b.toNat))=true then mV c b else to0 (trm c b.toNat):=by unfold gX mV;rw[q0,e2]
 have ej1:gX (wk0 c) b (to1 (trm c b.toNat))=if fL c b (to1 (trm c b.toNat))=true then p9 c b else to1 (trm c b.toNat):=by unfold gX p9;rw[q1,e2]
 have en0:d5 (wk0 c) b (to0 (trm c b.toNat))=if fL c b (to0 (trm c b.toNat))=true then to0 (trm c b.toNat)else-1:=by unfold d5;rw[q0]
 have en1:d5 (wk0 c) b (to1 (trm c b.toNat))=if fL c b (to1 (trm c b.toNat))=true then to1 (trm c b.toNat)else-1:=by unfold d5;rw[q1]
 rw[ej0,ej1,en0,en1]
 clear ej0 ej1 en0 en1 q0 q1
 generalize fL c b (to0 (trm c b.toNat))=a0 at *
 generalize fL c b (to1 (trm c b.toNat))=a1 at *
 generalize to0 (trm c b.toNat)=t0 at *
 generalize to1 (trm c b.toNat)=t1 at *
 generalize mV c b=o0 at *
 generalize p9 c b=o1 at *
 have l0:¬t0<0:=by omega
 have l1:¬t1<0:=by omega
 have g0:0<=t0:=r0.1
 have g1:0<=t1:=r1.1
 clear hcond hs h0 h1 e1 e2 hr hk r0 r1
 cases a0<;>cases a1
 ·simp
 ·by_cases e:o1=t0
  ·subst e
   by_cases g:o1=b
   ·simp[g,l0,l1,g0,g1]
   ·simp[g,l0,l1,g0,g1]
  ·have e':¬t0=o1:=fun h=>e h.symm
   simp[e,e',l0,l1,g0,g1]
 ·by_cases e:o0=t1
  ·subst e
   by_cases g:o0=b
   ·simp[g,l0,l1,g0,g1]
   ·simp[g,l0,l1,g0,g1]
  ·simp[e,l0,l1,g0,g1]
 ·have y01:=x01 rfl rfl
  have y10:=x10 rfl rfl
  by_cases e:o0=o1
  ·subst e
   simp[l0,l1,g0,g1]
  ·simp[e,l0,l1,g0,g1,y01,y10]
theorem lY(m:Nm)(n:Int):(nmL m n).length=n.toNat:=by simp[nmL]
theorem uN(m:Nm){n:Int}{r:Int}(h0:0<=r)(h:r<n):(nmL m n).getD r.toNat 0=(m r).getD (-1):=by
 unfold nmL
 rw[oU _ _ _ (by omega),show((r.toNat:Nat):Int)=r by omega]
theorem nmL_set(m:Nm){n d v:Int}(h0:0<=d)(h:d<n):(nmL m n).set d.toNat v=nmL (upM m d v) n:=by
 apply sV 0 (by simp[lY])
 intro i hi
 rw[List.length_set,lY]at hi
 rw[kB _ _ _ _ _ (by rw[lY];omega)]
 have e:=uN (upM m d v) (n:=n) (r:=(i:Int)) (by omega) (by omega)
 rw[show ((i:Int)).toNat=i by omega]at e
 rw[e]
 unfold upM
 split
 ·rename_i g;rw[if_pos (by omega)];rfl
 ·rename_i g
  rw[if_neg (by omega)];have e2:=uN m (n:=n) (r:=(i:Int)) (by omega) (by omega);rw[show ((i:Int)).toNat=i by omega]at e2
  exact e2
def NN(m:Nm):Prop:=∀r v,m r=some v->0<=v
theorem nn0:NN nm0:=fun r v h=>by cases h
theorem nn_up{m:Nm}(h:NN m){d v:Int}(hv:0<=v):NN (upM m d v):=by
 intro r u hu
 unfold upM at hu
 split at hu
 ·injection hu with hu;omega
 ·exact h r u hu
theorem nn_cp:∀(l:List Inst) (n:Int) (m:Nm),0<=n->NN m->NN (cpN l n m)
 | [],_,_,_,h=>h
 |a::l,n,m,hn,h=>nn_cp l (n+1) _ (by omega) (nn_up h hn)
theorem rn_eq{m:Nm}(hm:NN m){n:Int}{o:Opd}(ho:oT n o):rnN (nmL m n) o=rnO m o:=by
 unfold rnN rnO
 by_cases h2:o.1=2
 ·obtain⟨g1,g2⟩:=ho h2
  rw[uN m g1 g2];cases hq:m o.2.1 with
  |none=>simp
  |some v=>have:=hm _ _ hq;simp[h2,this]
 ·rw[if_neg (fun h=>h2 h.1)]
  cases hq:m o.2.1 with
  |none=>rfl
  |some v=>simp[h2]
theorem xB:∀(l:List Inst) (i:Inst) (n:Int) (m:Nm),cpL (l++[i]) n m=cpL l n m++[rnI (cpN l n m) i (n+(l.length:Int))]/\cpN (l++[i]) n m=upM (cpN l n m) (iD i) (n+(l.length:Int))
 | [],i,n,m=>by simp[cpL,cpN]
 |a::l,i,n,m=>by
  obtain⟨h1,h2⟩:=xB l i (n+1) (upM m (iD a) n);simp only[List.cons_append,cpL,cpN,List.length_cons];rw[h1,h2];have:n+1+(l.length:Int)=n+((l.length+1:Nat):Int):=by omega
  rw[this];exact⟨rfl,rfl⟩
theorem cpK_zero(l:List Inst)(old n:Int):cpK l old n 0=([],n,List.replicate old.toNat (-1),()):=by
 unfold cpK
 rw[List.take_zero]
 have:nmL (cpN [] n nm0) old=List.replicate old.toNat (-1):=by
  apply sV 0 (by simp[lY])
  intro i hi;rw[lY]at hi;unfold nmL;rw[oU _ _ _ hi,gat (by simpa using hi),List.getElem_replicate]
  rfl
 rw[this]
 simp[cpL]
end Sp
namespace Go.User
open Go.Proofs Go.Lf
set_option maxRecDepth 100000
theorem vc110:(eR C110 (dL [] C110) S110 L110 Try.f110)=(
let q0:=(2:Nat);
let q1:=True/\True/\True;
let q2:Int:=(0:Int);
let q3:=inN q2 q0;
let q4:Int:=(1:Int);
let q5:=inN q4 q0;
let q6:=q2.toNat;
let q7:=q4.toNat;
∀(x:Sp.Term×Unit),
 let q8:List Int:=x.1.2.2.2.2.2.1;
 let q9:Bool:=x.1.1==(5:Int);
 let q10:Bool:=x.1.1==(2:Int);
 let q11:=(true&&bif q10 then true else false)=true;
 let q12:=q11->True;
 let q13:Int:=q8.getD q6 q2;
 let q14:Int:=q8.getD q7 q2;
 let q15:Bool:=bif q10 then q13 !=q14 else false;
 q8.length=q0->aB (tI.prod (tI.prod (aM.prod (aM.prod (aM.prod ((Ty.arr q0 tI).prod Ty.unit)))))) x.1/\True->(q1/\True)/\((True/\q1)/\True)/\(q9=true->((True/\True)/\True/\True)/\([]:List tI.den)=Sp.aR x.1)/\(q9=false->((True/\True/\True/\True/\q12/\(q11->q3)/\q12/\q12/\(q11->q5)/\q12/\q12/\True/\True)/\True)/\(q15=true->((True/\q3/\True/\True/\q5/\q1)/\True/\True)/\q13::q14::([]:List tI.den)=Sp.aR x.1)/\(q15=false->((True/\q3/\q1)/\True/\True)/\q13::([]:List tI.den)=Sp.aR x.1))):=by kernel_rfl
theorem vc92:(oZ C92 (dL [] C92) S92 T92 Try.f92)=(
let q0:=(2:Nat);
let q1:=True/\True/\True;
let q2:=q1/\True;
let q3:Int:=(0:Int);
let q4:=(True/\True)/\True;
let q5:=(True/\True/\True/\q1)/\True;
let q6:Sp.Opd:=(q3,q3,q3,());
let q7:Sp.Block:=(([]:List aC.den),(q3,q3,q6,q6,q6,List.replicate q0 q3,()),());
let q8:Int:=(1:Int);
∀(x:Sp.Code×Unit),
 let q9:List Sp.Block:=x.1.2.2.2.2.2.2.2.1;
 let q10:=q9.length;
 let q11:Int:=(↑q10:Int);
 let q12:List Bool:=List.replicate q11.toNat false;
 let q13:=x.1=x.1;
 let q14:=q13/\True;
 let q15:=(Sp.cB x.1).length;
 Sp.okT x.1->
 aB (tI.prod (tI.prod (tI.prod (tI.prod (tI.prod (cC.slice.prod (bC.slice.prod ((aC.slice.prod ((tI.prod (tI.prod (aM.prod (aM.prod (aM.prod ((Ty.arr q0 tI).prod Ty.unit)))))).prod Ty.unit)).slice.prod Ty.unit)))))))) x.1/\True->
 q2/\
 ((True/\True/\True/\((0:tI.den)<=q11/\q11<=q11/\q11<=bJ)/\True)/\True/\True)/\
 ((True/\inN q3 q12.length/\True)/\True/\True)/\
 q4/\
 (∃(x_1:Nat×List Bool),Sp.RO x.1 x_1.1 x_1.2/\q12.set q3.toNat true=x_1.2/\q3=(↑x_1.1:Int)/\q14)/\
 ∀(x_1:Nat×List Bool),
 let q16:Int:=(↑x_1.1:Int);
 let q17:Bool:=decide (q16<q11);
 let q18:=q16=q16;
 let q19:=q13/\q18/\True;
 let q20:Int:=q16+q8;
 Sp.RO x.1 x_1.1 x_1.2->
 aB Ty.bool.slice x_1.2/\aB tI q16/\True->
 q5/\
 (q17=true->
 q4/\
 (∃(x_2:Nat×List Bool),Sp.RP x.1 x_1.2 x_2.1 x_2.2/\x_1.2=x_2.2/\q3=(↑x_2.1:Int)/\q19)/\
 ∀(x_2:Nat×List Bool),
 let q21:Int:=(↑x_2.1:Int);
 let q22:Bool:=decide (q21<q11);
 let q23:=q21.toNat;
 let q24:Sp.Term:=(q9.getD q23 q7).2.1;
 let q25:List Int:=Sp.aR q24;
 let q26:=q13/\q18/\q21=q21/\q25=q25/\True;
 let q27:=q25.length;
 let q28:=(Sp.aR (Sp.trm x.1 x_2.1)).length;
 let q29:Int:=q21+q8;
 Sp.RP x.1 x_1.2 x_2.1 x_2.2->
 aB Ty.bool.slice x_2.2/\aB tI q21/\True->
 q5/\
 (q22=true->
 ((True/\True/\True/\inN q21 q10/\True/\True/\q24.2.2.2.2.2.1.length=q0/\True)/\True/\True)/\
 q4/\
 (∃(x_3:Nat×List Bool),Sp.RQ x.1 x_1.2 x_2.1 x_3.1 x_3.2/\x_2.2=x_3.2/\q3=(↑x_3.1:Int)/\q26)/\
 ∀(x_3:Nat×List Bool),
 let q30:Int:=(↑x_3.1:Int);
 let q31:Bool:=decide (q30<(↑q27:Int));
 let q32:=(true&&bif q31 then true else false)=true;
 let q33:=q32->True;
 let q34:=x_3.2.length;
 let q35:Bool:=bif q31 then x_3.2.getD q23 false else false;
 let q36:Int:=q25.getD q30.toNat q3;
 let q37:Int:=q30+q8;
 Sp.RQ x.1 x_1.2 x_2.1 x_3.1 x_3.2->aB Ty.bool.slice x_3.2/\aB tI q30/\True->((True/\True/\True/\True/\True/\q33/\q33/\(q32->inN q21 q34)/\q33/\True/\True)/\True)/\(q35=true->((True/\True/\True/\inN q30 q27/\True/\inN q36 q34/\True)/\True/\True)/\((True/\inK IntKind.i64 q37/\True/\True)/\True)/\∃(y:Nat×List Bool),Sp.RQ x.1 x_1.2 x_2.1 y.1 y.2/\q28-y.1<q28-x_3.1/\x_3.2.set q36.toNat true=y.2/\q37=(↑y.1:Int)/\q26)/\(q35=false->((True/\inK IntKind.i64 q29/\True/\True)/\True)/\∃(y:Nat×List Bool),Sp.RP x.1 x_1.2 y.1 y.2/\q15-y.1<q15-x_2.1/\x_3.2=y.2/\q29=(↑y.1:Int)/\q19))/\
 (q22=false->((True/\inK IntKind.i64 q20/\True/\True)/\True)/\∃(y:Nat×List Bool),Sp.RO x.1 y.1 y.2/\q15-y.1<q15-x_1.1/\x_2.2=y.2/\q20=(↑y.1:Int)/\q14))/\
 (q17=false->q2/\x_1.2=Sp.eP x.1)):=by kernel_rfl
theorem vc111:(eR C111 (dL [] C111) S111 L111 Try.f111)=(
let q0:=(2:Nat);
let q1:=True/\True/\True;
let q2:=q1/\True;
let q3:Int:=(0:Int);
let q4:=True/\q1;
let q5:Sp.Opd:=(q3,q3,q3,());
let q6:Sp.Block:=(([]:List aC.den),(q3,q3,q5,q5,q5,List.replicate q0 q3,()),());
let q7:Int:=(1:Int);
∀(x:Sp.Code×Int×Unit),
 let q8:=(Sp.cB x.1).length;
 let q9:=x.2.1=x.2.1/\x.1=x.1/\Sp.eP x.1=Sp.eP x.1/\True;
 let q10:List Sp.Block:=x.1.2.2.2.2.2.2.2.1;
 let q11:=q10.length;
 Sp.okT x.1->
 aB (tI.prod (tI.prod (tI.prod (tI.prod (tI.prod (cC.slice.prod (bC.slice.prod ((aC.slice.prod ((tI.prod (tI.prod (aM.prod (aM.prod (aM.prod ((Ty.arr q0 tI).prod Ty.unit)))))).prod Ty.unit)).slice.prod Ty.unit)))))))) x.1/\aB tI x.2.1/\True->
 q2/\
 ((True/\Sp.okT x.1/\True)/\True/\True)/\
 ((True/\True)/\True/\True)/\
 ((True/\True)/\True)/\
 (∃(x_1:Nat),x_1<=q8/\([]:List tI.den)=Sp.qJ x.1 x.2.1 x_1/\q3=(↑x_1:Int)/\q9)/\
 ∀(x_1:Nat),
 let q12:List Int:=Sp.qJ x.1 x.2.1 x_1;
 let q13:Bool:=decide ((↑x_1:Int)<(↑q11:Int));
 let q14:=(↑x_1:Int).toNat;
 let q15:Bool:=(Sp.eP x.1).getD q14 false;
 let q16:=(true&&bif q15 then true else false)=true;
 let q17:=q16->True;
 let q18:Sp.Term:=(q10.getD q14 q6).2.1;
 let q19:Bool:=bif q15 then Sp.mem (Sp.aR q18) x.2.1 else false;
 let q20:List Int:=(↑x_1:Int)::([]:List tI.den);
 let q21:Int:=(↑x_1:Int)+q7;
 let q22:=(True/\inK IntKind.i64 q21/\True/\True)/\True;
 x_1<=q8->aB tI.slice q12/\aB tI (↑x_1:Int)/\True->((True/\True/\q4)/\True)/\(q13=true->((True/\True/\inN (↑x_1:Int) (Sp.eP x.1).length/\True/\True/\q17/\q17/\q17/\(q16->inN (↑x_1:Int) q11)/\q17/\q17/\(q16->q18.2.2.2.2.2.1.length=q0)/\q17/\q17/\True/\True)/\True)/\(q19=true->(q4/\(↑(q12.length+q20.length):Int)<=bJ/\True/\True)/\q22/\∃(y:Nat),y<=q8/\q8-y<q8-x_1/\q12++q20=Sp.qJ x.1 x.2.1 y/\q21=(↑y:Int)/\q9)/\(q19=false->q22/\∃(y:Nat),y<=q8/\q8-y<q8-x_1/\q12=Sp.qJ x.1 x.2.1 y/\q21=(↑y:Int)/\q9))/\(q13=false->q2/\q12=Sp.pL x.1 x.2.1)):=by kernel_rfl
theorem vc47:(eR C47 (dL [] C47) S47 L47 Try.f47)=(
let q0:=True/\True/\True;
∀(x:Sp.Inst×Unit),
 let q1:Bool:=decide (x.1.1≥(1:Int));
 let q2:=(true&&bif q1 then true else false)=true->True;
 True->aB aC x.1/\True->(q0/\True)/\((True/\True/\True/\True/\q2/\q2/\q2/\q0)/\True)/\(bif q1 then decide (x.1.1<=(6:Int))else false)=Sp.gA x.1):=by kernel_rfl
theorem vc93:(eR C93 (dL [] C93) S93 L93 Try.f93)=(
let q0:=(2:Nat);
let q1:=True/\True/\True;
let q2:Int:=(0:Int);
let q3:Int:=(1:Int);
let q4:Sp.Opd:=(q2,q2,q2,());
let q5:Sp.Block:=(([]:List aC.den),(q2,q2,q4,q4,q4,List.replicate q0 q2,()),());
let q6:=(True/\True)/\True;
let q7:Sp.Inst:=(q2,q2,q2,Sp.bM,Sp.bM,Sp.bM,Sp.bM,());
let q8:=True/\q1;
∀(x:Sp.Code×Int×Int×Unit),
 let q9:Bool:=x.2.2.1==x.2.1;
 let q10:=(true&&bif q9 then false else true)=true->True;
 let q11:Bool:=bif q9 then true else x.2.2.1==q2;
 let q12:=(true&&bif q11 then false else true)=true->True;
 let q13:List Int:=Sp.pL x.1 x.2.2.1;
 let q14:=q13.length;
 let q15:Bool:=bif q11 then true else(↑q14:Int) !=q3;
 let q16:=(true&&bif q15 then false else true)=true;
 let q17:=q16->True;
 let q18:Bool:=bif q15 then true else q13.getD q2.toNat q2 !=x.2.1;
 let q19:=(true&&bif q18 then false else true)=true;
 let q20:=q19->True;
 let q21:List Sp.Block:=x.1.2.2.2.2.2.2.2.1;
 let q22:=inN x.2.2.1 q21.length;
 let q23:=x.2.2.1.toNat;
 let q24:Sp.Block:=q21.getD q23 q5;
 let q25:List Sp.Inst:=q24.1;
 let q26:=q25.length;
 let q27:Int:=(↑q26:Int);
 let q28:Bool:=bif q18 then true else decide (q27>(8:Int));
 let q29:=(true&&bif q28 then false else true)=true;
 let q30:=q29->True;
 let q31:Bool:=bif q28 then true else q24.2.1.1 !=q3;
 let q32:Bool:=Sp.fL x.1 x.2.1 x.2.2.1;
 let q33:=q6/\false=q32;
 let q34:List Sp.Inst:=Sp.ins x.1 q23;
 let q35:=q34.length;
 let q36:=x.2.1=x.2.1/\x.2.2.1=x.2.2.1/\x.1=x.1/\True;
 Sp.okT x.1/\(0:(AK.val tI).den)<=x.2.2.1/\x.2.2.1<(↑(Sp.cB x.1).length:Int)->
 aB (tI.prod (tI.prod (tI.prod (tI.prod (tI.prod (cC.slice.prod (bC.slice.prod ((aC.slice.prod ((tI.prod (tI.prod (aM.prod (aM.prod (aM.prod ((Ty.arr q0 tI).prod Ty.unit)))))).prod Ty.unit)).slice.prod Ty.unit)))))))) x.1/\aB tI x.2.1/\aB tI x.2.2.1/\True->
 (q1/\True)/\
 ((True/\True/\Sp.okT x.1/\True)/\True/\True)/\
 ((True/\True/\True/\True/\q10/\q10/\True/\True/\q12/\q12/\q12/\True/\True/\q17/\(q16->inN q2 q14)/\q17/\q17/\q17/\True/\True/\q20/\q20/\q20/\(q19->q22)/\q20/\q20/\q20/\q20/\True/\True/\q30/\q30/\q30/\(q29->q22)/\q30/\q30/\q30/\q30/\True/\True)/\True)/\
 (q31=true->q33)/\
 (q31=false->
 q6/\
 (∃(x:Nat),(x<=q35/\∀(j:Nat),j<x->Sp.gA (q34.getD j q7)=true)/\q2=(↑x:Int)/\q36)/\
 ∀(x:Nat),
 let q37:Bool:=decide ((↑x:Int)<q27);
 let q38:Bool:= !Sp.gA (q25.getD (↑x:Int).toNat (q2,q2,q2,q4,q4,q4,q4,()));
 let q39:Int:=(↑x:Int)+q3;
 (x<=q35/\∀(j:Nat),j<x->Sp.gA (q34.getD j q7)=true)->aB tI (↑x:Int)/\True->((True/\True/\True/\True/\q22/\True/\q8)/\True)/\(q37=true->((True/\True/\True/\q22/\True/\True/\True/\inN (↑x:Int) q26/\q8)/\True)/\(q38=true->q33)/\(q38=false->((True/\inK IntKind.i64 q39/\True/\True)/\True)/\∃(y:Nat),(y<=q35/\∀(j:Nat),j<y->Sp.gA (q34.getD j q7)=true)/\q35-y<q35-x/\q39=(↑y:Int)/\q36))/\(q37=false->q6/\true=q32))):=by kernel_rfl
theorem vc66:(eR C66 (dL [] C66) S66 L66 Try.f66)=(
let q0:Int:=(0:(AK.val tI).den);
let q1:=(2:Nat);
let q2:=True/\True/\True;
let q3:=True/\q2;
let q4:Int:=(0:Int);
let q5:Sp.Opd:=(q4,q4,q4,());
let q6:Sp.Block:=(([]:List aC.den),(q4,q4,q5,q5,q5,List.replicate q1 q4,()),());
let q7:=inN q4 q1;
let q8:Int:=(1:Int);
let q9:=inN q8 q1;
let q10:=q4.toNat;
let q11:=q8.toNat;
let q12:=(True/\True)/\True/\True;
let q13:List Bool:=List.replicate q1 false;
let q14:Bool×List Bool×Int×Unit:=(false,q13,q4,());
let q15:=(0:Nat);
let q16:=(1:Nat);
let q17:=q3/\True/\True;
∀(x:Sp.Code×Int×Unit),
 let q18:Int:=(↑(Sp.cB x.1).length:Int);
 let q19:List Sp.Block:=x.1.2.2.2.2.2.2.2.1;
 let q20:=q19.length;
 let q21:Bool:= !(Sp.eP x.1).getD x.2.1.toNat false;
 let q22:=(true&&bif q21 then false else true)=true->True;
 let q23:Sp.Term:=(q19.getD x.2.1.toNat q6).2.1;
 let q24:Bool:=bif q21 then true else q23.1 !=(2:Int);
 let q25:=(true&&bif q24 then false else true)=true;
 let q26:=q25->True;
 let q27:List Int:=q23.2.2.2.2.2.1;
 let q28:Int:=q27.getD q10 q4;
 let q29:Int:=q27.getD q11 q4;
 let q30:Bool:=bif q24 then true else q28==q29;
 let q31:Bool×List Bool×Int×Unit:=Sp.vY x.1 x.2.1;
 let q32:=q12/\q14=q31;
 let q33:List Bool:=(q13.set q15 (Sp.fL x.1 x.2.1 q28)).set q16 (Sp.fL x.1 x.2.1 q29);
 let q34:Bool:=q33.getD q10 false;
 let q35:=(true&&bif q34 then true else false)=true;
 let q36:=q35->True;
 let q37:=q35->q9;
 let q38:Bool:=q33.getD q11 false;
 let q39:Bool:=bif q34 then q38 else false;
 let q40:=(true&&bif q39 then true else false)=true->True;
 let q41:Int:=List.getD (q19.getD q28.toNat q6).2.1.2.2.2.2.2.1 q10 q4;
 let q42:Int:=List.getD (q19.getD q29.toNat q6).2.1.2.2.2.2.2.1 q10 q4;
 let q43:Bool:=bif q39 then q41==q42 else false;
 let q44:Bool:=q41 !=x.2.1;
 let q45:Int×Unit:=(q41,());
 let q46:Bool:=bif q34 then q41==q29 else false;
 let q47:=(true&&bif q46 then true else false)=true->True;
 let q48:Bool:=bif q46 then q44 else false;
 let q49:=(true&&bif q38 then true else false)=true;
 let q50:=q49->True;
 let q51:Bool:=bif q38 then q42==q28 else false;
 let q52:=(true&&bif q51 then true else false)=true->True;
 let q53:Bool:=bif q51 then q42 !=x.2.1 else false;
 Sp.okT x.1/\q0<=x.2.1/\x.2.1<q18->aB (tI.prod (tI.prod (tI.prod (tI.prod (tI.prod (cC.slice.prod (bC.slice.prod ((aC.slice.prod ((tI.prod (tI.prod (aM.prod (aM.prod (aM.prod ((Ty.arr q1 tI).prod Ty.unit)))))).prod Ty.unit)).slice.prod Ty.unit)))))))) x.1/\aB tI x.2.1/\True->(q2/\True)/\((True/\True/\True/\inN x.2.1 q20/\q3)/\True/\True)/\((True/\Sp.okT x.1/\True)/\True/\True)/\((True/\True/\inN x.2.1 (Sp.eP x.1).length/\True/\True/\True/\q22/\q22/\q22/\True/\True/\q26/\(q25->q7)/\q26/\q26/\(q25->q9)/\q26/\q26/\True/\True)/\True)/\(q30=true->q32)/\(q30=false->((True/\True/\True/\q7/\True/\(Sp.okT x.1/\q0<=q28/\q28<q18)/\True/\True/\True/\q9/\True/\(Sp.okT x.1/\q0<=q29/\q29<q18)/\q3)/\True/\True)/\((True/\True/\True/\q7/\True/\inN q28 q20/\True/\True/\q7/\True/\True/\True/\True/\q9/\True/\inN q29 q20/\True/\True/\q7/\q3)/\True)/\((True/\q7/\True/\True/\q36/\q37/\q36/\True/\True/\q40/\q40/\q40/\True/\True)/\True)/\(q43=true->(q2/\True/\True)/\((True/\q3)/\True/\True)/\q12/\(q44,q33,q45)=q31)/\(q43=false->((True/\q7/\True/\True/\q36/\q36/\q37/\q36/\q36/\True/\True/\q47/\q47/\q47/\True/\True)/\True)/\(q48=true->q17/\(true,(q13.set q15 true).set q16 false,q45)=q31)/\(q48=false->((True/\q9/\True/\True/\q50/\q50/\(q49->q7)/\q50/\q50/\True/\True/\q52/\q52/\q52/\True/\True)/\True)/\(q53=true->q17/\(true,(q13.set q15 false).set q16 true,q42,())=q31)/\(q53=false->q32))))):=by kernel_rfl
theorem vc68:(eR C68 (dL [] C68) S68 L68 Try.f68)=(
let q0:=True/\True/\True;
let q1:Int:=(0:Int);
∀(x:List Int×Sp.Opd×Unit),
 let q2:=x.1.length;
 let q3:Bool:=x.2.1.1==(2:Int);
 let q4:=(true&&bif q3 then true else false)=true;
 let q5:=q4->True;
 let q6:=inN x.2.1.2.1 q2;
 let q7:Int:=x.1.getD x.2.1.2.1.toNat q1;
 let q8:Bool:=bif q3 then decide (q7≥q1)else false;
 let q9:Sp.Opd:=Sp.rnN x.1 x.2.1;
 (x.2.1.1=(2:tI.den)->(0:tI.den)<=x.2.1.2.1/\x.2.1.2.1<(↑q2:Int))->aB tI.slice x.1/\aB aM x.2.1/\True->(q0/\True)/\((True/\True/\True/\True/\q5/\q5/\q5/\(q4->q6)/\q5/\q5/\True/\True)/\True)/\(q8=true->((True/\True/\True/\q6/\q0)/\True/\True)/\Sp.bK q7=q9)/\(q8=false->((True/\True)/\True/\True)/\x.2.1=q9)):=by kernel_rfl
theorem vc67:(oZ C67 (dL [] C67) S67 T67 Try.f67)=(
let q0:Int:=(0:(AK.val tI).den);
let q1:=(True/\True)/\True;
let q2:=True/\True/\True;
let q3:=True/\q2;
let q4:List Int×Unit:=(([]:List tI.den),());
let q5:Int:=(-1:tI.den);
let q6:Int:=(0:Int);
let q7:Sp.Cpd:=(([]:List aC.den),q6,q4);
let q8:=q7=q7/\True;
let q9:Int:=(1:Int);
let q10:List Int:= -q9::([]:List tI.den);
let q11:List aD:=aD.fst::([]:List aD);
let q12:List aD:=aD.snd::aD.snd::q11;
let q13:=True/\q3;
let q14:Sp.Opd:=(q6,q6,q6,());
let q15:Sp.Inst:=(q6,q6,q6,q14,q14,q14,q14,());
let q16:Int:=(2:tI.den);
let q17:Int:=(0:tI.den);
∀(x:List Sp.Inst×Int×Int×Unit),
 let q18:=x.1.length;
 let q19:=x.1=x.1/\x.2.1=x.2.1/\x.2.2.1=x.2.2.1/\q8;
 (q18<=(3000:Nat)/\(q0<=x.2.1/\x.2.1<=(3000:(AK.val tI).den))/\(q0<=x.2.2.1/\x.2.2.1<=(100000:(AK.val tI).den))/\∀(i:Sp.Inst),i∈x.1->Sp.inOK x.2.1 i)->
 aB aC.slice x.1/\aB tI x.2.1/\aB tI x.2.2.1/\True->
 q1/\
 (q3/\True/\True)/\
 q1/\
 (∃(x_1:Nat),(↑x_1:Int)<=x.2.1/\(([]:List aC.den),x.2.2.1,q4)=(([]:List aC.den),x.2.2.1,List.replicate x_1 q5,())/\q6=(↑x_1:Int)/\q19)/\
 ∀(x_1:Nat),
 let q20:List Int:=List.replicate x_1 q5;
 let q21:Sp.Cpd:=(([]:List aC.den),x.2.2.1,q20,());
 let q22:Bool:=decide ((↑x_1:Int)<x.2.1);
 let q23:Int:=(↑x_1:Int)+q9;
 (↑x_1:Int)<=x.2.1->
 aB qU q21/\aB tI (↑x_1:Int)/\True->
 (q3/\True)/\
 (q22=true->(q3/\(↑(q20.length+q10.length):Int)<=bJ/\True/\q12=q12/\True)/\((True/\inK IntKind.i64 q23/\True/\True)/\True)/\∃(y:Nat),(↑y:Int)<=x.2.1/\x.2.1.toNat-y<x.2.1.toNat-x_1/\(([]:List aC.den),x.2.2.1,q20++q10,())=(([]:List aC.den),x.2.2.1,List.replicate y q5,())/\q23=(↑y:Int)/\q19)/\
 (q22=false->
 q1/\
 (∃(x_2:Nat),x_2<=q18/\q21=Sp.cpK x.1 x.2.1 x.2.2.1 x_2/\q6=(↑x_2:Int)/\q19)/\
 ∀(x_2:Nat),
 let q24:Sp.Cpd:=Sp.cpK x.1 x.2.1 x.2.2.1 x_2;
 let q25:Bool:=decide ((↑x_2:Int)<(↑q18:Int));
 let q26:=inN (↑x_2:Int) q18;
 let q27:Sp.Inst:=x.1.getD (↑x_2:Int).toNat q15;
 let q28:Int×Int×Sp.Opd×Sp.Opd×Sp.Opd×Sp.Opd×Unit:=q27.2;
 let q29:Int×Sp.Opd×Sp.Opd×Sp.Opd×Sp.Opd×Unit:=q28.2;
 let q30:Sp.Opd×Sp.Opd×Sp.Opd×Sp.Opd×Unit:=q29.2;
 let q31:Sp.Opd×Sp.Opd×Sp.Opd×Unit:=q30.2;
 let q32:Sp.Opd:=q31.1;
 let q33:Int:=q32.2.1;
 let q34:List Sp.Inst:=List.take x_2 x.1;
 let q35:List Int:=Sp.nmL (Sp.cpN q34 x.2.2.1 Sp.nm0) x.2.1;
 let q36:=q35.length;
 let q37:Int:=(↑q36:Int);
 let q38:Sp.Opd×Sp.Opd×Unit:=q31.2;
 let q39:Sp.Opd:=q38.1;
 let q40:Int:=q39.2.1;
 let q41:Sp.Opd×Unit:=q38.2;
 let q42:Sp.Opd:=q41.1;
 let q43:Int:=q42.2.1;
 let q44:Int:=q30.1.2.1;
 let q45:Int:=x.2.2.1+(↑x_2:Int);
 let q46:Int:=q45+q9;
 let q47:List Sp.Inst:=Sp.cpL q34 x.2.2.1 Sp.nm0;
 let q48:List Sp.Inst:=(q27.1,q28.1,q29.1,Sp.bK q45,Sp.rnN q35 q32,Sp.rnN q35 q39,Sp.rnN q35 q42,q41.2)::([]:List aC.den);
 let q49:Int:=(↑x_2:Int)+q9;
 x_2<=q18->aB qU q24/\aB tI (↑x_2:Int)/\True->(q13/\True)/\(q25=true->((True/\True/\q26/\q2)/\True/\True)/\((True/\True/\True/\True/\(q32.1=q16->q17<=q33/\q33<q37)/\True/\True)/\True/\True)/\((True/\True/\True/\True/\(q39.1=q16->q17<=q40/\q40<q37)/\True/\True)/\True/\True)/\((True/\True/\True/\True/\(q42.1=q16->q17<=q43/\q43<q37)/\True/\True)/\True/\True)/\((True/\True/\True/\True/\q26/\True/\True/\True/\True/\True/\inN q44 q36/\True)/\True/\True)/\(q13/\True/\True)/\((True/\True/\inK IntKind.i64 q46/\True/\True)/\True/\True)/\(q13/\(↑(q47.length+q48.length):Int)<=bJ/\True/\q11=q11/\True)/\((True/\inK IntKind.i64 q49/\True/\True)/\True)/\∃(y:Nat),y<=q18/\q18-y<q18-x_2/\(q47++q48,q46,q35.set q44.toNat q45,())=Sp.cpK x.1 x.2.1 x.2.2.1 y/\q49=(↑y:Int)/\q19)/\(q25=false->((True/\True)/\True/\True)/\q24=Sp.cpd x.1 x.2.1 x.2.2.1))):=by kernel_rfl
theorem vc69:(eR C69 (dL [] C69) S69 L69 Try.f69)=(
let q0:=(2:Nat);
let q1:=True/\True/\True;
let q2:=q1/\True;
let q3:=(True/\True)/\True;
let q4:Int:=(0:Int);
let q5:=q4=q4/\True;
let q6:Sp.Opd:=(q4,q4,q4,());
let q7:Sp.Block:=(([]:List aC.den),(q4,q4,q6,q6,q6,List.replicate q0 q4,()),());
let q8:Int:=(1:Int);
∀(x:Sp.Code×Unit),
 let q9:=(Sp.cB x.1).length;
 let q10:=x.1=x.1;
 let q11:=q10/\q10/\q5;
 let q12:List Sp.Block:=x.1.2.2.2.2.2.2.2.1;
 let q13:=q12.length;
 (q9<=(10000:Nat)/\∀(b:Sp.Block),b∈Sp.cB x.1->b.1.length<=(20000:Nat))->
 aB (tI.prod (tI.prod (tI.prod (tI.prod (tI.prod (cC.slice.prod (bC.slice.prod ((aC.slice.prod ((tI.prod (tI.prod (aM.prod (aM.prod (aM.prod ((Ty.arr q0 tI).prod Ty.unit)))))).prod Ty.unit)).slice.prod Ty.unit)))))))) x.1/\True->
 q2/\
 q3/\
 q3/\
 (∃(x_1:Nat),x_1<=q9/\q4=Sp.gF (List.take x_1 (Sp.cB x.1))/\q4=(↑x_1:Int)/\q11)/\
 ∀(x_1:Nat),
 let q14:Int:=Sp.gF (List.take x_1 (Sp.cB x.1));
 let q15:Bool:=decide ((↑x_1:Int)<(↑q13:Int));
 let q16:Int:=q14+(↑(List.length (q12.getD (↑x_1:Int).toNat q7).1):Int);
 let q17:Int:=(↑x_1:Int)+q8;
 x_1<=q9->aB tI q14/\aB tI (↑x_1:Int)/\True->((True/\True/\True/\q1)/\True)/\(q15=true->((True/\True/\True/\True/\inN (↑x_1:Int) q13/\True/\True/\True/\inK IntKind.i64 q16/\True/\True)/\True)/\((True/\inK IntKind.i64 q17/\True/\True)/\True)/\∃(y:Nat),y<=q9/\q9-y<q9-x_1/\q16=Sp.gF (List.take y (Sp.cB x.1))/\q17=(↑y:Int)/\q11)/\(q15=false->q2/\q14=Sp.gF (Sp.cB x.1))):=by kernel_rfl
end Go.User
namespace Go.User
open Go.Lf Go.Proofs
theorem ok110:FOk Try.prog 110 S110:=by
 have hC:aG Try.prog C110:=okC aS rfl rfl rfl rfl rfl rfl rfl
 refine FOk.intro hC (dG hC) Try.call110 Try.func110 (by kernel_rfl) (by kernel_rfl) L110 ?_
 rw[vc110]
 simp only[zz,zy]
 rintro⟨t,u⟩ h2 _
 dsimp only at *
 have h2:t.2.2.2.2.2.1.length=2:=h2
 have e0:t.2.2.2.2.2.1.getD (Int.toNat 0) 0=Sp.to0 t:=rfl
 have e1:t.2.2.2.2.2.1.getD (Int.toNat 1) 0=Sp.to1 t:=rfl
 rw[e0,e1]
 have h2':t.2.2.2.2.2.1=[Sp.to0 t,Sp.to1 t]:=Sp.oD h2
 unfold Sp.aR
 refine⟨fun h=>by rw[if_pos h],fun h=>⟨⟨fun _=>⟨by omega,by omega⟩,fun _=>⟨by omega,by omega⟩⟩,fun hh=>⟨⟨⟨by omega,by omega⟩,⟨by omega,by omega⟩⟩,by rw[if_neg h,if_pos hh,h2']⟩,fun hh=>⟨⟨by omega,by omega⟩,?_⟩⟩⟩
 rw[if_neg h,if_neg (fun g=>by simp[g.1,g.2]at hh)]
theorem ok92:FOk Try.prog 92 S92:=by
 have hC:aG Try.prog C92:=okC (aE ok110 aS) rfl rfl rfl rfl rfl rfl rfl
 refine FOk.introT hC (dG hC) Try.call92 Try.func92 rfl (by kernel_rfl) T92 ?_
 rw[vc92]
 simp only[zz,zy]
 rintro⟨c,u⟩ h _
 have hb0:(([],(0,0,(0,0,0,()),(0,0,0,()),(0,0,0,()),List.replicate 2 0,()),()):Sp.Block)=Sp.bE:=rfl
 have hcB:c.2.2.2.2.2.2.2.1=Sp.cB c:=rfl
 have htr:∀b:Nat,((Sp.cB c).getD b Sp.bE).2.1=Sp.trm c b:=fun _=>rfl
 dsimp only at *
 simp only[hb0,hcB,htr]
 have h:Sp.okT c:=h
 have hbd:=h.bd
 have hne:=h.ne
 refine⟨⟨Int.natCast_nonneg _,Int.le_refl _,gW (by omega)⟩,⟨by simp,by simp;omega⟩,⟨(0,_),Sp.RO.start h,rfl,rfl⟩,?_⟩
 rintro⟨n,o⟩ ho _
 dsimp only at *
 refine⟨fun hn=>⟨⟨(0,o),Sp.RP.start ho,rfl,rfl⟩,?_⟩,fun hn=>ho.fin h (by omega)⟩
 rintro⟨b,out⟩ hp _
 dsimp only at *
 refine⟨fun hb=> ?_,fun hb=>⟨aQ (by omega) (by omega),(n+1,out),hp.fin ho (by omega) (by omega),by dsimp only;omega,rfl,by simp⟩⟩
 have hbl:b<(Sp.cB c).length:=by omega
 refine⟨⟨⟨by omega,by omega⟩,h.two b hbl⟩,⟨(0,out),Sp.RQ.start hp,rfl,rfl⟩,?_⟩
 rintro⟨i,out⟩ hq _
 dsimp only at *
 have hol:=hq.len
 refine⟨fun hi=>⟨by omega,by omega⟩,fun hi=> ?_,fun hi=> ?_⟩
 ·have hil:i<(Sp.aR (Sp.trm c b)).length:=by omega
  have hm:(Sp.aR (Sp.trm c b)).getD i 0∈Sp.aR (Sp.trm c b):=by rw[Sp.gat hil];exact List.getElem_mem _
  have hr:=h.to b hbl _ hm
  have hsl:(Sp.aR (Sp.trm c b)).length<=2:=(Sp.lR (h.two b hbl)).2
  exact⟨⟨⟨by omega,by omega⟩,⟨by omega,by omega⟩⟩,aQ (by omega) (by omega),(i+1,_),hq.step h hbl hil hi.2,by dsimp only;omega,rfl,by simp⟩
 ·refine⟨aQ (by omega) (by omega),(b+1,out),hq.fin hbl ?_,by dsimp only;omega,rfl,by simp⟩
  rw[Bool.and_eq_false_iff,decide_eq_false_iff_not]at hi;exact hi.imp (fun g=>by omega) id
theorem ok111:FOk Try.prog 111 S111:=by
 have hC:aG Try.prog C111:=okC (aE ok92 (aE ok110 (aE ok119 aS))) rfl rfl rfl rfl rfl rfl rfl
 refine FOk.intro hC (dG hC) Try.call111 Try.func111 (by kernel_rfl) (by kernel_rfl) L111 ?_
 rw[vc111]
 simp only[zz,zy]
 rintro⟨c,a,u⟩ h _
 have hb0:(([],(0,0,(0,0,0,()),(0,0,0,()),(0,0,0,()),List.replicate 2 0,()),()):Sp.Block)=Sp.bE:=rfl
 have hcB:c.2.2.2.2.2.2.2.1=Sp.cB c:=rfl
 have htr:∀b:Nat,((Sp.cB c).getD b Sp.bE).2.1=Sp.trm c b:=fun _=>rfl
 dsimp only at *
 simp only[hb0,hcB,htr]
 have h:Sp.okT c:=h
 have hbd:=h.bd
 refine⟨h,⟨0,Nat.zero_le _,rfl,rfl⟩,fun k hk _=>⟨fun hlt=> ?_,fun hge=>by unfold Sp.pL;rw[show k=(Sp.cB c).length by omega]⟩⟩
 have hkl:k<(Sp.cB c).length:=by omega
 rw[Sp.kF c hkl]
 have hcond:(Sp.gI c k&&Sp.mem (Sp.aR (Sp.trm c k)) a)=(Sp.gI c k&&decide (a∈Sp.aR (Sp.trm c k))):=rfl
 rw[hcond]
 have hs:=Sp.befN_succ c a k
 have hl:=Sp.befN_len c a k
 refine⟨⟨⟨by omega,by rw[Sp.jV];omega⟩,fun _=>⟨by omega,by omega⟩,fun _=>h.two k hkl⟩,fun hx=>⟨gW (by omega),aQ (by omega) (by omega),k+1,by omega,by omega,by rw[hs,if_pos (by rw[Bool.and_eq_true];exact hx)],by simp⟩,fun hx=>⟨aQ (by omega) (by omega),k+1,by omega,by omega,by rw[hs,if_neg (by rw[hx];simp)],by simp⟩⟩
theorem ok47:FOk Try.prog 47 S47:=by
 have hC:aG Try.prog C47:=okA aS
 refine FOk.intro hC (dG hC) Try.call47 Try.func47 (by kernel_rfl) (by kernel_rfl) L47 ?_
 rw[vc47]
 simp only[zz,zy]
 rintro⟨x,u⟩ _
 dsimp only
 unfold Sp.gA
 rw[Bool.eq_iff_iff]
 simp
theorem ok93:FOk Try.prog 93 S93:=by
 have hC:aG Try.prog C93:=okC (aE ok111 (aE ok47 aS)) rfl rfl rfl rfl rfl rfl rfl
 refine FOk.intro hC (dG hC) Try.call93 Try.func93 (by kernel_rfl) (by kernel_rfl) L93 ?_
 rw[vc93]
 simp only[zz,zy]
 rintro⟨c,b,a,u⟩ ⟨h,ha0,ha1⟩ hf
 have hb0:(([],(0,0,(0,0,0,()),(0,0,0,()),(0,0,0,()),List.replicate 2 0,()),()):Sp.Block)=Sp.bE:=rfl
 have hi0:((0,0,0,(0,0,0,()),(0,0,0,()),(0,0,0,()),(0,0,0,()),()):Sp.Inst)=cZ:=rfl
 have hi1:((0,0,0,Sp.bM,Sp.bM,Sp.bM,Sp.bM,()):Sp.Inst)=cZ:=rfl
 have hcB:c.2.2.2.2.2.2.2.1=Sp.cB c:=rfl
 have htr:∀b:Nat,((Sp.cB c).getD b Sp.bE).2.1=Sp.trm c b:=fun _=>rfl
 have hin:∀b:Nat,((Sp.cB c).getD b Sp.bE).1=Sp.ins c b:=fun _=>rfl
 dsimp only at *
 simp only[hb0,hi0,hi1,hcB,htr,hin]
 have h:Sp.okT c:=h
 have ha0:(0:Int)<=a:=ha0
 have ha1:a<((Sp.cB c).length:Int):=ha1
 have hin:∀ {n:Nat},n=(Sp.cB c).length->inN a n:=fun e=>⟨ha0,by rw[e];exact ha1⟩
 generalize hL:Sp.pL c a=L
 have hone:((L.length:Int)=1/\L.getD (Int.toNat 0) 0=b)↔L=[b]:=by
  constructor
  ·rintro⟨g1,g2⟩
   have g1:L.length=1:=by omega
   obtain⟨y,rfl⟩:=List.length_eq_one_iff.1 g1;have g2:y=b:=g2;rw[g2]
  ·rintro rfl;exact⟨rfl,rfl⟩
 have hfalse:(¬(a≠b/\a≠0/\L=[b]/\(Sp.ins c a.toNat).length<=8/\(Sp.trm c a.toNat).1=1/\((Sp.ins c a.toNat).any fun i=> !Sp.gA i)=false))->false=Sp.fL c b a:=by
  intro hn;symm;unfold Sp.fL;rw[hL,Bool.eq_false_iff];intro g;simp only[Bool.and_eq_true,decide_eq_true_iff,Bool.not_eq_true']at g;exact hn g
 refine⟨h,⟨fun g=>⟨by omega,by omega⟩,fun _=>⟨ha0,ha1⟩,fun _=>⟨ha0,ha1⟩⟩,fun g=>hfalse ?_,fun g=>⟨⟨0,⟨Nat.zero_le _,fun j hj=>absurd hj (by omega)⟩,rfl⟩,fun k hk hf2=>⟨⟨ha0,ha1⟩,fun hlt=>⟨⟨⟨ha0,ha1⟩,⟨by omega,by omega⟩⟩,fun hp=>hfalse ?_,fun hp=>⟨d9 hlt (by have:=g.1.2;rw[lim_eq];omega),k+1,⟨by omega,fun j hj=> ?_⟩,by omega,by simp⟩⟩,fun hge=> ?_⟩⟩⟩
 ·rintro⟨g1,g2,g3,g4,g5,g6⟩
  obtain⟨q1,q2⟩:=hone.2 g3;simp only[Bool.or_eq_true,beq_iff_eq,bne_iff_ne,ne_eq,decide_eq_true_iff]at g;rcases g with((((g|g)|g)|g)|g)|g
  ·exact g1 g
  ·exact g2 g
  ·exact g q1
  ·exact g q2
  ·omega
  ·exact g g5
 ·rintro⟨g1,g2,g3,g4,g5,g6⟩
  rw[List.any_eq_false]at g6;have hkl:k<(Sp.ins c a.toNat).length:=by omega
  have:=g6 ((Sp.ins c a.toNat).getD k cZ) (by rw[Sp.gat hkl];exact List.getElem_mem _)
  rw[hp]at this;exact this rfl
 ·rcases Nat.lt_succ_iff_lt_or_eq.1 hj with hj|rfl
  ·exact hk.2 j hj
  ·exact hp
 ·symm
  unfold Sp.fL;rw[hL];simp only[Bool.and_eq_true,decide_eq_true_iff,Bool.not_eq_true'];refine⟨g.1.1.1.1.1,g.1.1.1.1.2,hone.1 ⟨g.1.1.1.2,g.1.1.2⟩,by have:=g.1.2;omega,g.2,?_⟩
  rw[List.any_eq_false];intro i hi;obtain⟨j,hj,rfl⟩:=List.mem_iff_getElem.1 hi;have:=hk.2 j (by omega);rw[Sp.gat hj]at this;rw[this];simp
theorem ok68:FOk Try.prog 68 S68:=by
 have hC:aG Try.prog C68:=okC (aE ok17 aS) rfl rfl rfl rfl rfl rfl rfl
 refine FOk.intro hC (dG hC) Try.call68 Try.func68 (by kernel_rfl) (by kernel_rfl) L68 ?_
 rw[vc68]
 simp only[zz,zy]
 rintro⟨n,o,u⟩ h _
 dsimp only at *
 unfold Sp.rnN
 refine⟨fun g=>h g,fun g=>⟨h g.1,by rw[if_pos g]⟩,fun g=> ?_⟩
 rw[if_neg (fun q=>by
  rw[Bool.and_eq_false_iff]at g;rcases g with g|g
  ·simp[q.1]at g
  ·rw[decide_eq_false_iff_not]at g;exact g q.2)]
theorem ok69:FOk Try.prog 69 S69:=by
 have hC:aG Try.prog C69:=okA aS
 refine FOk.intro hC (dG hC) Try.call69 Try.func69 (by kernel_rfl) (by kernel_rfl) L69 ?_
 rw[vc69]
 simp only[zz,zy]
 rintro⟨c,u⟩ ⟨h1,h2⟩ _
 have hb0:(([],(0,0,(0,0,0,()),(0,0,0,()),(0,0,0,()),List.replicate 2 0,()),()):Sp.Block)=Sp.bE:=rfl
 have hcB:c.2.2.2.2.2.2.2.1=Sp.cB c:=rfl
 dsimp only at *
 simp only[hb0,hcB]
 have h1:(Sp.cB c).length<=10000:=h1
 have h2:∀b∈Sp.cB c,b.1.length<=20000:=h2
 refine⟨⟨0,Nat.zero_le _,rfl,rfl⟩,?_⟩
 intro k hk _
 refine⟨fun hlt=> ?_,fun hge=>by rw[List.take_of_length_le (by omega)]⟩
 have hkl:k<(Sp.cB c).length:=by omega
 have ht:=Sp.totN_le (l:=(Sp.cB c).take k) fun b hb=>h2 b (List.mem_of_mem_take hb)
 have hm:(Sp.cB c).getD k Sp.bE∈Sp.cB c:=by rw[Sp.gat hkl];exact List.getElem_mem _
 have h3:=h2 _ hm
 rw[List.length_take]at ht
 refine⟨⟨⟨by omega,by omega⟩,aQ (by omega) (by omega)⟩,aQ (by omega) (by omega),k+1,by omega,by omega,?_,by simp⟩
 rw[Sp.btake hkl,Sp.wE]
theorem ok67:FOk Try.prog 67 S67:=by
 have hC:aG Try.prog C67:=okC (aE ok17 (aE ok68 aS)) rfl rfl rfl rfl rfl rfl rfl
 refine FOk.introT hC (dG hC) Try.call67 Try.func67 rfl (by kernel_rfl) T67 ?_
 rw[vc67]
 simp only[zz,zy]
 rintro⟨l,old,n,u⟩ ⟨h1,h2,h3,h4⟩ _
 have hi0:((0,0,0,(0,0,0,()),(0,0,0,()),(0,0,0,()),(0,0,0,()),()):Sp.Inst)=cZ:=rfl
 dsimp only at *
 simp only[hi0]
 have h1:l.length<=3000:=h1
 have h2:(0:Int)<=old/\old<=3000:=h2
 have h3:(0:Int)<=n/\n<=100000:=h3
 have h4:∀i∈l,Sp.inOK old i:=h4
 refine⟨⟨0,by omega,rfl,rfl⟩,fun r hr _=>⟨fun hlt=>⟨by rw[List.length_replicate];exact gW (by omega),aQ (by omega) (by omega),r+1,by omega,by omega,?_,by simp⟩,fun hge=>⟨⟨0,Nat.zero_le _,?_,rfl⟩,fun k hk _=>⟨fun hlt=> ?_,fun hge=> ?_⟩⟩⟩⟩
 ·rw[List.replicate_succ']
 ·rw[Sp.cpK_zero,show r=old.toNat by omega]
 ·have hkl:k<l.length:=by omega
  have hm:l.getD k cZ∈l:=by rw[Sp.gat hkl];exact List.getElem_mem _
  have hi:=h4 _ hm
  have htk:l.take (k+1)=l.take k++[l.getD k cZ]:=by rw[List.take_succ_eq_append_getElem hkl,Sp.gat hkl]
  have hlk:(l.take k).length=k:=by rw[List.length_take];omega
  obtain⟨s1,s2⟩:=Sp.xB (l.take k) (l.getD k cZ) n Sp.nm0;rw[hlk]at s1 s2;have hnn:Sp.NN (Sp.cpN (l.take k) n Sp.nm0):=Sp.nn_cp _ _ _ h3.1 Sp.nn0;rw[Sp.lY,Sp.rn_eq hnn hi.a,Sp.rn_eq hnn hi.b,Sp.rn_eq hnn hi.c,Sp.nmL_set (Sp.cpN (l.take k) n Sp.nm0) (n:=old) (d:=(l.getD k cZ).2.2.2.1.2.1) (v:=n+(k:Int)) hi.d.1 hi.d.2];have hd:=hi.d;unfold Sp.iD at hd;refine⟨⟨by omega,by omega⟩,fun g=>by have:=hi.a g;omega,fun g=>by have:=hi.b g;omega,fun g=>by have:=hi.c g;omega,⟨⟨by omega,by omega⟩,⟨by omega,by omega⟩⟩,aQ (by omega) (by omega),by rw[Sp.eB,hlk];exact gW (by omega),aQ (by omega) (by omega),k+1,by omega,by omega,?_,by simp⟩
  unfold Sp.cpK;rw[htk,s1,s2];have e:n+(k:Int)+1=n+((k+1:Nat):Int):=by omega
  rw[e]
  rfl
 ·unfold Sp.cpd
  rw[show k=l.length by omega]
end Go.User
namespace Go.User
theorem uM{p:Bool}{x y z w:Int}(h:(p&&x==y&&z !=w)=false):¬(p=true/\x=y/\z≠w):=by
 rintro⟨h1,h2,h3⟩
 rw[Bool.and_eq_false_iff,Bool.and_eq_false_iff]at h
 rcases h with(h|h)|h
 ·rw[h1]at h;cases h
 ·exact beq_eq_false_iff_ne.1 h h2
 ·rw[bne_eq_false_iff_eq]at h;exact h3 h
open Go.Lf Go.Proofs
theorem ok66:FOk Try.prog 66 S66:=by
 have hC:aG Try.prog C66:=okC (aE ok92 (aE ok93 aS)) rfl rfl rfl rfl rfl rfl rfl
 refine FOk.intro hC (dG hC) Try.call66 Try.func66 (by kernel_rfl) (by kernel_rfl) L66 ?_
 rw[vc66]
 simp only[zz,zy]
 rintro⟨c,b,u⟩ ⟨h,hb0,hb1⟩ _
 have hB0:(([],(0,0,(0,0,0,()),(0,0,0,()),(0,0,0,()),List.replicate 2 0,()),()):Sp.Block)=Sp.bE:=rfl
 have hcB:c.2.2.2.2.2.2.2.1=Sp.cB c:=rfl
 have htr:∀b:Nat,((Sp.cB c).getD b Sp.bE).2.1=Sp.trm c b:=fun _=>rfl
 have ht0:∀t:Sp.Term,t.2.2.2.2.2.1.getD (Int.toNat 0) 0=Sp.to0 t:=fun _=>rfl
 have ht1:∀t:Sp.Term,t.2.2.2.2.2.1.getD (Int.toNat 1) 0=Sp.to1 t:=fun _=>rfl
 have hset:∀p q:Bool,((List.replicate 2 false).set 0 p).set 1 q=[p,q]:=fun _ _=>rfl
 have hg0:∀p q:Bool,[p,q].getD (Int.toNat 0) false=p:=fun _ _=>rfl
 have hg1:∀p q:Bool,[p,q].getD (Int.toNat 1) false=q:=fun _ _=>rfl
 have hrep:List.replicate 2 false=[false,false]:=rfl
 dsimp only at *
 simp only[hB0,hcB,htr,ht0,ht1,hset,hg0,hg1]
 simp only[hrep]
 have h:Sp.okT c:=h
 have hb0:(0:Int)<=b:=hb0
 have hb1:b<((Sp.cB c).length:Int):=hb1
 have n02:inN 0 2:=⟨by omega,by omega⟩
 have n12:inN 1 2:=⟨by omega,by omega⟩
 rw[Sp.kF c (by omega:b.toNat<(Sp.cB c).length)]
 have ho0:Sp.to0 (Sp.trm c (Sp.to0 (Sp.trm c b.toNat)).toNat)=Sp.mV c b:=rfl
 have ho1:Sp.to0 (Sp.trm c (Sp.to1 (Sp.trm c b.toNat)).toNat)=Sp.p9 c b:=rfl
 rw[ho0,ho1]
 refine⟨⟨hb0,hb1⟩,h,⟨⟨hb0,by rw[Sp.jV];exact hb1⟩,fun _=>n02,fun _=>n12⟩,fun hc=> ?_,fun hc=> ?_⟩
 ·unfold Sp.vY
  rw[if_pos];simp only[Bool.or_eq_true,Bool.not_eq_true',bne_iff_ne,ne_eq,beq_iff_eq]at hc;rcases hc with(hc|hc)|hc
  ·exact .inl hc
  ·exact .inr (.inl hc)
  ·exact .inr (.inr hc)
 ·obtain⟨⟨hr,hk⟩,hne⟩:=hc
  have hs:Sp.aR (Sp.trm c b.toNat)=[Sp.to0 (Sp.trm c b.toNat),Sp.to1 (Sp.trm c b.toNat)]:=by
   unfold Sp.aR;rw[if_neg (by rw[hk];decide),if_pos ⟨hk,hne⟩];exact Sp.oD (h.two _ (by omega))
  have r0:=h.to b.toNat (by omega) (Sp.to0 (Sp.trm c b.toNat)) (by rw[hs];simp)
  have r1:=h.to b.toNat (by omega) (Sp.to1 (Sp.trm c b.toNat)) (by rw[hs];simp)
  have e:Sp.vY c b=if Sp.fL c b (Sp.to0 (Sp.trm c b.toNat))=true/\Sp.fL c b (Sp.to1 (Sp.trm c b.toNat))=true/\Sp.mV c b=Sp.p9 c b then(decide (Sp.mV c b≠b),[Sp.fL c b (Sp.to0 (Sp.trm c b.toNat)),Sp.fL c b (Sp.to1 (Sp.trm c b.toNat))],Sp.mV c b,())
 else if Sp.fL c b (Sp.to0 (Sp.trm c b.toNat))=true/\Sp.mV c b=Sp.to1 (Sp.trm c b.toNat)/\Sp.mV c b≠b then(true,[true,false],Sp.mV c b,())
 else if Sp.fL c b (Sp.to1 (Sp.trm c b.toNat))=true/\Sp.p9 c b=Sp.to0 (Sp.trm c b.toNat)/\Sp.p9 c b≠b then(true,[false,true],Sp.p9 c b,())
 else(false,[false,false],0,()):=by
   unfold Sp.vY;rw[if_neg];rintro (g|g|g)
   ·rw[hr]at g;cases g
   ·exact g hk
   ·exact hne g
  rw[e];clear e;generalize Sp.fL c b (Sp.to0 (Sp.trm c b.toNat))=a0;generalize Sp.fL c b (Sp.to1 (Sp.trm c b.toNat))=a1;generalize Sp.mV c b=o0;generalize Sp.p9 c b=o1;generalize Sp.to0 (Sp.trm c b.toNat)=t0 at *;generalize Sp.to1 (Sp.trm c b.toNat)=t1 at *;refine⟨⟨n02,⟨h,r0⟩,n12,h,r1⟩,⟨n02,r0,n02,n12,r1,n02⟩,⟨n02,fun _=>n12⟩,fun g=> ?_,fun g=>⟨⟨n02,fun _=>n12⟩,fun q=> ?_,fun q=>⟨⟨n12,fun _=>n02⟩,fun v=> ?_,fun v=> ?_⟩⟩⟩
  ·rw[if_pos ⟨g.1.1,g.1.2,g.2⟩]
   have:(o0 !=b)=decide (o0≠b):=by rw[Bool.eq_iff_iff];simp
   rw[this]
  ·rw[if_neg (fun w=>by simp[w.1,w.2.1,w.2.2]at g),if_pos ⟨q.1.1,q.1.2,q.2⟩]
  ·rw[if_neg (fun w=>by simp[w.1,w.2.1,w.2.2]at g),if_neg (uM q),if_pos ⟨v.1.1,v.1.2,v.2⟩]
  ·rw[if_neg (fun w=>by simp[w.1,w.2.1,w.2.2]at g),if_neg (uM q),if_neg (uM v)]
end Go.User
namespace Sp
noncomputable section
structure okV(c:Code):Prop where
 ar:(cA c).length<=5000
 lo:(cL c).length<=5000
 ins:∀b,b<(cB c).length->∀i∈Sp.ins c b,inOK c.2.2.1 i
def yZ:Cpd:=([],0,[],())
def v8(c:Code)(b:Int)(k:Nat):Cpd:=(iA c b k,rA c b (k+1),nmL (nA c b k) c.2.2.1,())
def xR(c:Code)(b:Int)(k:Nat):List Cpd:=[if 1<=k then v8 c b 0 else yZ,if 2<=k then v8 c b 1 else yZ]
def qX(c:Code)(b:Int)(r:Nat):List Inst:=((List.range r).filter (fun(r:Nat)=>((nA c b 0) (r:Int)).isSome||((nA c b 1) (r:Int)).isSome)).map (selI c.2.2.1 (nA c b 0) (nA c b 1))
end
end Sp
namespace Go.User
open Go.Lf
noncomputable section
def S31:bD:={args:=[.val bF,.val tI],multi:=true,res:= .prod bF (.prod .bool .unit),mode:= .shr,pre:=fun x=>Sp.okA x.1/\Sp.okV x.1,fn:=fun x=>Sp.atC x.1 x.2.1}
def C31:Ctx:={mkC 168 [(66,S66),(16,S16),(17,S17),(67,S67),(68,S68),(69,S69)]with mds:=[(4,.shr),(6,.shr),(7,.shr),(40,mCp),(8,mCp),(9,.shr),(44,.own .shr),(51,.own .shr),(57,.own .shr),(10,.own .shr),(11,.shr),(58,.shr),(66,.shr),(14,.shr),(86,.shr),(87,mW),(105,.own .shr),(146,.own .shr),(155,mW)],frz:=[66],asn:=[150]}
def A31(x:aH S31.args):aW:={ι:=Nat,inv:=fun k=>k<=2,dec:=fun k=>2-k,ovr:=fun k=>[(8,.box bF mCp (Sp.nG x.1 (Sp.bA x.1 x.2.1 k))),(10,.own (.slice aC) (.own .shr) (Sp.lA x.1 x.2.1 k)),(11,.box (.arr 2 qU) .shr (Sp.xR x.1 x.2.1 k)),(12,.shr tI (Sp.rA x.1 x.2.1 k)),(13,.shr tI (k:Int))],keep:=[1,2,4,5,6,7,9]}
def B31(x:aH S31.args):aW:={ι:=Nat,inv:=fun r=>(r:Int)<=x.1.2.2.1,dec:=fun r=>x.1.2.2.1.toNat-r,ovr:=fun r=>[(10,.own (.slice aC) (.own .shr) (Sp.lA x.1 x.2.1 2++Sp.qX x.1 x.2.1 r)),(15,.shr tI (r:Int))],keep:=[1,2,4,5,6,7,8,9,11,12]}
def T31(x:aH S31.args):KT:=
 let tail:KT:= .s (.i []) (.s (.i []) (.s (.i []) (.z 8 [])))
 .s (.i []) (.s (.i []) (.s (.i []) (.s (.i []) (.s (.i []) (.s (.i []) (.s (.i []) (.s (.i []) (.s (.i []) (.s (.i [A31 x]) (.s (.i [B31 x]) tail))))))))))
end
end Go.User
namespace Go.User
open Go.Proofs Go.Lf
set_option maxRecDepth 100000
theorem vc31:(oZ C31 (dL [] C31) S31 T31 Try.f31)=(
let q0:=(2:Nat);
let q1:=True/\True/\True;
let q2:=True/\q1;
let q3:=q2/\True;
let q4:Int:=(0:Int);
let q5:=(True/\True)/\q1;
let q6:Bool×Unit:=(false,());
let q7:Int:=(0:(AK.val tI).den);
let q8:=True/\q2;
let q9:=(5000:Nat);
let q10:=(0:Nat);
let q11:Sp.Opd:=(q4,q4,q4,());
let q12:List Int:=List.replicate q0 q4;
let q13:Int×Sp.Opd×Sp.Opd×Sp.Opd×List Int×Unit:=(q4,q11,q11,q11,q12,());
let q14:Sp.Block:=(([]:List aC.den),(q4,q13),());
let q15:Int:=(1:Int);
let q16:Sp.Opd×Sp.Opd×Unit:=(q11,q11,());
let q17:=q1/\True/\True;
let q18:=(True/\True)/\True;
let q19:Sp.Cpd:=(([]:List aC.den),q4,([]:List tI.den),());
let q20:Sp.Code:=(q4,q4,q4,q4,q4,([]:List cC.den),([]:List bC.den),([]:List eW.den),());
let q21:=q20=q20;
let q22:=false=false;
let q23:=q1/\True;
let q24:Int:=(2:Int);
let q25:=(3000:Nat);
let q26:=inN q4 q0;
let q27:=q4.toNat;
let q28:=inN q15 q0;
let q29:=q15.toNat;
let q30:=q24=(2:tI.den);
let q31:Int:=(4:Int);
let q32:=(1:Nat);
∀(x:Sp.Code×Int×Unit),
 let q33:Bool:=decide (x.2.1<q4);
 let q34:=(true&&bif q33 then false else true)=true->True;
 let q35:Int×List Sp.Arr×List Sp.Opd×List Sp.Block×Unit:=x.1.2.2.2.2;
 let q36:List Sp.Arr×List Sp.Opd×List Sp.Block×Unit:=q35.2;
 let q37:List Sp.Opd×List Sp.Block×Unit:=q36.2;
 let q38:List Sp.Block:=q37.2.1;
 let q39:=q38.length;
 let q40:Bool:=bif q33 then true else decide (x.2.1≥(↑q39:Int));
 let q41:Sp.Code×Bool×Unit:=Sp.atC x.1 x.2.1;
 let q42:=q5/\(x.1,q6)=q41;
 let q43:=(Sp.cB x.1).length;
 let q44:=inN x.2.1 q39;
 let q45:Bool×List Bool×Int×Unit:=Sp.vY x.1 x.2.1;
 let q46:Bool:= !q45.1;
 let q47:Sp.Block:=q38.getD x.2.1.toNat q14;
 let q48:List Sp.Inst:=q47.1;
 let q49:=q48.length;
 let q50:Sp.Opd:=Sp.bK x.1.2.2.1;
 let q51:Sp.Term:=q47.2.1;
 let q52:Sp.Opd×Sp.Opd×List Int×Unit:=q51.2.2.2;
 let q53:List Sp.Inst:=(q15,q4,q4,q50,q52.1,q16)::([]:List aC.den);
 let q54:Int:=x.1.2.2.1+q15;
 let q55:=x.2.1=x.2.1;
 let q56:=x.1=x.1;
 let q57:=q45=q45;
 let q58:=q51=q51;
 let q59:=q50=q50;
 let q60:=q55/\q56/\q21/\q22/\q57/\q58/\q59/\True;
 let q61:List Bool×Int×Unit:=q45.2;
 let q62:List Int:=q52.2.2.1;
 let q63:=q7<=x.1.2.2.1/\x.1.2.2.1<=(3000:(AK.val tI).den);
 let q64:Int:=x.1.2.2.2.1;
 let q65:Int:=q35.1;
 let q66:List Sp.Arr:=q36.1;
 let q67:List Sp.Opd:=q37.1;
 let q68:List Sp.Inst:=Sp.lA x.1 x.2.1 q0;
 let q69:=x.1.2.2.1.toNat;
 let q70:Sp.Term×Unit:=((q15,q4,q11,q11,q11,(q12.set q10 q61.2.1).set q32 q4,()),());
 Sp.okA x.1/\Sp.okV x.1->
 aB (tI.prod (tI.prod (tI.prod (tI.prod (tI.prod (cC.slice.prod (bC.slice.prod ((aC.slice.prod ((tI.prod (tI.prod (aM.prod (aM.prod (aM.prod ((Ty.arr q0 tI).prod Ty.unit)))))).prod Ty.unit)).slice.prod Ty.unit)))))))) x.1/\aB tI x.2.1/\True->
 q3/\
 ((True/\True/\True/\q34/\q34/\q34/\q34/\q34/\True/\True)/\True)/\
 (q40=true->q42)/\
 (q40=false->
 (True/\True/\(Sp.okT x.1/\q7<=x.2.1/\x.2.1<(↑q43:Int))/\True/\True/\True/\q44/\q8)/\
 q3/\
 (q46=true->q42)/\
 (q46=false->
 ((True/\((Sp.cA x.1).length<=q9/\(Sp.cL x.1).length<=q9/\q43<=q9/\∀(b:Sp.Block),b∈Sp.cB x.1->b.1.length<=q9)/\True/\True)/\True/\True)/\
 (q8/\True/\True)/\
 ((True/\True/\True/\True/\q44/\True/\True/\(↑(q10+q49):Int)<=bJ/\True/\True/\True/\True/\True/\(↑(q49+q53.length):Int)<=bJ/\True)/\True/\True)/\
 q17/\
 ((True/\True/\inK IntKind.i64 q54/\True/\True)/\True)/\
 q18/\
 (∃(x_1:Nat),x_1<=q0/\x.1=Sp.nG x.1 (Sp.bA x.1 x.2.1 x_1)/\q48++q53=Sp.lA x.1 x.2.1 x_1/\List.replicate q0 q19=Sp.xR x.1 x.2.1 x_1/\q54=Sp.rA x.1 x.2.1 x_1/\q4=(↑x_1:Int)/\q60)/\
 ∀(x_1:Nat),
 let q71:List Sp.Block:=Sp.bA x.1 x.2.1 x_1;
 let q72:Sp.Code:=Sp.nG x.1 q71;
 let q73:List Sp.Inst:=Sp.lA x.1 x.2.1 x_1;
 let q74:List Sp.Cpd:=Sp.xR x.1 x.2.1 x_1;
 let q75:Int:=Sp.rA x.1 x.2.1 x_1;
 let q76:Bool:=decide ((↑x_1:Int)<q24);
 let q77:=inN (↑x_1:Int) q0;
 let q78:=(↑x_1:Int).toNat;
 let q79:Bool:=q61.1.getD q78 false;
 let q80:Int:=q62.getD q78 q4;
 let q81:=q71.length;
 let q82:=q80.toNat;
 let q83:List Sp.Inst:=(q38.getD q82 q14).1;
 let q84:=q7<=q75/\q75<=(100000:(AK.val tI).den);
 let q85:=q77/\True;
 let q86:=(True/\q77/\q2)/\True;
 let q87:=True/\True/\q77/\q1;
 let q88:=q73.length;
 let q89:List Sp.Cpd:=q74.set q78 (Sp.cpd q83 x.1.2.2.1 q75);
 let q90:Sp.Cpd:=q89.getD q78 q19;
 let q91:List Sp.Inst:=q90.1;
 let q92:Int:=(↑x_1:Int)+q15;
 let q93:=(True/\inK IntKind.i64 q92/\True/\True)/\True;
 let q94:List Sp.Cpd:=q74.set q78 (Sp.cpd (([]:List aC.den)) x.1.2.2.1 q75);
 let q95:Sp.Cpd:=q94.getD q78 q19;
 let q96:List Sp.Inst:=q95.1;
 let q97:=q55/\q56/\q21/\q22/\q57/\q58/\q72=q72/\q59/\q74=q74/\q75=q75/\True;
 let q98:List Int:=(q74.getD q27 q19).2.2.1;
 let q99:=q98.length;
 let q100:List Int:=(q74.getD q29 q19).2.2.1;
 let q101:=q100.length;
 let q102:Bool:=decide (q75>(256:Int));
 let q103:=(true&&bif q102 then false else true)=true;
 let q104:=q103->True;
 x_1<=q0->
 aB (tI.prod (tI.prod (tI.prod (tI.prod (tI.prod (cC.slice.prod (bC.slice.prod ((aC.slice.prod ((tI.prod (tI.prod (aM.prod (aM.prod (aM.prod ((Ty.arr q0 tI).prod Ty.unit)))))).prod Ty.unit)).slice.prod Ty.unit)))))))) q72/\aB aC.slice q73/\aB (Ty.arr q0 qU) q74/\aB tI q75/\aB tI (↑x_1:Int)/\True->
 q23/\
 (q76=true->q23/\((True/\True/\q77/\True/\True)/\True)/\(q79=true->((True/\True/\True/\True/\q77/\True/\inN q80 q39/\q2)/\True)/\((True/\True/\True/\True/\q77/\True/\True/\True/\inN q80 q81/\True)/\True/\True)/\((True/\True/\True/\True/\True/\(q83.length<=q25/\q63/\q84/\∀(i:Sp.Inst),i∈q83->Sp.inOK x.1.2.2.1 i)/\q85)/\True/\True)/\q86/\(q87/\(↑(q88+q91.length):Int)<=bJ/\True/\True)/\q93/\∃(y:Nat),y<=q0/\q0-y<q0-x_1/\(x.1.1,x.1.2.1,x.1.2.2.1,q64,q65,q66,q67,q71.set q82 (([]:List aC.den),((5:Int),q13),()),())=Sp.nG x.1 (Sp.bA x.1 x.2.1 y)/\q73++q91=Sp.lA x.1 x.2.1 y/\q89=Sp.xR x.1 x.2.1 y/\q90.2.1=Sp.rA x.1 x.2.1 y/\q92=(↑y:Int)/\q60)/\(q79=false->((True/\True/\True/\True/\True/\(q10<=q25/\q63/\q84/\∀(i:Sp.Inst),i∈([]:List aC.den)->Sp.inOK x.1.2.2.1 i)/\q85)/\True/\True)/\q86/\(q87/\(↑(q88+q96.length):Int)<=bJ/\True/\True)/\q93/\∃(y:Nat),y<=q0/\q0-y<q0-x_1/\q72=Sp.nG x.1 (Sp.bA x.1 x.2.1 y)/\q73++q96=Sp.lA x.1 x.2.1 y/\q94=Sp.xR x.1 x.2.1 y/\q95.2.1=Sp.rA x.1 x.2.1 y/\q92=(↑y:Int)/\q60))/\
 (q76=false->
 q18/\
 (∃(x_2:Nat),(↑x_2:Int)<=x.1.2.2.1/\q73=q68++Sp.qX x.1 x.2.1 x_2/\q4=(↑x_2:Int)/\q97)/\
 ∀(x_2:Nat),
 let q105:List Sp.Inst:=q68++Sp.qX x.1 x.2.1 x_2;
 let q106:Bool:=decide ((↑x_2:Int)<x.1.2.2.1);
 let q107:=(↑x_2:Int).toNat;
 let q108:Bool:=decide (q98.getD q107 q4≥q4);
 let q109:=(true&&bif q108 then false else true)=true;
 let q110:=q109->True;
 let q111:Bool:=bif q108 then true else decide (q100.getD q107 q4≥q4);
 let q112:=(0:tI.den)<=(↑x_2:Int);
 let q113:Sp.Opd:=Sp.bK (↑x_2:Int);
 let q114:List Sp.Inst:=(q31,q4,q4,q113,q50,Sp.rnN q98 q113,Sp.rnN q100 q113,())::([]:List aC.den);
 let q115:Int:=(↑x_2:Int)+q15;
 let q116:=(True/\inK IntKind.i64 q115/\True/\True)/\True;
 let q117:Sp.Code:=(x.1.1,x.1.2.1,q75,q64,q65,q66,q67,q71.set x.2.1.toNat (q105,q70),());
 let q118:List Sp.Block:=Sp.cB q117;
 let q119:Bool:=bif q102 then true else decide (Sp.gF q118>(2000:Int));
 (↑x_2:Int)<=x.1.2.2.1->aB aC.slice q105/\aB tI (↑x_2:Int)/\True->(q8/\True)/\(q106=true->((q26/\True/\True/\True/\inN (↑x_2:Int) q99/\True/\True/\True/\(q109->q28)/\q110/\q110/\q110/\(q109->inN (↑x_2:Int) q101)/\q110/\q110/\True/\True)/\True)/\(q111=true->((True/\True/\True/\True/\q26/\True/\True/\True/\True/\(q30->q112/\(↑x_2:Int)<(↑q99:Int))/\q28/\True/\True/\True/\True/\(q30->q112/\(↑x_2:Int)<(↑q101:Int))/\q1)/\(↑(q105.length+q114.length):Int)<=bJ/\True/\True)/\q116/\∃(y:Nat),(↑y:Int)<=x.1.2.2.1/\q69-y<q69-x_2/\q105++q114=q68++Sp.qX x.1 x.2.1 y/\q115=(↑y:Int)/\q97)/\(q111=false->q116/\∃(y:Nat),(↑y:Int)<=x.1.2.2.1/\q69-y<q69-x_2/\q105=q68++Sp.qX x.1 x.2.1 y/\q115=(↑y:Int)/\q97))/\(q106=false->((True/\True/\True/\True/\True/\True/\True/\True/\True/\inN x.2.1 q81/\True)/\True/\True)/\q17/\((True/\True/\True/\q104/\(q103->q118.length<=(10000:Nat)/\∀(b:Sp.Block),b∈q118->b.1.length<=(20000:Nat))/\q104/\True/\True)/\True)/\(q119=true->q42)/\(q119=false->q5/\(q117,true,())=q41)))))):=by kernel_rfl
end Go.User
namespace Sp
theorem at_arm{c:Code}{b:Int}(p:xF c b){k:Nat}(hk:k<2)(ha:0<=(cY c b).1.getD k 0):(trm c b.toNat).2.2.2.2.2.1.getD k 0=(cY c b).1.getD k 0:=by
 have e:=p.arms
 rcases (show k=0∨k=1 by omega)with rfl|rfl
 ·rw[e]at ha⊢
  show to0 (trm c b.toNat)=d5 (wk0 c) b (to0 (trm c b.toNat))
  have ha:0<=d5 (wk0 c) b (to0 (trm c b.toNat)):=ha
  unfold d5 at ha⊢;split
  ·rfl
  ·rename_i h;rw[if_neg h]at ha;omega
 ·rw[e]at ha⊢
  show to1 (trm c b.toNat)=d5 (wk0 c) b (to1 (trm c b.toNat))
  have ha:0<=d5 (wk0 c) b (to1 (trm c b.toNat)):=ha
  unfold d5 at ha⊢;split
  ·rfl
  ·rename_i h;rw[if_neg h]at ha;omega
theorem bA_next(c:Code)(b:Int){k:Nat}(hk:k<2):bA c b (k+1)=iH (bA c b k) ((cY c b).1.getD k 0):=by
 rcases (show k=0∨k=1 by omega)with rfl|rfl<;>rfl
theorem rA_next(c:Code)(b:Int){k:Nat}(hk:k<2):rA c b (k+1)=rA c b k+((aI c b k).length:Int):=by
 rcases (show k=0∨k=1 by omega)with rfl|rfl
 ·exact rA1 c b
 ·exact rA2 c b
theorem lA_next(c:Code)(b:Int){k:Nat}(hk:k<2):lA c b (k+1)=lA c b k++iA c b k:=by
 rcases (show k=0∨k=1 by omega)with rfl|rfl
 ·exact lA1 c b
 ·exact lA2 c b
theorem xR_next(c:Code)(b:Int){k:Nat}(hk:k<2):(xR c b k).set k (v8 c b k)=xR c b (k+1):=by
 rcases (show k=0∨k=1 by omega)with rfl|rfl<;>rfl
theorem xR_at(c:Code)(b:Int){k:Nat}(hk:k<2)(v:Cpd):((xR c b k).set k v).getD k yZ=v:=by
 rcases (show k=0∨k=1 by omega)with rfl|rfl<;>rfl
theorem cpd_eq(c:Code)(b:Int){k:Nat}(hk:k<2):cpd (aI c b k) c.2.2.1 (rA c b k)=v8 c b k:=by
 unfold cpd cpK v8
 rw[List.take_length,rA_next c b hk]
 rfl
theorem selN_succ(c:Code)(b:Int)(r:Nat):qX c b (r+1)=if(((nA c b 0) (r:Int)).isSome||((nA c b 1) (r:Int)).isSome)=true then qX c b r++[selI c.2.2.1 (nA c b 0) (nA c b 1) r]else qX c b r:=by
 unfold qX
 rw[List.range_succ,List.filter_append,List.map_append]
 split
 ·rename_i h;rw[List.filter_cons_of_pos (p:=fun(r:Nat)=>((nA c b 0) (r:Int)).isSome||((nA c b 1) (r:Int)).isSome) h];rfl
 ·rename_i h;rw[List.filter_cons_of_neg (p:=fun(r:Nat)=>((nA c b 0) (r:Int)).isSome||((nA c b 1) (r:Int)).isSome) h];simp
theorem selN_len(c:Code)(b:Int)(r:Nat):(qX c b r).length<=r:=by
 unfold qX
 rw[List.length_map]
 have:=List.length_filter_le (fun(r:Nat)=>((nA c b 0) (r:Int)).isSome||((nA c b 1) (r:Int)).isSome) (List.range r)
 rwa [List.length_range]at this
theorem some_iff{m:Nm}(hm:NN m)(r:Int):(m r).isSome=decide (0<=(m r).getD (-1)):=by
 cases h:m r with
 |none=>rfl
 |some v=>have:=hm r v h;simp[this]
end Sp
namespace Go.User
open Go.Lf Go.Proofs
theorem ok31:FOk Try.prog 31 S31:=by
 have hC:aG Try.prog C31:=okC (aE ok66 (aE ok16 (aE ok17 (aE ok67 (aE ok68 (aE ok69 aS)))))) rfl rfl rfl rfl rfl rfl rfl
 refine FOk.introT hC (dG hC) Try.call31 Try.func31 rfl (by kernel_rfl) T31 ?_
 rw[vc31]
 simp only[zz,zy]
 rintro⟨c,b,u⟩ ⟨h,hv⟩ _
 have h:Sp.okA c:=h
 have hv:Sp.okV c:=hv
 have hb0:(([],(0,0,(0,0,0,()),(0,0,0,()),(0,0,0,()),List.replicate 2 0,()),()):Sp.Block)=Sp.bE:=rfl
 have hx0:(([],(5,0,(0,0,0,()),(0,0,0,()),(0,0,0,()),List.replicate 2 0,()),()):Sp.Block)=Sp.lK:=rfl
 have hc0:(([],0,[],()):Sp.Cpd)=Sp.yZ:=rfl
 have hcB:c.2.2.2.2.2.2.2.1=Sp.cB c:=rfl
 have hin:∀b:Nat,((Sp.cB c).getD b Sp.bE).1=Sp.ins c b:=fun _=>rfl
 have htr:∀b:Nat,((Sp.cB c).getD b Sp.bE).2.1=Sp.trm c b:=fun _=>rfl
 dsimp only
 simp only[hb0,hx0,hc0,hcB,hin,htr]
 have hrg:=h.rg
 have hbd:=h.t.bd
 have i0:inN 0 2:=⟨by omega,by omega⟩
 have i1:inN 1 2:=⟨by omega,by omega⟩
 refine⟨fun hbad=> ?_,fun hb=> ?_⟩
 ·rw[Bool.or_eq_true,decide_eq_true_eq,decide_eq_true_eq]at hbad
  unfold Sp.atC;rw[if_pos hbad]
 have hbl:b.toNat<(Sp.cB c).length:=by omega
 have hlen:=h.bl _ hbl
 obtain⟨e1,e2⟩:=Sp.pln_same h.t hb
 rw[e1]
 refine⟨⟨⟨h.t,hb⟩,hb⟩,fun hf=> ?_,fun ht=> ?_⟩
 ·unfold Sp.atC;rw[if_neg (by omega),if_pos hf]
 obtain⟨e2,e3⟩:=e2 ht
 rw[e2,e3]
 have p:=Sp.nL hb ht
 have ha0:=Sp.sC h hb p (k:=0) (by omega)
 have ha1:=Sp.sC h hb p (k:=1) (by omega)
 have hr0:=Sp.rA0 c b
 have hr1:=Sp.rA1 c b
 have hr2:=Sp.rA2 c b
 have hlA0:(Sp.lA c b 0).length=(Sp.ins c b.toNat).length+1:=by rw[Sp.lA0];simp
 have hlA1:(Sp.lA c b 1).length=(Sp.ins c b.toNat).length+1+(Sp.aI c b 0).length:=by rw[Sp.lA1,Sp.lA0];unfold Sp.iA;simp[Sp.eB];omega
 have hlA2:(Sp.lA c b 2).length=(Sp.ins c b.toNat).length+1+(Sp.aI c b 0).length+(Sp.aI c b 1).length:=by rw[Sp.lA2,Sp.lA1,Sp.lA0];unfold Sp.iA;simp[Sp.eB];omega
 refine⟨⟨hv.ar,hv.lo,by omega,fun x hx=> ?_⟩,⟨hb,gW (by omega),gW (by omega)⟩,aQ (by omega) (by omega),⟨0,by omega,rfl,?_,rfl,hr0.symm,rfl⟩,fun k hk _=>⟨fun hlt=> ?_,fun hge=> ?_⟩⟩
 ·obtain⟨i,hi,e⟩:=Sp.mem_cB hx
  rw[e];have:=h.bl i hi;omega
 ·rw[Sp.lA0];rfl
 ·have hk2:k<2:=by omega
  have ik:inN (k:Int) 2:=⟨by omega,by omega⟩
  have hrk:0<=Sp.rA c b k/\Sp.rA c b k<=10000:=by rcases (show k=0∨k=1 by omega)with rfl|rfl<;>omega
  have hak:(Sp.aI c b k).length<=3000:=by rcases (show k=0∨k=1 by omega)with rfl|rfl<;>assumption
  have hlk:(Sp.lA c b k).length<=10000:=by rcases (show k=0∨k=1 by omega)with rfl|rfl<;>omega
  have hrn:=Sp.rA_next c b hk2
  have hln:=Sp.lA_next c b hk2
  have hbn:=Sp.bA_next c b hk2
  have hcp:=Sp.cpd_eq c b hk2
  have hgA:[decide (0<=(Sp.cY c b).1.getD 0 0),decide (0<=(Sp.cY c b).1.getD 1 0)].getD k false=decide (0<=(Sp.cY c b).1.getD k 0):=by rcases (show k=0∨k=1 by omega)with rfl|rfl<;>rfl
  rw[hgA];have hil:(Sp.iA c b k).length=(Sp.aI c b k).length:=by unfold Sp.iA;rw[Sp.eB]
  have hfin:∀v,v=Sp.v8 c b k->Sp.lA c b k++(((Sp.xR c b k).set k v).getD k Sp.yZ).1=Sp.lA c b (k+1)/\(Sp.xR c b k).set k v=Sp.xR c b (k+1)/\(((Sp.xR c b k).set k v).getD k Sp.yZ).2.1=Sp.rA c b (k+1)/\(((Sp.xR c b k).set k v).getD k Sp.yZ).1.length<=3000:=by
   rintro v rfl
   rw[Sp.xR_at c b hk2,Sp.xR_next c b hk2,hln];exact⟨rfl,rfl,rfl,by show(Sp.iA c b k).length<=3000;rw[hil];exact hak⟩
  refine⟨ik,fun hd=> ?_,fun hd=> ?_⟩
  ·have hpos:0<=(Sp.cY c b).1.getD k 0:=of_decide_eq_true hd
   rw[Sp.at_arm p hk2 hpos];have hg:=(Sp.oP h.t hb p hk2).resolve_left (by omega);have he:=Sp.xE (c:=c) (b:=b) (k:=k) hpos;rw[<-he];obtain⟨f1,f2,f3,f4⟩:=hfin _ hcp;have hbl2:=Sp.pM c b k;refine⟨⟨ik,hg.1,hg.2.1⟩,⟨ik,hg.1,by rw[hbl2];exact hg.2.1⟩,⟨⟨hak,hrg,⟨by omega,by omega⟩,fun i hi=> ?_⟩,ik⟩,ik,⟨ik,gW (by omega)⟩,aQ (by omega) (by omega),k+1,by omega,by omega,?_,f1,f2,f3,by simp⟩
   ·rw[he]at hi
    exact hv.ins _ (by omega) i hi
   ·rw[hbn,Sp.rQ hpos];rfl
  ·have hneg:(Sp.cY c b).1.getD k 0<0:=by
    have:=of_decide_eq_false hd;omega
   have he:=Sp.kU (c:=c) (b:=b) (k:=k) hneg
   rw[he]at hcp;obtain⟨f1,f2,f3,f4⟩:=hfin _ hcp;refine⟨⟨⟨by omega,hrg,⟨by omega,by omega⟩,fun i hi=>absurd hi (by simp)⟩,ik⟩,ik,⟨ik,gW (by omega)⟩,aQ (by omega) (by omega),k+1,by omega,by omega,?_,f1,f2,f3,by simp⟩
   rw[hbn,Sp.rR hneg]
 have hk2:k=2:=by omega
 subst hk2
 have hx20:(Sp.xR c b 2).getD (Int.toNat 0) Sp.yZ=Sp.v8 c b 0:=rfl
 have hx21:(Sp.xR c b 2).getD (Int.toNat 1) Sp.yZ=Sp.v8 c b 1:=rfl
 have hn0:(Sp.v8 c b 0).2.2.1=Sp.nmL (Sp.nA c b 0) c.2.2.1:=rfl
 have hn1:(Sp.v8 c b 1).2.2.1=Sp.nmL (Sp.nA c b 1) c.2.2.1:=rfl
 simp only[hx20,hx21,hn0,hn1,Sp.lY]
 have nn0:Sp.NN (Sp.nA c b 0):=Sp.nn_cp _ _ _ (by omega) Sp.nn0
 have nn1:Sp.NN (Sp.nA c b 1):=Sp.nn_cp _ _ _ (by omega) Sp.nn0
 refine⟨⟨0,by omega,by unfold Sp.qX;simp,rfl⟩,fun r hr _=>⟨fun hlt=> ?_,fun hge=> ?_⟩⟩
 ·have hrl:(r:Int)<c.2.2.1:=hlt
  have g0:=Sp.uN (Sp.nA c b 0) (n:=c.2.2.1) (r:=(r:Int)) (by omega) hrl
  have g1:=Sp.uN (Sp.nA c b 1) (n:=c.2.2.1) (r:=(r:Int)) (by omega) hrl
  rw[show ((r:Int)).toNat=r by omega]at g0 g1
  rw[g0,g1];have hs:=Sp.selN_succ c b r;have hsl:=Sp.selN_len c b r;rw[Sp.some_iff nn0,Sp.some_iff nn1]at hs;have hop:Sp.oT c.2.2.1 (Sp.bK (r:Int)):=fun _=>⟨by show(0:Int)<=(r:Int);omega,hrl⟩
  rw[Sp.rn_eq nn0 hop,Sp.rn_eq nn1 hop];have irr:inN (r:Int) c.2.2.1.toNat:=⟨by omega,by omega⟩
  refine⟨⟨i0,irr,fun _=>i1,fun _=>irr⟩,fun hc=>⟨⟨⟨i0,irr,i1,irr⟩,by rw[List.length_append];exact gW (by omega)⟩,aQ (by omega) (by omega),r+1,by omega,by omega,?_,by simp⟩,fun hc=>⟨aQ (by omega) (by omega),r+1,by omega,by omega,?_,by simp⟩⟩
  ·rw[hs,if_pos hc,List.append_assoc];rfl
  ·rw[hs,if_neg]
   simp;omega
 ·have hr':r=c.2.2.1.toNat:=by
   have hge:c.2.2.1<=(r:Int):=hge
   have hr:(r:Int)<=c.2.2.1:=hr
   omega
  subst hr';have hsel:Sp.qX c b c.2.2.1.toNat=Sp.kA c b:=rfl;rw[hsel];have hsl:=Sp.selL_len c b;have hblen:=Sp.pM c b 2;have hN:((c.1,c.2.1,Sp.rA c b 2,c.2.2.2.1,c.2.2.2.2.1,c.2.2.2.2.2.1,c.2.2.2.2.2.2.1,(Sp.bA c b 2).set b.toNat (Sp.lA c b 2++Sp.kA c b,(1,0,(0,0,0,()),(0,0,0,()),(0,0,0,()),((List.replicate 2 0).set 0 (Sp.cY c b).2.1).set 1 0,()),()),()):Sp.Code)=Sp.eX c b:=rfl;simp only[hN];have hnB:Sp.cB (Sp.eX c b)=(Sp.bA c b 2).set b.toNat (Sp.lA c b 2++Sp.kA c b,Sp.mA (Sp.cY c b).2.1,()):=rfl;have hat:∀q:¬(256<Sp.rA c b 2∨2000<Sp.gF (Sp.cB (Sp.eX c b))),(Sp.eX c b,true,())=Sp.atC c b:=fun q=>by
   unfold Sp.atC;rw[if_neg (by omega),if_neg (by rw[ht];simp),if_neg q]
  refine⟨⟨hb.1,by rw[hblen];exact hb.2⟩,fun _=>⟨by rw[hnB,List.length_set,hblen];omega,fun x hx=> ?_⟩,fun hbad=> ?_,fun hgood=>hat (by omega)⟩
  ·rw[hnB]at hx
   rcases List.mem_or_eq_of_mem_set hx with hx|hx
   ·have:=Sp.bA_mem h b 2 x hx;omega
   ·subst hx
    show(Sp.lA c b 2++Sp.kA c b).length<=20000
    rw[List.length_append];omega
  ·unfold Sp.atC
   rw[Bool.or_eq_true,decide_eq_true_eq,decide_eq_true_eq]at hbad;rw[if_neg (by omega),if_neg (by rw[ht];simp),if_pos hbad]
end Go.User
