/- The laws of convert: both, drawn, Armed: what they compute. -/
import Derived.Test.YtagdgckmikcllaaLfp
import Derived.Shelf.SlSortCmp.NoneTotal
set_option linter.unusedVariables false
set_option linter.unusedSimpArgs false
namespace Go.User
open Go Go.Proofs Go.RowKit Go.Lib Go.Lf Go.Maps Go.WideElems
theorem loop29_eq:gN= .seq (l9 [false] gN) (.block 2 (.loop (.seq (l9 [true,true,true,false] gN) (.seq (.cond (.tmp 135) .skip (.exit 2)) (.block 3 (.seq (l9 [true,true,true,true,true,true,false] gN) R29)))))):=by kernel_rfl
theorem mid29_eq:fE=fE.take 2++[fE.getD 2 .skip,fE.getD 3 .skip,gN,fE.getD 5 .skip]:=by kernel_rfl
theorem wpCL_seq{P:Program}{x y:Code}{r:List Code}{Q:Exit->Act->World->Prop}:∀ {A:List Code} {a:Act} {w:World},j9 P (A++[x]) (Exit.then (j9 P (y::r) Q) Q) a w->j9 P (A++(.seq x y::r)) Q a w
 | [],a,w,h=>by
  refine wp_seq (Code.wp_mono (fun e a' w' h2=> ?_) h)
  cases e<;>exact h2
 |c::A,a,w,h=>by
  refine Code.wp_mono (fun e a' w' h2=> ?_) h
  cases e with
  |normal=>exact wpCL_seq h2
  |_=>exact h2
theorem xK{a:Act}(hd:a.defers=[])(hs:a.tmps.size=190):a=⟨tab (dQ (fun t=>a.tmps.getD t undef) []) 190,[]⟩:=by
 obtain⟨tm,df⟩:=a
 dsimp only at hd hs
 subst hd
 congr 1
 exact arr_tab tm hs
section
variable {N:NP} {w0:World} {F0 H:aA} {env:St} {a:Act} {w:World} {F:aA} {S:Nat->aA}
theorem uV(hi:aJ Try.prog N w0 F0 H env a w F S)(hn:a.tmps.size=190)(hp:N.p=none)(hps:N.ps=[])(l:List (Nat×Value)){env':St}(K:List Nat)(hK:∀t,t∉K->env' t= .dead)(hd:∀t∈K,t∉l.map (·.1)/\env' t=env t/\∀r,(env t).root=some r->r∈K):
  aJ Try.prog N w0 F0 H env' ⟨tab (dQ (fun t=>a.tmps.getD t undef) l) 190,[]⟩ w F S:=by
 refine hi.hand (a':=⟨tab (dQ (fun t=>a.tmps.getD t undef) l) 190,[]⟩) rfl (by rw[tR,hn]) (l.map (·.1)) (fun t ht=> ?_) (fun s h=>by rw[hp]at h;cases h) (fun z h=>by rw[hps]at h;cases h) fun t=> ?_
 ·by_cases h:t<190
  ·rw[pR h,pV ht]
  ·rw[tab_out h]
   simp[Array.getD_eq_getD_getElem?,hn,h]
 ·by_cases h:t∈K
  ·obtain⟨h1,h2,h3⟩:=hd t h
   refine .inr ⟨h1,h2,fun r hr=> ?_⟩
   have:=hd r (h3 r hr)
   exact⟨this.1,this.2.1⟩
  ·exact .inl (hK t h)
theorem inv_only(hi:aJ Try.prog N w0 F0 H env a w F S){env':St}(K:List Nat)(hK:∀t,t∉K->env' t= .dead)(hd:∀t∈K,env' t=env t/\∀r,(env t).root=some r->r∈K):aJ Try.prog N w0 F0 H env' a w F S:=by
 refine hi.hand hi.defers rfl [] (fun t ht=>rfl) (fun s h=>by simp) (fun z h=>by simp) fun t=> ?_
 by_cases h:t∈K
 ·obtain⟨h2,h3⟩:=hd t h
  exact .inr ⟨by simp,h2,fun r hr=>⟨by simp,(hd r (h3 r hr)).1⟩⟩
 ·exact .inl (hK t h)
end
def jF:List Nat:=[1,2,4,5,6,8,10,11,12,30]
theorem pS{l:aW}{x:l.ι}{K:List Nat}(hk:l.keep=[])(h:∀t,t∉K->Lf.look (l.ovr x) t=none)(t:Nat)(ht:t∉K):stx l cF x t= .dead:=by
 unfold stx
 rw[h t ht,hk]
 rfl
theorem look_none{α:Type}:∀ {l:List (Nat×α)} {t:Nat},t∉l.map (·.1)->Lf.look l t=none
 | [],t,h=>rfl
 |p::l,t,h=>by
  have h1:t≠p.1:=fun e=>h (by simp[e])
  unfold Lf.look;rw[cE (Ne.symm h1)];exact look_none fun hm=>h (List.mem_cons_of_mem _ hm)
theorem pW(f:Nat->Value):∀(l l':List (Nat×Value)),dQ (dQ f l) l'=dQ f (l'++l)
 |l,[]=>rfl
 |l,p::l'=>by
  funext t
  show(if t=p.1 then p.2 else dQ (dQ f l) l' t)=if t=p.1 then p.2 else dQ f (l'++l) t
  rw[pW f l l']
theorem l1_out{x:aH S29.args}{u:Unit}{t:Nat}(h:t∉jF):stx (M29.l1 x) cF u t= .dead:=
 pS (K:=jF) rfl (fun t ht=>look_none (by exact ht)) t h
theorem lr_out{x:aH S29.args}{j:List Nat×Nat}{t:Nat}(h:t∉17::133::jF):stx (nR x) cF j t= .dead:=
 pS (K:=17::133::jF) rfl (fun t ht=>look_none (by exact ht)) t h
theorem ls_out{x:aH S29.args}{j:List Nat×Nat×Nat}{t:Nat}(h:t∉17::18::133::jF):stx (l29s x) cF j t= .dead:=
 pS (K:=17::18::133::jF) rfl (fun t ht=>look_none (by exact ht)) t h
theorem l2_out{x:aH S29.args}{u:(M29.l1 x).ι}{j:Unit}{t:Nat}(h:t∉ [1,2,4,5,6,8,11,17,30]):stx (M29.l2 x u) cF j t= .dead:=
 pS (K:=[1,2,4,5,6,8,11,17,30]) rfl (fun t ht=>look_none (by exact ht)) t h
theorem tA{x:aH S29.args}{j:List Nat×Nat}{t r:Nat}(h:(stx (nR x) cF j t).root=some r):r=30:=by
 by_cases ht:t∈17::133::jF
 ·simp only[jF,List.mem_cons,List.not_mem_nil,or_false]at ht
  rcases ht with rfl|rfl|rfl|rfl|rfl|rfl|rfl|rfl|rfl|rfl|rfl|rfl<;>first|(cases h;rfl)|cases h
 ·rw[lr_out ht]at h;cases h
theorem l1_root{x:aH S29.args}{u:Unit}{t r:Nat}(h:(stx (M29.l1 x) cF u t).root=some r):r=30:=by
 by_cases ht:t∈jF
 ·simp only[jF,List.mem_cons,List.not_mem_nil,or_false]at ht
  rcases ht with rfl|rfl|rfl|rfl|rfl|rfl|rfl|rfl|rfl|rfl<;>first|(cases h;rfl)|cases h
 ·rw[l1_out ht]at h;cases h
set_option maxRecDepth 100000 in
theorem fin29(x:aH S29.args)(u:(M29.l1 x).ι){w0:World}{F0 H:aA}{a:Act}{w:World}{F:aA}{S:Nat->aA}{ks:List Nat}{r:Nat}(hi:aJ Try.prog C29.np w0 F0 H (stx (nR x) cF (ks,r)) a w F S)
  (hrg:Int.le x.1.2.2.1 3000) (hn:ks.Nodup) (hm:∀k,k∈ks↔(((Sp.nA x.1 x.2.1 0) (k:Int)).isSome||((Sp.nA x.1 x.2.1 1) (k:Int)).isSome)=true) (hr:∀k∈ks,k<x.1.2.2.1.toNat) (Q:Exit->Act->World->Prop)
  (hQ:∀a' w',Inv Try.prog C29.np w0 F0 H (stx (M29.l2 x u) cF ()) a' w'->Q .normal a' w'):(fE.getD 5 .skip).wp Try.prog Q a w:=by
 have hrg:x.1.2.2.1.toNat<=3000:=Int.toNat_le.2 hrg
 have h17:=hi.ent 17
 have e17:stx (nR x) cF (ks,r) 17= .own (.slice aC) (.own .shr) (Sp.o9 x.1 x.2.1 ks):=rfl
 rw[e17]at h17
 obtain⟨pl,S0,cs,hrt⟩:=h17
 obtain⟨_,_,rfl,rfl,e5⟩:=hrt.own_inj
 have hO:aT F w (.slice aC) (.own .shr) (S 17) (a.tmps.getD 17 undef) (ks.map (Sp.selI x.1.2.2.1 (Sp.nA x.1 x.2.1 0) (Sp.nA x.1 x.2.1 1))):=⟨cs,e5,hrt.2.2⟩
 have hlen:ks.length<=3000:=by
  have:=hn.length_le_of_subset (l₂:=List.range x.1.2.2.1.toNat) (fun k hk=>List.mem_range.2 (hr k hk))
  rw[List.length_range]at this;omega
 have hsort:=sort58 (AnyF.slices_SortFunc_none Try.sortI) (Sp.selI x.1.2.2.1 (Sp.nA x.1 x.2.1 0) (Sp.nA x.1 x.2.1 1)) (fun _=>rfl) hi.fb (fun b hb=>⟨(hi.sb 17 b hb).2.1,(hi.sb 17 b hb).2.2⟩) hO (fun k hk=>by have:=hr k hk;omega) (by omega)
 rw[xK hi.defers hi.slots.size]
 have hmw:=fun R hs=>mw5 w (fun t=>a.tmps.getD t undef) (a.tmps.getD 17 undef) R rfl hs Q
 refine hmw _ hsort ?_
 rintro v155 v156 W ⟨q1,q2,q3,q4,q5,ks',hperm,hpw,hO'⟩
 have hsel:Sp.o9 x.1 x.2.1 ks'=Sp.kA x.1 x.2.1:=Sp.sels_sel hpw ((hperm.nodup_iff).2 hn) (fun k=>hperm.mem_iff.trans (hm k)) (fun k hk=>hr k (hperm.mem_iff.1 hk))
 have hi1:=hi.drop 17
 have hnt:∀k,S 17 k->∀t,¬(fun t=>if t=17 then none' else S t) t k:=by
  intro k hk t ht;by_cases h:t=17
  ·simp only[h,if_true]at ht;exact ht
  ·simp only[h,if_false]at ht;exact hi.sd t 17 h k ht hk
 have hfb':∀b,F b->b<W.heap.size:=fun b hb=>Nat.lt_of_lt_of_le (hi.fb b hb) q4
 have hi2:=hi1.worldZ (Z:=S 17) q1 q2 q3 q4 q5 (fun k hk=>⟨(hi.sb 17 k hk).1,(hi.sb 17 k hk).2.2,hnt k hk⟩) (fun _ h=>h) hfb' (fun k g1 g2=>absurd g1 g2)
 have hi3:=hi2.setOwn (r:=17) (τ:= .slice aC) (m:= .own .shr) (Sr:=S 17) (x:=Sp.o9 x.1 x.2.1 ks') (fun t=>oO _ 17 t) (fun k hk=>by
  have hk:(if 17=17 then none' else S 17) k:=hk
  rw[if_pos rfl]at hk;exact hk) (fun b hb=>⟨(hi.sb 17 b hb).1,Nat.lt_of_lt_of_le (hi.sb 17 b hb).2.1 q4,(hi.sb 17 b hb).2.2,hnt b hb⟩) hO'
 refine hQ _ _ ⟨_,_,uV hi3 hi.slots.size rfl rfl [(155,v155),(156,v156)] [1,2,4,5,6,8,11,17,30] (fun t ht=>l2_out ht) ?_⟩
 intro t ht
 simp only[List.mem_cons,List.not_mem_nil,or_false]at ht
 have e17':stx (M29.l2 x u) cF () 17= .own (.slice aC) (.own .shr) (Sp.o9 x.1 x.2.1 ks'):=by rw[hsel];rfl
 rcases ht with rfl|rfl|rfl|rfl|rfl|rfl|rfl|rfl|rfl
 ·exact⟨by simp,rfl,fun r hr=>by cases hr⟩
 ·exact⟨by simp,rfl,fun r hr=>by cases hr⟩
 ·exact⟨by simp,rfl,fun r hr=>by cases hr⟩
 ·exact⟨by simp,rfl,fun r hr=>by cases hr⟩
 ·exact⟨by simp,rfl,fun r hr=>by cases hr;simp⟩
 ·exact⟨by simp,rfl,fun r hr=>by cases hr⟩
 ·exact⟨by simp,rfl,fun r hr=>by cases hr⟩
 ·exact⟨by simp,e17',fun r hr=>by cases hr⟩
 ·exact⟨by simp,rfl,fun r hr=>by cases hr⟩
end Go.User
namespace Go.User
open Go Go.Proofs Go.RowKit Go.Lib Go.Lf Go.Maps Go.WideElems
structure LI(x:aH S29.args)(w0:World)(F0 H:aA)(M r n:Nat)(D:DataW Unit)(a:Act)(w:World)(ks:List Nat)(left:Lit->Bool)(cnt:Nat)(F:aA)(S:Nat->aA):Prop where
 inv:aJ Try.prog C29.np w0 F0 H (stx (nR x) cF (ks,r)) a w F S
 um:Un w0.heap.size F S M
 ur:Un w0.heap.size F S r
 v133:a.tmps.getD 133 undef= .pointer (some ⟨r,0,none⟩)
 rg:w.ranges Try.prog 3 R3 M r n D left cnt
 nd:ks.Nodup
 mem:∀k:Nat,k∈ks↔(Maps.has D (.int .i64 k)=true/\left (.int .i64 k)=false)
theorem xH{x:aH S29.args}{j:List Nat×Nat}{N:NP}{w0:World}{F0 H:aA}{a:Act}{w:World}{F:aA}{S:Nat->aA}(hi:aJ Try.prog N w0 F0 H (stx (nR x) cF j) a w F S):a.tmps.getD 133 undef= .pointer (some ⟨j.2,0,none⟩):=by
 have h:=hi.ent 133
 have e:stx (nR x) cF j 133= .shr (.abs .ptr) (some j.2):=rfl
 rw[e]at h
 obtain⟨cs,h1,h2⟩:=h
 have h2:cs=[.pointer (some ⟨j.2,0,none⟩)]:=h2
 subst h2
 exact h1
theorem left_ne{x:Int}{k:Int}(h:k≠x):(Lit.int .i64 k).sameKey (.int .i64 x)=false:=by
 simp[Lit.sameKey,h]
theorem enp:zG.np=C29.np:=by kernel_rfl
theorem hC29r:aG Try.prog zG:=okM' 0 (aE ok52 (aE ok57 aS)) dW rfl rfl rfl rfl rfl rfl
theorem ls_conv{x:aH S29.args}{ks:List Nat}{r k:Nat}:∀t∈17::18::133::jF,stx (l29s x) cF (ks,r,k) t=upd (stx (nR x) cF (ks,r)) 18 (.shr tI (k:Int)) t/\
  ∀q,(upd (stx (nR x) cF (ks,r)) 18 (.shr tI (k:Int)) t).root=some q->q∈17::18::133::jF:=by
 intro t ht
 by_cases h:t=18
 ·subst h
  rw[bU];exact⟨rfl,fun q hq=>by cases hq⟩
 ·rw[bG _ _ h]
  refine⟨?_,fun q hq=>by rw[tA hq];simp[jF]⟩
  simp only[jF,List.mem_cons,List.not_mem_nil,or_false]at ht;rcases ht with rfl|rfl|rfl|rfl|rfl|rfl|rfl|rfl|rfl|rfl|rfl|rfl|rfl
  ·rfl
  ·exact absurd rfl h
  ·rfl
  ·rfl
  ·rfl
  ·rfl
  ·rfl
  ·rfl
  ·rfl
  ·rfl
  ·rfl
  ·rfl
  ·rfl
set_option maxRecDepth 100000 in
theorem rnd29(x:aH S29.args){w0:World}{F0 H:aA}{M r n B:Nat}{D:DataW Unit}{a:Act}{w:World}{ks:List Nat}{left:Lit->Bool}{cnt:Nat}{F:aA}{S:Nat->aA}(h:LI x w0 F0 H M r n D a w ks left cnt F S)(hM:M<w.heap.size)
  (hB:B<=3000) (hD:∀k:Int,Maps.has D (.int .i64 k)=true->0<=k/\k<(B:Int)) (Q1:Exit->Act->World->Prop)
  (hdone:∀a',cnt=0->(∀kl,left kl=false)->LI x w0 F0 H M r n D a' w ks left cnt F S->Q1 (.exit 2) a' w)
  (hmore:∀a' w' ks' left' cnt' F' S',cnt'<cnt->LI x w0 F0 H M r n D a' w' ks' left' cnt' F' S'->Q1 .normal a' w'):
  (Code.seq (l9 [true,true,true,false] gN) (.seq (.cond (.tmp 135) .skip (.exit 2)) (.block 3 (.seq (l9 [true,true,true,true,true,true,false] gN) R29)))).wp Try.prog Q1 a w:=by
 obtain⟨hi,um,ur,hv,hrg,hnd,hmem⟩:=h
 have hsz:=hi.slots.size
 have hnp:C29.np.p=none:=rfl
 have hlen:ks.length<=3000:=by
  have:=hnd.length_le_of_subset (l₂:=List.range B) (fun k hk=>by
   have:=hD k ((hmem k).1 hk).1
   exact List.mem_range.2 (by omega))
  rw[List.length_range]at this;omega
 have hke:∀(l:List (Nat×Value)),(∀t∈17::133::jF,t∉l.map (·.1))->∀ {w':World} {F':aA} {S':Nat->aA},aJ Try.prog C29.np w0 F0 H (stx (nR x) cF (ks,r)) a w' F' S'->
   aJ Try.prog C29.np w0 F0 H (stx (nR x) cF (ks,r)) ⟨tab (dQ (fun t=>a.tmps.getD t undef) l) 190,[]⟩ w' F' S':=by
  intro l hl w' F' S' hi';exact uV hi' hsz hnp rfl l (17::133::jF) (fun t ht=>lr_out ht) fun t ht=>⟨hl t ht,rfl,fun q hq=>by rw[tA hq];simp[jF]⟩
 refine wp_seq ?_
 rw[xK hi.defers hsz]
 refine mw3 w (fun t=>a.tmps.getD t undef) M r n D left cnt hv hrg _ ?_ ?_
 ·intro v134 hc hl
  have hinv:=hke [(134,v134),(135,.bool false)] (by simp only[List.map_cons,List.map_nil];decide) hi
  refine wp_seq (wp_cond_false (by rfl) (wp_exit ?_))
  exact hdone _ hc hl ⟨hinv,um,ur,xH hinv,hrg,hnd,hmem⟩
 ·intro v134 kx kc W cnt' hwx hlx hrg' hlt hg hs hen
  obtain⟨k,rfl⟩:∃k:Nat,kx=(k:Int):=⟨kx.toNat,by have:=hD kx (t8 hrg hlx);omega⟩
  have hkD:=t8 hrg hlx
  have hkr:=hD k hkD
  have hkl:k∉ks:=fun hk=>by have:=((hmem k).1 hk).2;rw[hlx]at this;cases this
  refine wp_seq (wp_cond_true (by rfl) (wp_skip ?_))
  refine wp_block (wp_seq ?_)
  refine mw4 W (dQ (fun t=>a.tmps.getD t undef) [(134,v134),(135,.bool true)]) r k kc hv hen _ ?_
  intro v136 v137;rw[pW];have hiW:=hi.worldZ (Z:=fun b=>b=r) hg.os hg.tape hg.output hg.size (fun b h1 h2=>hg.block b h1 (fun e=>h2 (Option.some.inj e))) (fun b hb=>by subst hb;exact⟨.inl ur.lo,ur.f,ur.s⟩) (fun _ h=>h) (fun b hb=>Nat.lt_of_lt_of_le (hi.fb b hb) hg.size) (fun b h1 h2=>absurd h1 h2)
  have hi1:=hke [(18,.int .i64 (k:Int)),(136,v136),(137,v137),(134,v134),(135,.bool true)] (by simp only[List.map_cons,List.map_nil];decide) hiW
  have hi2:=hi1.setShr (t:=18) (τ:=tI) (x:=(k:Int)) (fun u hu=>by have:=tA hu;cases this) (by
   rw[show (tab (dQ (fun t=>a.tmps.getD t undef) [(18,.int .i64 (k:Int)),(136,v136),(137,v137),(134,v134),(135,.bool true)]) 190).getD 18 undef= .int .i64 (k:Int)from pR (by omega)]
   exact⟨[.int .i64 (k:Int)],rfl,rfl,rg_i64 ⟨by omega,by omega⟩⟩)
  have hi3:aJ Try.prog C29.np w0 F0 H (stx (l29s x) cF (ks,r,k)) ⟨tab (dQ (fun t=>a.tmps.getD t undef) [(18,.int .i64 (k:Int)),(136,v136),(137,v137),(134,v134),(135,.bool true)]) 190,[]⟩ W F S:=by
   exact inv_only hi2 (17::18::133::jF) (fun t ht=>ls_out ht) ls_conv
  have hreg:=reg291w x (ks,r,k) hlen
  have hi3h:Lf.Inv Try.prog zG.np W F (fun b=>∃t,S t b) (stx (l29s x) cF (ks,r,k)) ⟨tab (dQ (fun t=>a.tmps.getD t undef) [(18,.int .i64 (k:Int)),(136,v136),(137,v137),(134,v134),(135,.bool true)]) 190,[]⟩ W:=by
   rw[enp];exact⟨F,S,hi3.here⟩
  refine WpT.ok hC29r (stpA hC29r) hreg hi3h ?_ (fun _ _ _ _ h=>h.elim) (fun _ _ _ h=>h.elim)
  intro st a2 w2 hst hi4;rw[enp]at hi4;obtain⟨F2,S2,hi5⟩:=mI hst hi4;obtain⟨um2,em⟩:=um.back (by rw[hs];exact hM) hi5;obtain⟨ur2,er⟩:=ur.back (by rw[hs];exact hrg.lt) hi5;have hi6:=hi3.back hi5;refine hmore a2 w2 (Sp.zD ks k) _ cnt' F2 S2 hlt ⟨hi6,um2,ur2,xH hi6,ranges_at hrg' em er,?_,?_⟩
  ·unfold Sp.zD
   rw[List.nodup_append];exact⟨hnd,by simp,fun a ha b hb=>by simp at hb;subst hb;exact fun e=>hkl (e▸ha)⟩
  ·intro k'
   unfold Sp.zD;rw[List.mem_append,List.mem_singleton,hmem k'];by_cases e:k'=k
   ·subst e
    exact⟨fun _=>⟨hkD,by simp[Lit.sameKey]⟩,fun _=> .inr rfl⟩
   ·have e2:(Lit.int .i64 (k':Int)).sameKey (.int .i64 (k:Int))=false:=left_ne (by omega)
    simp only[e2,Bool.not_false,Bool.and_true,e,or_false]
end Go.User
namespace Go.User
open Go.Proofs Go.Lf
set_option maxRecDepth 100000
theorem vc25:(funC C25a (dL [] C25a) C25b (fun qs=>stpK [(48,[2,3])] [] (C25b qs)) S25 M25 Try.f25)=(
let q0:=(2:Nat);
let q1:=True/\True/\True;
let q2:=True/\q1;
let q3:=True/\q2;
let q4:=q3/\True;
let q5:=(True/\True)/\True;
let q6:List Int×Unit:=(([]:List tI.den),());
let q7:Int:=(1:Int);
let q8:Int:=(0:Int);
let q9:Sp.Code:=(q8,q8,q8,q8,q8,([]:List cC.den),([]:List bC.den),([]:List eW.den),());
let q10:=q9=q9;
let q11:=q6=q6;
let q12:=(48:Nat);
let q13:Int:=(1:tI.den);
let q14:=(1:Nat);
let q15:List aD:=aD.fst::([]:List aD);
∀(x:Sp.Code×Sp.Uni×Unit),
 let q16:=(Sp.cB x.1).length;
 let q17:=x.2.1.1.length;
 let q18:=x.2.1=x.2.1;
 let q19:Int:=(↑q16:Int)-q13;
 let q20:=q16+q14;
 let q21:=q16+(3:Nat);
 Sp.okA x.1/\Sp.okR x.1/\q16<=q17->
 aB (tI.prod (tI.prod (tI.prod (tI.prod (tI.prod (cC.slice.prod (bC.slice.prod ((aC.slice.prod ((tI.prod (tI.prod (aM.prod (aM.prod (aM.prod ((Ty.arr q0 tI).prod Ty.unit)))))).prod Ty.unit)).slice.prod Ty.unit)))))))) x.1/\aB gH x.2.1/\True->
 q4/\
 q5/\
 (true&&(true&&true))=true/\
 ∀(q q_1:Nat),
 let q22:List Nat:=q::q_1::([]:List Nat);
 let q23:=Option.some (q12,q22)=Option.some (q12,q22);
 let q24:=q18/\q10/\q11/\q23/\True;
 q2/\
 q5/\
 (∃(x_1:Nat),x_1<=q16+q0/\x.1=Sp.cN x.1 x.2.1 x_1/\q6=(Sp.xN x.1 x.2.1 x_1,())/\ -q7=Sp.bN x.1 x.2.1 x_1/\q24)/\
 ∀(x_1:Nat),
 let q25:Sp.Code:=Sp.cN x.1 x.2.1 x_1;
 let q26:List Int:=Sp.xN x.1 x.2.1 x_1;
 let q27:List Int×Unit:=(q26,());
 let q28:Int:=Sp.bN x.1 x.2.1 x_1;
 let q29:Int:=(↑q26.length:Int);
 let q30:Bool:=q28 !=q29;
 let q31:Int:=(↑q25.2.2.2.2.2.2.2.1.length:Int)-q7;
 let q32:=q18/\q10/\q11/\q23/\q29=q29/\True;
 let q33:=(True/\q27=q27)/\True;
 x_1<=q16+q0->
 aB (tI.prod (tI.prod (tI.prod (tI.prod (tI.prod (cC.slice.prod (bC.slice.prod ((aC.slice.prod ((tI.prod (tI.prod (aM.prod (aM.prod (aM.prod ((Ty.arr q0 tI).prod Ty.unit)))))).prod Ty.unit)).slice.prod Ty.unit)))))))) q25/\aB jB q27/\aB tI q28/\True->
 ((True/\q3)/\True)/\
 (q30=true->
 q4/\
 ((True/\True/\True/\inK IntKind.i64 q31/\True/\True)/\True)/\
 (∃(x_2:Nat),x_2<=q16/\q25=Sp.cI x.1 x.2.1 x_1 x_2/\q27=(Sp.xI x.1 x.2.1 x_1 x_2,())/\q31=q19-(↑x_2:Int)/\q32)/\
 ∀(x_2:Nat),
 let q34:Sp.Code:=Sp.cI x.1 x.2.1 x_1 x_2;
 let q35:List Int:=Sp.xI x.1 x.2.1 x_1 x_2;
 let q36:List Int×Unit:=(q35,());
 let q37:Int:=q19-(↑x_2:Int);
 let q38:Bool:=decide (q37≥q8);
 let q39:=(Sp.cB q34).length;
 let q40:Bool:=Sp.oR x.2.1 q34 q37;
 let q41:Int:=q37-q7;
 let q42:=(True/\inK IntKind.i64 q41/\True/\True)/\True;
 let q43:=q42/\∃(y:Nat),y<=q16/\q20-y<q20-x_2/\q34=Sp.cI x.1 x.2.1 x_1 y/\q36=(Sp.xI x.1 x.2.1 x_1 y,())/\q41=q19-(↑y:Int)/\q32;
 let q44:Sp.Code×Bool×Unit:=Sp.atC q34 q37;
 let q45:Bool:=q44.2.1;
 let q46:List Int:=q37::([]:List tI.den);
 x_2<=q16->
 aB (tI.prod (tI.prod (tI.prod (tI.prod (tI.prod (cC.slice.prod (bC.slice.prod ((aC.slice.prod ((tI.prod (tI.prod (aM.prod (aM.prod (aM.prod ((Ty.arr q0 tI).prod Ty.unit)))))).prod Ty.unit)).slice.prod Ty.unit)))))))) q34/\aB jB q36/\aB tI q37/\True->
 (q1/\True)/\
 (q38=true->
 (q1/\
 (Option.some (q12,q22)=Option.some ((48:Go.FuncId),q22)/\
 (0:(AK.val tI).den)<=q37/\
 q37<(↑q39:Int)/\
 q37<(↑q17:Int)/\
 ∀(b:Nat),
 let q47:Sp.Opd:=(Sp.trm q34 b).2.2.2.1;
 b<q39->q47.1=(2:Int)->q8<=q47.2.1)/\
 True)/\
 (q40=true->q43)/\(q40=false->((True/\True/\Sp.okA q34/\q3)/\q1)/\q5/\(q45=true->((True/\True)/\True/\True)/\(q3/\(↑(q35.length+q46.length):Int)<=bJ/\True/\q15=q15/\True)/\q42/\∃(y:Nat),y<=q16/\q20-y<q20-x_2/\q44.1=Sp.cI x.1 x.2.1 x_1 y/\(q35++q46,())=(Sp.xI x.1 x.2.1 x_1 y,())/\q41=q19-(↑y:Int)/\q32)/\(q45=false->q43)))/\
 (q38=false->∃(y:Nat),y<=q16+q0/\q21-y<q21-x_1/\q34=Sp.cN x.1 x.2.1 y/\q36=(Sp.xN x.1 x.2.1 y,())/\q29=Sp.bN x.1 x.2.1 y/\q24))/\
 (q30=false->q1/\((True/\q25=q25)/\q33)/\(True/\True/\q33/\(True/\True/\True/\(q25,q27,())=(Sp.iY x.1 x.2.1,(Sp.gD x.1 x.2.1,()),()))/\True)/\True/\True)):=by kernel_rfl
end Go.User
namespace Go.User
open Go Go.Proofs Go.RowKit Go.Lib Go.Lf
theorem hCk{qs:List Nat}(h29:FOk Try.prog 29 S29):aG Try.prog (C25b qs):=okC (aE h29 (aE ok48 aS)) rfl rfl rfl rfl rfl rfl rfl
theorem hCka(h29:FOk Try.prog 29 S29):aG Try.prog C25a:=okC (aE h29 (aE ok48 aS)) rfl rfl rfl rfl rfl rfl rfl
theorem nob{P:Program}:∀f s,Lf.look ([]:List (FuncId×jA)) f=some s->BOk P f s:=fun f s h=>by cases h
theorem ok25(h29:FOk Try.prog 29 S29):FOk Try.prog 25 S25:=by
 refine FOk.introC (C1:=C25a) (C2:=C25b) (stp1:=dL [] C25a) (stp2:=fun qs=>stpK [(48,[2,3])] [] (C25b qs)) (hCka h29) (oF (hCka h29) nob) (fun qs=>hCk h29) (fun qs=>stpK_ok (hCk h29) nob) Try.call25 Try.func25 M25 (by kernel_rfl) (fun qs=>by kernel_rfl) (by kernel_rfl) ?_
 rw[vc25]
 simp only[zz,zy]
 rintro⟨c,u,xu⟩ ⟨h1,h2,h3⟩ _
 dsimp only at *
 have h1:Sp.okA c:=h1
 have hbd:=h1.t.bd
 have hcB:∀c:Sp.Code,c.2.2.2.2.2.2.2.1=Sp.cB c:=fun _=>rfl
 simp only[hcB]
 have h0:Sp.RS (Sp.cB c).length (c,([]:List Int)):=⟨h1,h2,rfl,by have:=Sp.br_le c;simpa using this⟩
 have hN:=Sp.nN h0 u
 have hI:=fun n=>Sp.uE (hN n) u
 have eN:∀n,(Sp.cB (Sp.cN c u n)).length=(Sp.cB c).length:=fun n=>(hN n).len
 have eI:∀n i,(Sp.cB (Sp.cI c u n i)).length=(Sp.cB c).length:=fun n i=>(hI n i).len
 have xle:∀n i,(Sp.xI c u n i).length<=(Sp.cB c).length:=fun n i=>by have:=(hI n i).cnt;show(Sp.bW u (Sp.bT u (c,[]) n) i).2.length<=_;omega
 have xleN:∀n,(Sp.xN c u n).length<=(Sp.cB c).length:=fun n=>by have:=(hN n).cnt;show(Sp.bT u (c,[]) n).2.length<=_;omega
 have ek:∀n i,Sp.bW u (Sp.bT u (c,[]) n) (i+1)=Sp.dU u (Sp.bW u (Sp.bT u (c,[]) n) i) (((Sp.cB c).length:Int)-1-(i:Int)):=fun n i=>by
  show Sp.dU _ _ (((Sp.cB (Sp.cN c u n)).length:Int)-1-(i:Int))=_
  rw[eN]
 refine⟨⟨0,by omega,rfl,rfl,rfl⟩,fun n hn _=>⟨fun hne=>⟨?_,⟨0,by omega,rfl,rfl,by rw[eN];simp⟩,fun i hi _=>⟨fun hb=> ?_,fun hb=> ?_⟩⟩,fun he=> ?_⟩⟩
 ·rw[eN];exact yO (by omega) (by omega)
 ·have hlt:i<(Sp.cB c).length:=by omega
  have hk:inK .i64 (((Sp.cB c).length:Int)-1-(i:Int)-1):=yO (by omega) (by omega)
  have hnext:∀s',Sp.dU u (Sp.bW u (Sp.bT u (c,[]) n) i) (((Sp.cB c).length:Int)-1-(i:Int))=s'->s'.1=Sp.cI c u n (i+1)/\s'.2=Sp.xI c u n (i+1):=by
   rintro s' rfl
   rw[<-ek];exact⟨rfl,rfl⟩
  refine⟨⟨by omega,by rw[eI];omega,by omega,fun b hb2 hb3=>(hI n i).r b hb2 hb3⟩,fun hu=> ?_,fun hu=>⟨(hI n i).a,fun ht=> ?_,fun ht=> ?_⟩⟩
  ·have h:=hnext (Sp.bW u (Sp.bT u (c,[]) n) i) (by unfold Sp.dU;exact if_pos hu)
   exact⟨hk,i+1,hlt,by omega,h.1,by rw[<-h.2];rfl,by omega⟩
  ·have h:=hnext ((Sp.atC (Sp.cI c u n i) (((Sp.cB c).length:Int)-1-(i:Int))).1,Sp.xI c u n i++[((Sp.cB c).length:Int)-1-(i:Int)]) (by
    unfold Sp.dU;rw[if_neg (by rw[show Sp.oR u (Sp.bW u (Sp.bT u (c,[]) n) i).1 (((Sp.cB c).length:Int)-1-(i:Int))=false from hu];simp)];exact if_pos ht)
   exact⟨gW (by have:=xle n i;omega),hk,i+1,hlt,by omega,h.1,by rw[<-h.2],by omega⟩
  ·have h:=hnext (Sp.bW u (Sp.bT u (c,[]) n) i) (by
    unfold Sp.dU;rw[if_neg (by rw[show Sp.oR u (Sp.bW u (Sp.bT u (c,[]) n) i).1 (((Sp.cB c).length:Int)-1-(i:Int))=false from hu];simp)];exact if_neg (by rw[show (Sp.atC (Sp.bW u (Sp.bT u (c,[]) n) i).1 (((Sp.cB c).length:Int)-1-(i:Int))).2.1=false from ht];simp))
   exact⟨hk,i+1,hlt,by omega,h.1,by rw[<-h.2];rfl,by omega⟩
 ·have hlt:i=(Sp.cB c).length:=by omega
  subst hlt;have hle:n<=(Sp.cB c).length:=by
   cases n with
   |zero=>omega
   |succ n=>
    have h:=Sp.pD u (c,[]) n (fun e=>hne (by
     show((Sp.xN c u n).length:Int)=((Sp.xN c u (n+1)).length:Int)
     have e:(Sp.xN c u (n+1)).length=(Sp.xN c u n).length:=e
     omega))
    have h2:=xleN (n+1)
    have h:([]:List Int).length+n+1<=(Sp.xN c u (n+1)).length:=h
    omega
  exact⟨n+1,by omega,by omega,rfl,rfl,rfl⟩
 ·cases n with
  |zero=>
   have he:(-1:Int)=((Sp.xN c u 0).length:Int):=he
   omega
  |succ n=>
   have he:((Sp.xN c u n).length:Int)=((Sp.xN c u (n+1)).length:Int):=he
   have hs:=Sp.jY u (c,[]) (n:=n) (show(Sp.xN c u (n+1)).length=(Sp.xN c u n).length by omega)
   have e1:=hs 1
   have e2:=hs ((Sp.cB c).length+2-n)
   rw[show n+((Sp.cB c).length+2-n)=(Sp.cB c).length+2 by omega]at e2
   unfold Sp.iY Sp.gD Sp.cN Sp.xN;rw[e1,e2]
end Go.User
namespace Go.User
open Go Go.Proofs Go.RowKit Go.Lib Go.Lf Go.Maps Go.WideElems
theorem gJ{w w':World}{b:Nat}(o:Nat)(h:w'.heap[b]? =w.heap[b]?):w'.cell? ⟨b,o,none⟩=w.cell? ⟨b,o,none⟩:=by
 unfold World.cell?
 dsimp only
 rw[h]
theorem eU{w w':World}{b:Nat}(o:Nat)(h:w'.heap[b]? =w.heap[b]?):w'.frozen? ⟨b,o,none⟩=w.frozen? ⟨b,o,none⟩:=by
 unfold World.frozen?
 dsimp only
 rw[h]
theorem ranges_map{w:World}{M r n:Nat}{D:DataW Unit}{left:Lit->Bool}{cnt:Nat}(h:w.ranges Try.prog 3 R3 M r n D left cnt):M<w.heap.size:=by
 obtain⟨es,clock,since,seen,c0,a1,_⟩:=h
 exact(Array.getElem?_eq_some_iff.1 a1).1
set_option maxRecDepth 100000 in
theorem hand29(x:aH S29.args)(hx:S29.pre x):HandOK Try.prog C29 fE (M29.l1 x) (M29.l2 x):=by
 intro u hu _ w0 F0 H a w hinv
 obtain⟨F,S,hi⟩:=hinv
 obtain⟨hb0,hb1,hp⟩:=hu
 have hok:Sp.okA x.1:=hx
 have pOK:=Sp.nL ⟨hb0,hb1⟩ hp
 have hrg:Int.le x.1.2.2.1 3000:=hok.rg.2
 have hdom:∀k,k<2->∀n:Int,((Sp.nA x.1 x.2.1 k) n).isSome=true->0<=n/\Int.lt n x.1.2.2.1:=fun k hk n h=>Sp.nA_dom hok ⟨hb0,hb1⟩ pOK hk n h
 have hdom2:∀k,k<2->∀n:Int,((Sp.nA x.1 x.2.1 k) n).isSome=true->0<=n/\n<((3000:Nat):Int):=fun k hk n h=>by
  obtain⟨g1,g2⟩:=hdom k hk n h;exact⟨g1,Int.lt_of_lt_of_le g2 hrg⟩
 have e12:stx (M29.l1 x) cF u 12= .box (.arr 2 qT) .shr [Sp.nA x.1 x.2.1 0,Sp.nA x.1 x.2.1 1]:=rfl
 obtain⟨b12,p0,p1,v12,hb12,c0,c1,f0,f1,m0,m1⟩:=names_at hi e12
 rw[mid29_eq]
 refine gQ ?_
 rw[xK hi.defers hi.slots.size]
 refine mw1 w (fun t=>a.tmps.getD t undef) b12 p0 p1 (Sp.nA x.1 x.2.1 0) F hi.fb v12 hb12 c0 f0 m0 _ ?_
 intro l1 es ck hl1 h16 hes
 have halloc:∀b,b<w.heap.size->(w.alloc (.map es ck)).heap[b]? =w.heap[b]? :=fun b hb=>by
  show(w.heap.push _)[b]? =_
  rw[Array.getElem?_push_lt hb,Array.getElem?_eq_getElem hb]
 have hmap:(w.alloc (.map es ck)).heap[w.heap.size]? =some (.map es ck):=by
  show(w.heap.push _)[w.heap.size]? =_
  exact Array.getElem?_push_size
 have hsz1:(w.alloc (.map es ck)).heap.size=w.heap.size+1:=by
  show(w.heap.push _).size=_
  exact Array.size_push _
 obtain⟨D1,hs1,hD1,hn1⟩:=m1.src (W:=w.alloc (.map es ck)) (fun b hb=>halloc b (hi.fb b hb)) (m:=3000) (fun es ck h=>sI h (hdom2 1 (by omega)))
 have hn0:es.size<=3000:=sI hes (hdom2 0 (by omega))
 have hown:=wO hes hmap
 have hne:p1≠some w.heap.size:=by
  rintro rfl
  rcases m1 with⟨h,_⟩|⟨b,es,ck,h,hF,_⟩
  ·cases h
  ·injection h with h
   have:=hi.fb b hF
   omega
 have hl12:dQ (fun t=>a.tmps.getD t undef) l1 12= .pointer (some ⟨b12,0,none⟩):=by
  rw[pV (by rcases hl1 with e|e<;>rw[e]<;>decide)];exact v12
 show j9 Try.prog [fE.getD 2 .skip,fE.getD 3 .skip,gN,fE.getD 5 .skip] _ _ _
 rw[loop29_eq]
 refine wpCL_seq (A:=[fE.getD 2 .skip,fE.getD 3 .skip]) ?_
 refine mw2 (w.alloc (.map es ck)) (dQ (fun t=>a.tmps.getD t undef) l1) b12 w.heap.size es.size p1 (dOf es) D1 hl12 h16 (by omega) ((gJ 1 (halloc b12 hb12)).trans c1) ((eU 1 (halloc b12 hb12)).trans f1) hown hs1 hne (by unfold maxLen;omega) _ ?_
 intro l2 W r n hl2 h17 h133 hr hrg2 hg
 have hD:∀k:Int,Maps.has (Lib.mergeD (dOf es) D1) (.int .i64 k)=(((Sp.nA x.1 x.2.1 0) k).isSome||((Sp.nA x.1 x.2.1 1) k).isSome):=fun k=>by
  rw[has_merge hown hs1,has_dOf hes,hD1]
 generalize hDD:Lib.mergeD (dOf es) D1=D at hrg2 hD
 have hblk:∀k,k<w.heap.size->W.heap[k]? =w.heap[k]? :=fun k hk=>by
  rw[hg.block k (by omega) (fun e=>by injection e with e;omega),halloc k hk]
 have hszW:w.heap.size<=W.heap.size:=by have:=hg.size;omega
 have hiW:=hi.worldZ (w':=W) (F':=F) (Z:=fun _=>False) hg.os hg.tape hg.output hszW (fun k hk _=>hblk k hk) (fun _ h=>h.elim) (fun _ h=>h) (fun b hb=>Nat.lt_of_lt_of_le (hi.fb b hb) hszW) (fun b h1 h2=>absurd h1 h2)
 have hmem:∀t∈jF,t∉(l2++l1).map (·.1):=by
  rw[List.map_append,hl2];rcases hl1 with e|e<;>rw[e]<;>decide
 have hi1:=uV hiW hi.slots.size rfl rfl (l2++l1) (env':=stx (M29.l1 x) cF u) jF (fun t ht=>l1_out ht) (fun t ht=>⟨hmem t ht,rfl,fun q hq=>by rw[l1_root hq];simp[jF]⟩)
 have hl2s:∀t,t<190->(tab (dQ (fun t=>a.tmps.getD t undef) (l2++l1)) 190).getD t undef=dQ (dQ (fun t=>a.tmps.getD t undef) l1) l2 t:=fun t ht=>by
  rw[pR ht,pW]
 have hi2:=hi1.drop 17
 have hi3:=hi2.setOwn (r:=17) (τ:= .slice aC) (m:= .own .shr) (x:=[]) (Sr:=none') (fun t=>oO _ 17 t) (fun k hk=>by
  have hk:(if 17=17 then none' else S 17) k:=hk
  rw[if_pos rfl]at hk;exact hk) (fun b hb=>hb.elim) (by
  rw[hl2s 17 (by omega),h17];exact⟨_,rfl,Own.zero F W (.slice aC) (.own .shr) none'⟩)
 have hi4:=hi3.setShr (t:=133) (τ:= .abs .ptr) (x:=some r) (fun t ht=>by
  by_cases e:t=17
  ·subst e;rw[bU]at ht;cases ht
  ·rw[bG _ _ e]at ht
   unfold Go.Lf.drop at ht;rw[bG _ _ e]at ht;rcases c9 (stx (M29.l1 x) cF u) 17 t with g|⟨g,_⟩
   ·rw[g]at ht;cases ht
   ·rw[g]at ht;have:=l1_root ht;cases this) (by
  rw[hl2s 133 (by omega),h133];exact⟨_,rfl,rfl⟩)
 have hi5:=inv_only (env':=stx (nR x) cF ([],r)) hi4 (17::133::jF) (fun t ht=>lr_out ht) (fun t ht=>by
  have h2:∀q,(stx (nR x) cF ([],r) t).root=some q->q∈17::133::jF:=fun q hq=>by rw[tA hq];simp[jF]
  have h1:stx (nR x) cF ([],r) t=upd (upd (Go.Lf.drop (stx (M29.l1 x) cF u) 17) 17 (.own (.slice aC) (.own .shr) [])) 133 (.shr (.abs .ptr) (some r)) t:=by
   simp only[jF,List.mem_cons,List.not_mem_nil,or_false]at ht;rcases ht with rfl|rfl|rfl|rfl|rfl|rfl|rfl|rfl|rfl|rfl|rfl|rfl
   ·rfl
   ·rfl
   ·rfl
   ·rfl
   ·rfl
   ·rfl
   ·rfl
   ·rfl
   ·rfl
   ·rfl
   ·rfl
   ·rfl
  exact⟨h1,fun q hq=>h2 q (by rw[h1];exact hq)⟩)
 have hsx:∀t b,(fun t=>if t=17 then none' else(fun t=>if t=17 then none' else S t) t) t b->b<w.heap.size:=fun t b h=>by
  by_cases e:t=17
  ·simp only[e,if_true]at h;exact h.elim
  ·simp only[e,if_false]at h;exact(hi.sb t b h).2.1
 have hszr:=hi.size
 have hLI:LI x w0 F0 H w.heap.size r n D ⟨tab (dQ (fun t=>a.tmps.getD t undef) (l2++l1)) 190,[]⟩ W [] (Maps.has D) (Maps.size D) F (fun t=>if t=17 then none' else(fun t=>if t=17 then none' else S t) t):=by
  refine⟨hi5,⟨hszr,fun h=>Nat.lt_irrefl _ (hi.fb _ h),fun t ht=>Nat.lt_irrefl _ (hsx t _ ht)⟩,⟨by omega,fun h=>by have:=hi.fb _ h;omega,fun t ht=>by have:=hsx t _ ht;omega⟩,xH hi5,hrg2,List.nodup_nil,fun k=> ?_⟩
  simp
 rw[pW]
 show(Code.block 2 (.loop _)).wp Try.prog (Exit.then (j9 Try.prog [fE.getD 5 .skip] _) _) _ _
 refine wp_block ?_
 refine oB (ι:=List Nat×(Lit->Bool)×Nat) (fun i a v=>∃F S,LI x w0 F0 H w.heap.size r n D a v i.1 i.2.1 i.2.2 F S) (fun i=>i.2.2) ([],Maps.has D,Maps.size D) ⟨F,_,hLI⟩ ?_
 rintro⟨ks,left,cnt⟩ a1 v1 ⟨F1,S1,h1⟩
 refine rnd29 x h1 (ranges_map h1.rg) (B:=3000) (Nat.le_refl _) (fun k hk=> ?_) _ (fun a' hc hl h2=> ?_) (fun a' w' ks' left' cnt' F' S' hlt h2=>⟨(ks',left',cnt'),⟨F',S',h2⟩,hlt⟩)
 ·rw[hD,Bool.or_eq_true]at hk
  exact hk.elim (hdom2 0 (by omega) k) (hdom2 1 (by omega) k)
 ·have hks:∀k:Nat,k∈ks↔(((Sp.nA x.1 x.2.1 0) (k:Int)).isSome||((Sp.nA x.1 x.2.1 1) (k:Int)).isSome)=true:=fun k=>by
   rw[h2.mem k,hD,hl]
   simp
  show(fE.getD 5 .skip).wp Try.prog _ _ _
  refine fin29 x u h2.inv hrg h2.nd hks (fun k hk=> ?_) _ (fun a2 w2 h3=>⟨rfl,(),trivial,h3⟩)
  have h4:=(hks k).1 hk
  rw[Bool.or_eq_true]at h4;have h5:Int.lt (k:Int) x.1.2.2.1:=h4.elim (fun h=>(hdom 0 (by omega) k h).2) (fun h=>(hdom 1 (by omega) k h).2)
  exact Int.lt_toNat.2 h5
theorem ok29':FOk Try.prog 29 S29:=ok29 ok54 hand29
theorem ok25':FOk Try.prog 25 S25:=ok25 ok29'
end Go.User
namespace Go.User
open Go Go.Proofs Go.RowKit Go.Lib Go.Lf
noncomputable def vM:Code:=Try.f10.body.getD .skip
noncomputable def B10:Code:=l9 [true,true,true,true,true] vM
set_option maxRecDepth 100000 in
theorem tab10(f:Nat->Value):tab (dQ f []) 23= #[f 0,f 1,f 2,f 3,f 4,f 5,f 6,f 7,f 8,f 9,f 10,f 11,f 12,f 13,f 14,f 15,f 16,f 17,f 18,f 19,f 20,f 21,f 22]:=rfl
def xQ:World->Nat->Nat->List Value->World
 |w,_,_,[]=>w
 |w,b,o,v::vs=>xQ (w.setCell ⟨b,o,none⟩ v) b (o+1) vs
theorem sc_size(w:World)(b o:Nat)(v:Value):(w.setCell ⟨b,o,none⟩ v).heap.size=w.heap.size:=by simp[World.setCell]
theorem sc_ne(w:World){b k:Nat}(o:Nat)(v:Value)(h:k≠b):(w.setCell ⟨b,o,none⟩ v).heap[k]? =w.heap[k]? :=by
 simp only[World.setCell,Array.getElem?_modify]
 rw[if_neg (Ne.symm h)]
theorem sc_at(w:World){b:Nat}(o:Nat)(v:Value){row:Array Value}{T:TypeId}{fr:Nat×Nat}(h:w.heap[b]? =some (.cells row T fr)):(w.setCell ⟨b,o,none⟩ v).heap[b]? =some (.cells (row.setIfInBounds o v) T fr):=by
 simp only[World.setCell,Array.getElem?_modify,if_pos,h]
 rfl
theorem setC_ok:∀(vs:List Value) (w:World) (b o:Nat),(xQ w b o vs).os=w.os/\(xQ w b o vs).tape=w.tape/\(xQ w b o vs).output=w.output/\(xQ w b o vs).heap.size=w.heap.size/\(∀k,k≠b->(xQ w b o vs).heap[k]? =w.heap[k]?)/\
  ∀row T fr,w.heap[b]? =some (.cells row T fr)->o+vs.length<=row.size->∃row',(xQ w b o vs).heap[b]? =some (.cells row' T fr)/\row'.size=row.size/\∀i,row'[i]? =if o<=i/\i<o+vs.length then vs[i-o]? else row[i]?
 | [],w,b,o=>⟨rfl,rfl,rfl,rfl,fun _ _=>rfl,fun row T fr h _=>⟨row,h,rfl,fun i=>by rw[if_neg (by simp)]⟩⟩
 |v::vs,w,b,o=>by
  obtain⟨h1,h2,h3,h4,h5,h6⟩:=setC_ok vs (w.setCell ⟨b,o,none⟩ v) b (o+1);refine⟨h1,h2,h3,h4.trans (sc_size _ _ _ _),fun k hk=>(h5 k hk).trans (sc_ne w o v hk),fun row T fr hr hl=> ?_⟩
  rw[List.length_cons]at hl;obtain⟨row',g1,g2,g3⟩:=h6 _ T fr (sc_at w o v hr) (by rw[Array.size_setIfInBounds];omega);refine⟨row',g1,by rw[g2,Array.size_setIfInBounds],fun i=> ?_⟩
  rw[g3 i,List.length_cons];by_cases e:i=o
  ·subst e
   rw[if_neg (by omega),if_pos (by omega),Array.getElem?_setIfInBounds,if_pos rfl,if_pos (by omega)]
   simp
  ·by_cases hin:o+1<=i/\i<o+1+vs.length
   ·rw[if_pos hin,if_pos (by omega),show i-o=(i-(o+1))+1 by omega]
    rfl
   ·rw[if_neg hin,if_neg (by omega),Array.getElem?_setIfInBounds,if_neg (Ne.symm e)]
set_option maxRecDepth 100000 in
theorem tab10a(f:Nat->Value)(v6 v9 v10 v11 v12 v13 v14 v15 v16 v17 v18 v19 v20 v22:Value):tab (dQ f [(6,v6),(9,v9),(10,v10),(11,v11),(12,v12),(13,v13),(14,v14),(15,v15),(16,v16),(17,v17),(18,v18),(19,v19),(20,v20),(22,v22)]) 23= #[f 0,f 1,f 2,f 3,f 4,f 5,v6,f 7,f 8,v9,v10,v11,v12,v13,v14,v15,v16,v17,v18,v19,v20,f 21,v22]:=rfl
set_option maxHeartbeats 1000000 in
set_option maxRecDepth 100000 in
theorem mwA(w:World)(f:Nat->Value)(b3 b5:Nat)(c0 c1 c2 c3 c4 c5 c6 c7 u0 u1:Value)(ac:Option Addr)(lc mc:Nat)(h3:f 3= .pointer (some ⟨b3,0,none⟩))(h5:f 5= .pointer (some ⟨b5,0,none⟩))(hb5:b5<w.heap.size)
  (k0:w.cell? ⟨b5,0,none⟩=some c0) (k1:w.cell? ⟨b5,1,none⟩=some c1) (k2:w.cell? ⟨b5,2,none⟩=some c2) (k3:w.cell? ⟨b5,3,none⟩=some c3) (k4:w.cell? ⟨b5,4,none⟩=some c4) (k5:w.cell? ⟨b5,5,none⟩=some c5) (k6:w.cell? ⟨b5,6,none⟩=some c6) (k7:w.cell? ⟨b5,7,none⟩=some c7) (k8:w.cell? ⟨b5,8,none⟩=some (.slice ac lc mc))
  (f0:w.frozen? ⟨b5,0,none⟩=false) (f1:w.frozen? ⟨b5,1,none⟩=false) (f2:w.frozen? ⟨b5,2,none⟩=false) (f3:w.frozen? ⟨b5,3,none⟩=false) (f4:w.frozen? ⟨b5,4,none⟩=false) (f5:w.frozen? ⟨b5,5,none⟩=false) (f6:w.frozen? ⟨b5,6,none⟩=false) (f7:w.frozen? ⟨b5,7,none⟩=false) (f8:w.frozen? ⟨b5,8,none⟩=false)
  (q0:w.cell? ⟨b3,0,none⟩=some u0) (q1:w.cell? ⟨b3,1,none⟩=some u1) (R:Array Value->World->Prop)
  (hc:Calls Try.prog 26 #[.agg #[c0,c1,c2,c3,c4,c5,c6,c7,.slice ac lc mc],.agg #[u0,u1]] w fun e W=>∃(n0 n1 n2 n3 n4:Int) (a5 a6 a7 a8:Option Addr) (l5 m5 l6 m6 l7 m7 l8 m8:Nat),e= .returned (.agg #[.int .i64 n0,.int .i64 n1,.int .i64 n2,.int .i64 n3,.int .i64 n4,.slice a5 l5 m5,.slice a6 l6 m6,.slice a7 l7 m7,.slice a8 l8 m8])/\lc<l8/\W.heap[b5]? =w.heap[b5]? /\w.heap.size<=W.heap.size/\R #[.int .i64 n0,.int .i64 n1,.int .i64 n2,.int .i64 n3,.int .i64 n4,.slice a5 l5 m5,.slice a6 l6 m6,.slice a7 l7 m7,.slice a8 l8 m8] W) (Q:Exit->Act->World->Prop)
  (hK:∀l (ds:List Value) (W W':World),l.map (·.1)=[6,9,10,11,12,13,14,15,16,17,18,19,20,22]->ds.length=9->R ds.toArray W->w.heap.size<=W.heap.size->W'.os=W.os->W'.tape=W.tape->W'.output=W.output->W.heap.size<=W'.heap.size->(∀k,k<W.heap.size->k≠b5->W'.heap[k]? =W.heap[k]?)->
   (∀row T fr,W.heap[b5]? =some (.cells row T fr)->9<=row.size->∃row',W'.heap[b5]? =some (.cells row' T fr)/\row'.size=row.size/\∀i,i<9->row'[i]? =ds[i]?)->W.heap[b5]? =w.heap[b5]? ->Q .normal ⟨tab (dQ f l) 23,[]⟩ W'):
  B10.wp Try.prog Q ⟨tab (dQ f []) 23,[]⟩ w:=by
 unfold B10 vM
 simp only[Try.f10,Option.getD,l9,cond_false,cond_true]
 rw[tab10,h3,h5]
 go_wp2_with (first|(go_at_call 26;refine hc.mono ?_;rintro e W ⟨n0,n1,n2,n3,n4,a5,a6,a7,a8,l5,m5,l6,m6,l7,m7,l8,m8,rfl,hlt,hb,hs,hR⟩;(have hbW:b5<W.heap.size:=Nat.lt_of_lt_of_le hb5 hs);(have k0':=(gJ 0 hb).trans k0);(have k1':=(gJ 1 hb).trans k1);(have k2':=(gJ 2 hb).trans k2);(have k3':=(gJ 3 hb).trans k3);(have k4':=(gJ 4 hb).trans k4);(have k5':=(gJ 5 hb).trans k5);(have k6':=(gJ 6 hb).trans k6);(have k7':=(gJ 7 hb).trans k7);(have k8':=(gJ 8 hb).trans k8);(have f0':=(eU 0 hb).trans f0);(have f1':=(eU 1 hb).trans f1);(have f2':=(eU 2 hb).trans f2);(have f3':=(eU 3 hb).trans f3);(have f4':=(eU 4 hb).trans f4);(have f5':=(eU 5 hb).trans f5);(have f6':=(eU 6 hb).trans f6);(have f7':=(eU 7 hb).trans f7);(have f8':=(eU 8 hb).trans f8)))
 obtain⟨h1,h2,h3',h4,h5',h6⟩:=setC_ok [.int .i64 n0,.int .i64 n1,.int .i64 n2,.int .i64 n3,.int .i64 n4,.slice a5 l5 m5,.slice a6 l6 m6,.slice a7 l7 m7,.slice a8 l8 m8] W b5 0
 have hal:∀(X:World) (o:Obj) k,k<X.heap.size->(X.alloc o).heap[k]? =X.heap[k]? :=fun X o k hk=>by
  show(X.heap.push _)[k]? =_
  rw[Array.getElem?_push_lt hk,Array.getElem?_eq_getElem hk]
 generalize hX:xQ W b5 0 [.int .i64 n0,.int .i64 n1,.int .i64 n2,.int .i64 n3,.int .i64 n4,.slice a5 l5 m5,.slice a6 l6 m6,.slice a7 l7 m7,.slice a8 l8 m8]=X at h1 h2 h3' h4 h5' h6
 have hle:W.heap.size<=(X.alloc (.cells #[.int .i64 n0,.int .i64 n1,.int .i64 n2,.int .i64 n3,.int .i64 n4,.slice a5 l5 m5,.slice a6 l6 m6,.slice a7 l7 m7,.slice a8 l8 m8] 41)).heap.size:=by show _<=(Array.push _ _).size;rw[Array.size_push,h4];omega
 have hkk:∀k,k<W.heap.size->k≠b5->(X.alloc (.cells #[.int .i64 n0,.int .i64 n1,.int .i64 n2,.int .i64 n3,.int .i64 n4,.slice a5 l5 m5,.slice a6 l6 m6,.slice a7 l7 m7,.slice a8 l8 m8] 41)).heap[k]? =W.heap[k]? :=fun k hk hne=>by rw[hal _ _ _ (by rw[h4];exact hk),h5' k hne]
 have hrw:∀row T fr,W.heap[b5]? =some (.cells row T fr)->9<=row.size->∃row',(X.alloc (.cells #[.int .i64 n0,.int .i64 n1,.int .i64 n2,.int .i64 n3,.int .i64 n4,.slice a5 l5 m5,.slice a6 l6 m6,.slice a7 l7 m7,.slice a8 l8 m8] 41)).heap[b5]? =some (.cells row' T fr)/\row'.size=row.size/\∀i,i<9->row'[i]? =([.int .i64 n0,.int .i64 n1,.int .i64 n2,.int .i64 n3,.int .i64 n4,.slice a5 l5 m5,.slice a6 l6 m6,.slice a7 l7 m7,.slice a8 l8 m8]:List Value)[i]? :=fun row T fr hr hrs=>by
  obtain⟨row',g1,g2,g3⟩:=h6 row T fr hr (by simpa using hrs);refine⟨row',by rw[hal _ _ _ (by rw[h4];exact hbW)];exact g1,g2,fun i hi=> ?_⟩
  rw[g3 i,if_pos ⟨Nat.zero_le _,by simpa using hi⟩]
  rfl
 have hlst:∀v6 v9 v10 v11 v12 v13 v14 v15 v16 v17 v18 v19 v20 v22:Value,Q .normal ⟨tab (dQ f [(6,v6),(9,v9),(10,v10),(11,v11),(12,v12),(13,v13),(14,v14),(15,v15),(16,v16),(17,v17),(18,v18),(19,v19),(20,v20),(22,v22)]) 23,[]⟩ (X.alloc (.cells #[.int .i64 n0,.int .i64 n1,.int .i64 n2,.int .i64 n3,.int .i64 n4,.slice a5 l5 m5,.slice a6 l6 m6,.slice a7 l7 m7,.slice a8 l8 m8] 41)):=by
  intro v6 v9 v10 v11 v12 v13 v14 v15 v16 v17 v18 v19 v20 v22;have g:=hK [(6,v6),(9,v9),(10,v10),(11,v11),(12,v12),(13,v13),(14,v14),(15,v15),(16,v16),(17,v17),(18,v18),(19,v19),(20,v20),(22,v22)] [.int .i64 n0,.int .i64 n1,.int .i64 n2,.int .i64 n3,.int .i64 n4,.slice a5 l5 m5,.slice a6 l6 m6,.slice a7 l7 m7,.slice a8 l8 m8] W (X.alloc (.cells #[.int .i64 n0,.int .i64 n1,.int .i64 n2,.int .i64 n3,.int .i64 n4,.slice a5 l5 m5,.slice a6 l6 m6,.slice a7 l7 m7,.slice a8 l8 m8] 41)) rfl rfl hR hs h1 h2 h3';exact g hle hkk hrw hb
 rw[<-hX]at hlst
 simp only[tab10a,h3,h5,xQ]at hlst
 exact hlst _ _ _ _ _ _ _ _ _ _ _ _ _ _
end Go.User
namespace Go.User
open Go.Lf Go.Proofs
noncomputable section
def S10:bD:={args:=[.val bF,.val gH],multi:=false,res:=tDn,mode:= .shr,pre:=fun x=>Sp.okA x.1/\Sp.okV x.1/\Sp.okQ x.1/\List.length (Sp.cB x.1)<=List.length x.2.1.1,fn:=fun x=>(Sp.iY x.1 x.2.1,(Sp.gD x.1 x.2.1,()),())}
def C10:Ctx:={mkC 23 [(26,S26b)]with mds:=[(4,.shr),(5,mDn),(8,mDn),(6,.shr)]}
def l10(x:aH S10.args):aW:={ι:=Nat,inv:=fun n=>n=0,dec:=fun _=>0,keep:=[],ovr:=fun n=>[(3,.box gH .shr x.2.1),(4,.box tDn .shr tDn.dflt),(5,.box tDn mDn (Sp.cN x.1 x.2.1 n,(Sp.xN x.1 x.2.1 n,()),()))]}
def G101:Prop:=∀x,S10.pre x->gE S10.args x->wpTL C10 (dL [] C10) [.i [],.i []] ((d6 vM).take 2) (ofL (bZ S10.args x 0)) (fun st'=>∃i,(l10 x).inv i/\atX (l10 x) cF i (kC st' (l10 x).frz)) (fun _ _=>False) (jU C10 Try.f10.results.toList S10 (S10.fn x))
def G102:Prop:=∀(x:aH S10.args) (n:Nat),(S10.pre x/\Sp.bT x.2.1 (x.1,[]) (n+1)=Sp.bT x.2.1 (x.1,[]) n/\n<=List.length (Sp.cB x.1)+1)->wpT C10 (dL [] C10) (.z 5 []) B10 (stx (l10 x) cF n) (fun _=>False) (fun _ _=>False) (jU C10 Try.f10.results.toList S10 (S10.fn x))
end
end Go.User
namespace Go.User
open Go.Proofs Go.Lf
set_option maxRecDepth 100000
theorem vc101:(G101)=(
let q0:=True/\True/\True/\True;
let q1:Int:=(0:Int);
let q2:(List Int×Unit)×Unit:=((([]:List tI.den),()),());
let q3:Sp.Code×(List Int×Unit)×Unit:=((q1,q1,q1,q1,q1,([]:List cC.den),([]:List bC.den),([]:List eW.den),()),q2);
∀(x:Sp.Code×Sp.Uni×Unit),Sp.okA x.1/\Sp.okV x.1/\Sp.okQ x.1/\(Sp.cB x.1).length<=x.2.1.1.length->aB bF x.1/\aB gH x.2.1/\True->(q0/\True)/\(q0/\True/\True)/\∃(i:Nat),i=(0:Nat)/\x.2.1=x.2.1/\q3=q3/\(x.1,q2)=(Sp.cN x.1 x.2.1 i,(Sp.xN x.1 x.2.1 i,()),())/\True):=by kernel_rfl
theorem vc102:(G102)=(
let q0:=(1:Nat);
∀(x:Sp.Code×Sp.Uni×Unit),
 let q1:=(Sp.cB x.1).length;
 let q2:=x.2.1.1.length;
 let q3:Sp.Code×List Int:=(x.1,([]:List Int));
 ∀(n:Nat),
 let q4:Sp.Code:=Sp.cN x.1 x.2.1 n;
 let q5:List Int:=Sp.xN x.1 x.2.1 n;
 let q6:Int:=(↑q5.length:Int);
 let q7:Bool:=q6==q6;
 (Sp.okA x.1/\Sp.okV x.1/\Sp.okQ x.1/\q1<=q2)/\Sp.bT x.2.1 q3 (n+q0)=Sp.bT x.2.1 q3 n/\n<=q1+q0->((True/\True/\(Sp.okA q4/\Sp.okV q4/\Sp.okQ q4/\(Sp.cB q4).length<=q2/\∀(i:Nat),Sp.bW x.2.1 (q4,q5) i=(q4,q5))/\True/\True)/\True/\True)/\((True/\True/\True/\True/\True/\True/\True/\True/\True/\True)/\True)/\(q7=true->((True/\True)/\True/\True)/\(q4,(q5,()),())=(Sp.iY x.1 x.2.1,(Sp.gD x.1 x.2.1,()),()))/\(q7=false->False)):=by kernel_rfl
end Go.User
namespace Sp
theorem stepR_neg(u:Uni)(s:Code×List Int){b:Int}(h:b<0):dU u s b=s:=by
 unfold dU
 split
 ·rfl
 ·rw[if_neg]
  have:atC s.1 b=(s.1,false,()):=by unfold atC;rw[if_pos (.inl h)]
  rw[this];simp
theorem uG(u:Uni)(s:Code×List Int)(i:Nat):∀k,(bW u s i).2.length<=(bW u s (i+k)).2.length
 |0=>Nat.le_refl _
 |k+1=>Nat.le_trans (uG u s i k) (wG u _ _).1
theorem passI_all{u:Uni}{s:Code×List Int}(h:bW u s (cB s.1).length=s):∀i,bW u s i=s:=by
 intro i
 rcases Nat.le_total i (cB s.1).length with hi|hi
 ·have h1:=uG u s i ((cB s.1).length-i)
  rw[show i+((cB s.1).length-i)=(cB s.1).length by omega,h]at h1
  obtain⟨h2,h3⟩:=iK u s i;exact h3 (by omega)
 ·induction i with
  |zero=>exact(by rw[show (0:Nat)=(cB s.1).length by omega];exact h)
  |succ i ih=>
   rcases Nat.lt_or_ge i (cB s.1).length with g|g
   ·rw[show i+1=(cB s.1).length by omega];exact h
   ·have e:=ih g
    simp only[bW];rw[e];exact stepR_neg u s (by omega)
end Sp
namespace Go.User
open Go Go.Proofs Go.RowKit Go.Lib Go.Lf
theorem hC10:aG Try.prog C10:=okC (aE ok26b aS) rfl rfl rfl rfl rfl rfl rfl
theorem g101:G101:=by
 rw[vc101]
 simp only[zz,zy]
 intro x _ _
 exact⟨0,rfl,rfl⟩
theorem g102:G102:=by
 rw[vc102]
 simp only[zz,zy]
 rintro⟨c,u,xu⟩ n ⟨⟨h1,h2,h3,h4⟩,h5,h6⟩
 dsimp only at *
 have hV:=Sp.passNV (s:=(c,[])) ⟨h1,h2,h3⟩ u n
 have hR:=Sp.nN (L:=(Sp.cB c).length) (s:=(c,[])) ⟨h1,Sp.yB h3,rfl,by have:=Sp.br_le c;simpa using this⟩ u n
 have hlen:(Sp.cB (Sp.cN c u n)).length=(Sp.cB c).length:=hR.len
 have hstop:=Sp.jY u (c,[]) (n:=n) (by rw[h5])
 have hI:Sp.bW u (Sp.bT u (c,[]) n) (Sp.cB (Sp.bT u (c,[]) n).1).length=Sp.bT u (c,[]) n:=by
  have e:(Sp.cB (Sp.bT u (c,[]) n).1).length=(Sp.cB c).length:=hlen
  rw[e];exact h5
 have hall:=Sp.passI_all hI
 refine⟨⟨hV.a,hV.v,hV.q,by rw[hlen];exact h4,fun i=>hall i⟩,?_⟩
 have e2:=hstop ((Sp.cB c).length+2-n)
 rw[show n+((Sp.cB c).length+2-n)=(Sp.cB c).length+2 by omega]at e2
 unfold Sp.iY Sp.gD Sp.cN Sp.xN
 rw[e2]
 exact⟨rfl,fun h=>h trivial⟩
section
variable {P:Program} {C:Ctx} {N:NP} {w0:World} {F0 H:aA} {env:St} {a:Act} {w:World} {F:aA} {S:Nat->aA}
theorem aJ.setBox(hi:aJ P N w0 F0 H env a w F S){r:Nat}{τ:Ty}{m:Md}{x:τ.den}{Sr:aA}{b:Nat}{cs:List Value}(hroot:∀t,(env t).root≠some r)(hSr:∀k,¬S r k)
  (hS:∀k,Sr k∨k=b->(w0.heap.size<=k∨H k)/\k<w.heap.size/\¬F k/\∀t,¬S t k) (hv:a.tmps.getD r undef= .pointer (some ⟨b,0,none⟩)) (hp:fM F Sr w (.mem b 0) τ.size cs) (ho:Own F w τ m Sr cs x):
  aJ P N w0 F0 H (upd env r (.box τ m x)) a w F (fun t k=>if t=r then(Sr k∨k=b)else S t k):=by
 refine⟨hi.os,hi.tape,hi.output,hi.size,hi.block,hi.fb,hi.f0,hi.fn,?_,?_,?_,hi.defers,hi.slots⟩
 ·intro t k ht
  by_cases h:t=r
  ·simp only[h,if_true]at ht;exact⟨(hS k ht).1,(hS k ht).2.1,(hS k ht).2.2.1⟩
  ·simp only[h,if_false]at ht;exact hi.sb t k ht
 ·intro t u htu k h1 h2
  by_cases h:t=r
  ·simp only[h,if_true]at h1
   by_cases h':u=r
   ·exact htu (h.trans h'.symm)
   ·simp only[h',if_false]at h2
    exact(hS k h1).2.2.2 u h2
  ·simp only[h,if_false]at h1
   by_cases h':u=r
   ·simp only[h',if_true]at h2
    exact(hS k h2).2.2.2 t h1
   ·simp only[h',if_false]at h2
    exact hi.sd t u htu k h1 h2
 ·intro t
  by_cases h:t=r
  ·subst h
   rw[bU];refine⟨.mem b 0,Sr,cs,.inr ⟨rfl,b,rfl,?_,hv,by simp⟩,hp,ho⟩
   funext k
   simp only[if_true,eq_iff_iff];constructor
   ·intro hk;exact⟨.inl hk,fun e=>hp.1 (e▸hk)⟩
   ·rintro⟨hk|hk,hne⟩
    ·exact hk
    ·exact absurd hk hne
  ·rw[bG _ _ h]
   refine aF.keep (fun _ h=>h) (fun _ _=>rfl) rfl ?_ ?_ (hi.ent t)
   ·intro q hq
    have hqr:q≠r:=fun e=>hroot t (e▸hq)
    exact⟨fun ho=>bG _ _ hqr,fun _=>rfl,by simp[hqr],fun _ _=>rfl,fun b h1 h2=>absurd h1 h2,fun b hb=>(hi.sb q b hb).2.2⟩
   ·intro _
    exact⟨by simp[h],fun _ _=>rfl,fun b h1 h2=>absurd h1 h2⟩
theorem inv_setsN{n:Nat}(hi:aJ P N w0 F0 H env a w F S)(hn:a.tmps.size=n)(hp:N.p=none)(hps:N.ps=[])(l:List (Nat×Value)){env':St}(K:List Nat)(hK:∀t,t∉K->env' t= .dead)(hd:∀t∈K,t∉l.map (·.1)/\env' t=env t/\∀r,(env t).root=some r->r∈K):
  aJ P N w0 F0 H env' ⟨tab (dQ (fun t=>a.tmps.getD t undef) l) n,[]⟩ w F S:=by
 refine hi.hand (a':=⟨tab (dQ (fun t=>a.tmps.getD t undef) l) n,[]⟩) rfl (by rw[tR,hn]) (l.map (·.1)) (fun t ht=> ?_) (fun s h=>by rw[hp]at h;cases h) (fun z h=>by rw[hps]at h;cases h) fun t=> ?_
 ·by_cases h:t<n
  ·rw[pR h,pV ht]
  ·rw[tab_out h]
   simp[Array.getD_eq_getD_getElem?,hn,h]
 ·by_cases h:t∈K
  ·obtain⟨h1,h2,h3⟩:=hd t h
   refine .inr ⟨h1,h2,fun r hr=> ?_⟩
   have:=hd r (h3 r hr)
   exact⟨this.1,this.2.1⟩
  ·exact .inl (hK t h)
theorem inv_onlyN(hi:aJ P N w0 F0 H env a w F S){env':St}(K:List Nat)(hK:∀t,t∉K->env' t= .dead)(hd:∀t∈K,env' t=env t/\∀r,(env t).root=some r->r∈K):aJ P N w0 F0 H env' a w F S:=by
 refine hi.hand hi.defers rfl [] (fun t ht=>rfl) (fun s h=>by simp) (fun z h=>by simp) fun t=> ?_
 by_cases h:t∈K
 ·obtain⟨h2,h3⟩:=hd t h
  exact .inr ⟨by simp,h2,fun r hr=>⟨by simp,(hd r (h3 r hr)).1⟩⟩
 ·exact .inl (hK t h)
theorem tab_actN{n:Nat}{a:Act}(hd:a.defers=[])(hs:a.tmps.size=n):a=⟨tab (dQ (fun t=>a.tmps.getD t undef) []) n,[]⟩:=by
 obtain⟨tm,df⟩:=a
 dsimp only at hd hs
 subst hd
 congr 1
 exact arr_tab tm hs
theorem FOk.introH(hC:aG P C){stp:St->Oper->Option (Prop×St)}(hstp:dM P C stp){f:FuncId}{s:bD}{fn:Func}{c:Code}(hdef:fV P f)(hf:P.funcs[f]? =some fn)(hb:fn.body=some c)
  (hN:C.np=⟨fn.ntmps,none,0,s.glb,[]⟩) (hlen:Nat.ble s.args.length fn.ntmps=true) (n:Nat) (KA:List KT) (l1:aH s.args->aW) {G:Prop} (hG1:G)
  (eG:G=∀x,s.pre x->gE s.args x->wpTL C stp KA ((d6 c).take n) (ofL (bZ s.args x 0)) (fun st'=>∃i,(l1 x).inv i/\atX (l1 x) cF i (kC st' (l1 x).frz)) (fun _ _=>False) (jU C fn.results.toList s (s.fn x)))
  (hH:∀x,s.pre x->∀i,(l1 x).inv i->∀w F a w',(∀b,F b->b<w.heap.size)->Inv P C.np w F none' (stx (l1 x) cF i) a w'->j9 P ((d6 c).drop n) (bodyPost P fn (mZ F w s.multi s.res s.mode (s.fn x))) a w'):FOk P f s:=by
 subst eG
 refine⟨hdef,?_⟩
 intro w F vs xs hG hF ha hp
 have hA:=hG1 xs hp (d4 ha)
 have hl:=cD.len ha
 have hlen':s.args.length<=fn.ntmps:=Nat.le_of_ble_eq_true hlen
 have hst:=aJ.start (P:=P) (N:=C.np) (by rw[hN];exact hG) hF ha (by rw[hN];show vs.length<=fn.ntmps;omega) (by rw[hN]) (by rw[hN])
 refine calls_of_wp hf hb ?_
 rw[show C.np.n=fn.ntmps by rw[hN]]at hst
 refine tS c ?_
 rw[<-List.take_append_drop n (d6 c)]
 refine gQ (oC hC hstp hA ⟨F,_,by simpa using hst⟩ ?_ (fun _ _ _ _ h=>h.elim) ?_)
 ·rintro st1 a1 w1 ⟨i,g1,g2⟩ hi1
  exact hH xs hp i g1 w F a1 w1 hF (mI g2 (iT (l:=(l1 xs).frz) hi1))
 ·intro st1 a1 w1 hq hi1
  obtain⟨v,h1,h2⟩:=kE hC hq hi1;obtain⟨_,_,hi1⟩:=hi1;exact⟨hi1.defers,v,h1,h2⟩
end
theorem drop10:(d6 vM).drop 2=[.block 0 (.loop (.block 1 B10))]:=by kernel_rfl
theorem g102w(x:aH S10.args)(n:Nat)(h:S10.pre x/\Sp.bT x.2.1 (x.1,[]) (n+1)=Sp.bT x.2.1 (x.1,[]) n/\n<=List.length (Sp.cB x.1)+1):WpT C10 (dL [] C10) (.z 5 []) B10 (stx (l10 x) cF n) (fun _=>False) (fun _ _=>False) (jU C10 Try.f10.results.toList S10 (S10.fn x)):=
 @WpT.of3 (aH S10.args) Nat (fun x n=>S10.pre x/\Sp.bT x.2.1 (x.1,[]) (n+1)=Sp.bT x.2.1 (x.1,[]) n/\n<=List.length (Sp.cB x.1)+1) C10 (dL [] C10) (fun _ _=> .z 5 []) B10 (fun x n=>stx (l10 x) cF n) (fun _ _ _=>False) (fun _ _ _ _=>False) (fun x _=>jU C10 Try.f10.results.toList S10 (S10.fn x)) G102 @g102 (by kernel_rfl) x n h
theorem l10_out{x:aH S10.args}{n t:Nat}(h:t∉ [3,4,5]):stx (l10 x) cF n t= .dead:=
 pS (K:=[3,4,5]) rfl (fun t ht=>look_none (by exact ht)) t h
end Go.User
namespace Go.User
open Go Go.Proofs Go.RowKit Go.Lib Go.Lf
theorem dn_cells{F:aA}{w:World}{m:Md}{S0:aA}{cs:List Value}{x:tDn.den}(h:Own F w tDn m S0 cs x):∃(n0 n1 n2 n3 n4:Int) (a5 a6 a7 a8:Option Addr) (l5 m5 l6 m6 l7 m7 m8:Nat),
  cs=[.int .i64 n0,.int .i64 n1,.int .i64 n2,.int .i64 n3,.int .i64 n4,.slice a5 l5 m5,.slice a6 l6 m6,.slice a7 l7 m7,.slice a8 (List.length x.2.1.1) m8]:=by
 obtain⟨cA,cB,SA,SB,rfl,_,_,_,hA,hB⟩:=h
 obtain⟨c0,r0,_,_,rfl,_,_,_,h0,hA⟩:=hA
 obtain⟨c1,r1,_,_,rfl,_,_,_,h1,hA⟩:=hA
 obtain⟨c2,r2,_,_,rfl,_,_,_,h2,hA⟩:=hA
 obtain⟨c3,r3,_,_,rfl,_,_,_,h3,hA⟩:=hA
 obtain⟨c4,r4,_,_,rfl,_,_,_,h4,hA⟩:=hA
 obtain⟨c5,r5,_,_,rfl,_,_,_,h5,hA⟩:=hA
 obtain⟨c6,r6,_,_,rfl,_,_,_,h6,hA⟩:=hA
 obtain⟨c7,r7,_,_,rfl,_,_,_,h7,hA⟩:=hA
 obtain⟨d0,s0,_,_,rfl,_,_,_,hB,hU⟩:=hB
 obtain⟨d1,s1,_,_,rfl,_,_,_,h8,hV⟩:=hB
 have hA:r7=[]:=hA
 have hU:s0=[]:=hU
 have hV:s1=[]:=hV
 subst hA hU hV
 obtain⟨rfl,_⟩:=h0
 obtain⟨rfl,_⟩:=h1
 obtain⟨rfl,_⟩:=h2
 obtain⟨rfl,_⟩:=h3
 obtain⟨rfl,_⟩:=h4
 obtain⟨a5,m5,rfl,_⟩:=h5
 obtain⟨a6,m6,rfl,_⟩:=h6
 obtain⟨a7,m7,rfl,_⟩:=h7
 obtain⟨a8,m8,rfl,_⟩:=h8
 exact⟨_,_,_,_,_,a5,a6,a7,a8,_,m5,_,m6,_,m7,m8,rfl⟩
theorem uni_cells{F:aA}{w:World}{m:Md}{S0:aA}{cs:List Value}{x:gH.den}(h:Own F w gH m S0 cs x):∃u0 u1:Value,cs=[u0,u1]:=by
 obtain⟨c0,r0,_,_,rfl,_,_,_,h0,h⟩:=h
 obtain⟨c1,r1,_,_,rfl,_,_,_,h1,h⟩:=h
 have h:r1=[]:=h
 subst h
 obtain⟨a5,m5,rfl,_⟩:=h0
 obtain⟨a6,m6,rfl,_⟩:=h1
 exact⟨_,_,rfl⟩
theorem seg_at{row:Array Value}{n:Nat}{cs:List Value}(h:seg row.toList 0 n=cs){i:Nat}(hi:i<n):row[i]? =cs[i]? :=by
 subst h
 unfold seg
 simp[List.getElem?_take,hi]
theorem at_seg{row:Array Value}{n:Nat}{cs:List Value}(hl:cs.length=n)(h:∀i,i<n->row[i]? =cs[i]?)(hs:n<=row.size):seg row.toList 0 n=cs:=by
 unfold seg
 apply List.ext_getElem?
 intro i
 by_cases hi:i<n
 ·have:=h i hi
  simp[List.getElem?_take,hi,this]
 ·rw[List.getElem?_eq_none (by simp;omega),List.getElem?_eq_none (by omega)]
set_option maxRecDepth 100000 in
set_option maxHeartbeats 1000000 in
theorem rnd10(x:aH S10.args)(n:Nat)(hp:S10.pre x)(hn:n<=List.length (Sp.cB x.1))(hun:Sp.bT x.2.1 (x.1,[]) (n+1)≠Sp.bT x.2.1 (x.1,[]) n){w0:World}{F0 H:aA}{a:Act}{w:World}(hi:Inv Try.prog C10.np w0 F0 H (stx (l10 x) cF n) a w)(Q:Exit->Act->World->Prop)
  (hQ:∀a' w',Inv Try.prog C10.np w0 F0 H (stx (l10 x) cF (n+1)) a' w'->Q .normal a' w'):B10.wp Try.prog Q a w:=by
 obtain⟨F,S,hi⟩:=hi
 obtain⟨c,u,xu⟩:=x
 obtain⟨p1,p2,p3,p4⟩:=hp
 have p1:Sp.okA c:=p1
 have p2:Sp.okV c:=p2
 have p3:Sp.okQ c:=p3
 have p4:(Sp.cB c).length<=u.1.length:=p4
 dsimp only at hn hun
 have hV:=Sp.passNV (s:=(c,[])) ⟨p1,p2,p3⟩ u n
 have hR:=Sp.nN (L:=(Sp.cB c).length) (s:=(c,[])) ⟨p1,Sp.yB p3,rfl,by have:=Sp.br_le c;simpa using this⟩ u n
 have hlen:(Sp.cB (Sp.cN c u n)).length=(Sp.cB c).length:=hR.len
 have hbd:=p1.t.bd
 have hcnt:=hR.cnt
 have hxle:(Sp.xN c u n).length<=100000:=by show(Sp.bT u (c,[]) n).2.length<=_;omega
 have hlt:(Sp.xN c u n).length<(Sp.xN c u (n+1)).length:=by
  obtain⟨g1,g2⟩:=Sp.iK u (Sp.bT u (c,[]) n) (Sp.cB c).length;rcases Nat.lt_or_ge (Sp.xN c u n).length (Sp.xN c u (n+1)).length with h|h
  ·exact h
  ·exact absurd (g2 (Nat.le_antisymm h g1)) hun
 have h5:=hi.ent 5
 have e5:stx (l10 (c,u,xu)) cF n 5= .box tDn mDn (Sp.cN c u n,(Sp.xN c u n,()),()):=rfl
 rw[e5]at h5
 obtain⟨pl,S0,cs,hr5⟩:=h5
 obtain⟨_,_,b5,rfl,hS0,hv5,hsb5⟩:=hr5.box_inj
 obtain⟨_,hp5,hown⟩:=hr5
 obtain⟨hnS,hnF,row,T,hrow,hrs,hseg⟩:=hp5
 have hrs:0+9<=row.size:=hrs
 have hseg:seg row.toList 0 9=cs:=hseg
 have hb5:=(hi.sb 5 b5 hsb5).2.1
 have hS05:∀k,S0 k->S 5 k:=fun k hk=>by rw[hS0]at hk;exact hk.1
 have h3:=hi.ent 3
 have e3:stx (l10 (c,u,xu)) cF n 3= .box gH .shr u:=rfl
 rw[e3]at h3
 obtain⟨pl,S3,us,hr3⟩:=h3
 obtain⟨_,_,b3,rfl,_,hv3,hsb3⟩:=hr3.box_inj
 obtain⟨_,hp3,hown3⟩:=hr3
 obtain⟨_,_,row3,T3,hrow3,hrs3,hseg3⟩:=hp3
 have hseg3:seg row3.toList 0 2=us:=hseg3
 obtain⟨u0,u1,rfl⟩:=uni_cells hown3
 have hcall:=mok26.2 w F S0 (.agg cs.toArray) (Sp.cN c u n,(Sp.xN c u n,()),()) [.agg #[u0,u1]] (u,()) hi.fb (fun k hk=>⟨(hi.sb 5 k (hS05 k hk)).2.1,(hi.sb 5 k (hS05 k hk)).2.2⟩) ⟨cs,rfl,hown⟩ ⟨_,_,rfl,⟨[u0,u1],rfl,hown3.shr⟩,rfl⟩
  ⟨hV.a,hV.v,hV.q,by rw[hlen];exact p4,hxle⟩
 have hfn:S26m.fn (Sp.cN c u n,(Sp.xN c u n,()),()) (u,())=(Sp.cN c u (n+1),(Sp.xN c u (n+1),()),()):=by
  show(Sp.cP u (Sp.cN c u n) (Sp.xN c u n) (Sp.cB (Sp.cN c u n)).length,(Sp.xP u (Sp.cN c u n) (Sp.xN c u n) (Sp.cB (Sp.cN c u n)).length,()),())=_
  rw[hlen]
  rfl
 rw[hfn]at hcall
 obtain⟨n0,n1,n2,n3,n4,a5,a6,a7,a8,l5,m5,l6,m6,l7,m7,m8,rfl⟩:=dn_cells hown
 have hk:∀i,i<9->w.cell? ⟨b5,i,none⟩=row[i]? /\w.frozen? ⟨b5,i,none⟩=false:=fun i hi=>⟨by simp[World.cell?,hrow],by simp[World.frozen?,hrow]⟩
 have hk3:∀i,i<2->w.cell? ⟨b3,i,none⟩=row3[i]? :=fun i hi=>by simp[World.cell?,hrow3]
 have hs:∀i,i<9->row[i]? =_:=fun i hi=>seg_at hseg hi
 have hs3:∀i,i<2->row3[i]? =_:=fun i hi=>seg_at hseg3 hi
 rw[tab_actN hi.defers hi.slots.size]
 refine mwA w (fun t=>a.tmps.getD t undef) b3 b5 (.int .i64 n0) (.int .i64 n1) (.int .i64 n2) (.int .i64 n3) (.int .i64 n4) (.slice a5 l5 m5) (.slice a6 l6 m6) (.slice a7 l7 m7) u0 u1 a8 (Sp.xN c u n).length m8 hv3 hv5 hb5
  ((hk 0 (by omega)).1.trans (hs 0 (by omega))) ((hk 1 (by omega)).1.trans (hs 1 (by omega))) ((hk 2 (by omega)).1.trans (hs 2 (by omega))) ((hk 3 (by omega)).1.trans (hs 3 (by omega))) ((hk 4 (by omega)).1.trans (hs 4 (by omega))) ((hk 5 (by omega)).1.trans (hs 5 (by omega))) ((hk 6 (by omega)).1.trans (hs 6 (by omega))) ((hk 7 (by omega)).1.trans (hs 7 (by omega))) ((hk 8 (by omega)).1.trans (hs 8 (by omega)))
  (hk 0 (by omega)).2 (hk 1 (by omega)).2 (hk 2 (by omega)).2 (hk 3 (by omega)).2 (hk 4 (by omega)).2 (hk 5 (by omega)).2 (hk 6 (by omega)).2 (hk 7 (by omega)).2 (hk 8 (by omega)).2
  ((hk3 0 (by omega)).trans (hs3 0 (by omega))) ((hk3 1 (by omega)).trans (hs3 1 (by omega)))
  (fun ds W=>W.os=w.os/\W.tape=w.tape/\W.output=w.output/\(∀k,k<w.heap.size->¬S0 k->W.heap[k]? =w.heap[k]?)/\∃F' Sd,Sub F F'/\(∀b,F' b->¬F b->w.heap.size<=b∨S0 b)/\(∀b,F' b∨Sd b->b<W.heap.size)/\(∀b,Sd b->(w.heap.size<=b∨S0 b)/\¬F' b)/\Own F' W tDn mDn Sd ds.toList (Sp.cN c u (n+1),(Sp.xN c u (n+1),()),()))
  ?_ Q ?_
 ·refine hcall.mono ?_
  rintro e W ⟨v,F',Sd,rfl,g1,g2,g3,g4,g5,g6,g7,g8,g9,hret⟩
  obtain⟨ds,rfl,hown'⟩:=hret;obtain⟨n0,n1,n2,n3,n4,a5,a6,a7,a8,l5,m5,l6,m6,l7,m7,m8,rfl⟩:=dn_cells hown';exact⟨n0,n1,n2,n3,n4,a5,a6,a7,a8,l5,m5,l6,m6,l7,m7,_,m8,rfl,hlt,g5 b5 hb5 hnS,g4,g1,g2,g3,g5,F',Sd,g6,g7,g8,g9,hown'⟩
 ·rintro l ds W W' hl hdl ⟨g1,g2,g3,g5,F',Sd,g6,g7,g8,g9,hown'⟩ hsW k1 k2 k3 k4 k5 k6 hbW
  have hnF':¬F' b5:=fun h=>by
   rcases g7 b5 h hnF with h|h
   ·omega
   ·exact hnS h
  have hnSd:¬Sd b5:=fun h=>by
   rcases (g9 b5 h).1 with h|h
   ·omega
   ·exact hnS h
  have hd:=hi.drop 5
  have hSx:∀k,S 5 k->∀t,¬(fun t=>if t=5 then none' else S t) t k:=by
   intro k hk t ht;by_cases h:t=5
   ·simp only[h,if_true]at ht;exact ht
   ·simp only[h,if_false]at ht;exact hi.sd t 5 h k ht hk
  have hZ:=hd.worldZ (w':=W') (F':=F') (Z:=S 5) (k1.trans g1) (k2.trans g2) (k3.trans g3) (by omega) (fun k q1 q2=>by
    have hne:k≠b5:=fun e=>q2 (e▸hsb5)
    rw[k5 k (by omega) hne,g5 k q1 (fun h=>q2 (hS05 k h))])
   (fun k hk=>⟨(hi.sb 5 k hk).1,(hi.sb 5 k hk).2.2,hSx k hk⟩) g6 (fun b hb=>by have:=g8 b (.inl hb);omega) (fun b q1 q2=>(g7 b q1 q2).imp id (hS05 b))
  have hout:∀t,t∉ [3,4]->Go.Lf.drop (stx (l10 (c,u,xu)) cF n) 5 t= .dead:=by
   intro t ht;unfold Go.Lf.drop;by_cases e:t=5
   ·subst e;rw[bU]
   ·rw[bG _ _ e]
    have:stx (l10 (c,u,xu)) cF n t= .dead:=l10_out (fun h=>by
     simp only[List.mem_cons,List.not_mem_nil,or_false]at h ht;rcases h with h|h|h
     ·exact ht (.inl h)
     ·exact ht (.inr h)
     ·exact e h)
    rcases c9 (stx (l10 (c,u,xu)) cF n) 5 t with g|⟨g,_⟩
    ·exact g
    ·rw[g,this]
  have hse:=inv_setsN hZ hi.slots.size rfl rfl l (env':=Go.Lf.drop (stx (l10 (c,u,xu)) cF n) 5) [3,4] hout (fun t ht=>by
   rw[hl];simp only[List.mem_cons,List.not_mem_nil,or_false]at ht;rcases ht with rfl|rfl
   ·exact⟨by decide,rfl,fun r hr=>by cases hr⟩
   ·exact⟨by decide,rfl,fun r hr=>by cases hr⟩)
  obtain⟨row',r1,r2,r3⟩:=k6 row T (0,0) (hbW.trans hrow) (by omega);have hbx:=Go.User.aJ.setBox hse (r:=5) (τ:=tDn) (m:=mDn) (x:=(Sp.cN c u (n+1),(Sp.xN c u (n+1),()),())) (Sr:=Sd) (b:=b5) (cs:=ds) (fun t=>oO _ 5 t) (fun k hk=>by
    have hk:(if 5=5 then none' else S 5) k:=hk
    rw[if_pos rfl]at hk;exact hk)
   (fun k hk=>by
    rcases hk with hk|rfl
    ·obtain⟨q1,q2⟩:=g9 k hk
     have q3:=g8 k (.inr hk)
     rcases q1 with q1|q1
     ·exact⟨.inl (by have:=hi.size;omega),by omega,q2,fun t ht=>by
       by_cases h:t=5
       ·simp only[h,if_true]at ht;exact ht
       ·simp only[h,if_false]at ht;have:=(hi.sb t k ht).2.1;omega⟩
     ·exact⟨(hi.sb 5 k (hS05 k q1)).1,by omega,q2,hSx k (hS05 k q1)⟩
    ·exact⟨(hi.sb 5 k hsb5).1,by omega,hnF',hSx k hsb5⟩)
   (by
    have:(tab (dQ (fun t=>a.tmps.getD t undef) l) C10.np.n).getD 5 undef=a.tmps.getD 5 undef:=by
     rw[pR (by show 5<23;omega),pV (by rw[hl];decide)]
    exact this.trans hv5)
   ⟨hnSd,hnF',row',T,r1,by rw[r2];exact hrs,at_seg (n:=9) hdl r3 (by rw[r2];omega)⟩
   (by
    have hown':Own F' W tDn mDn Sd ds (Sp.cN c u (n+1),(Sp.xN c u (n+1),()),()):=by simpa using hown'
    exact hown'.congr (fun b hb=>k5 b (g8 b (.inl hb)) (fun e=>hnF' (e▸hb))) (fun b hb=>k5 b (g8 b (.inr hb)) (fun e=>hnSd (e▸hb))))
  refine hQ _ _ ⟨_,_,inv_onlyN hbx [3,4,5] (fun t ht=>l10_out ht) (fun t ht=> ?_)⟩
  simp only[List.mem_cons,List.not_mem_nil,or_false]at ht;rcases ht with rfl|rfl|rfl
  ·exact⟨rfl,fun r hr=>by cases hr⟩
  ·exact⟨rfl,fun r hr=>by cases hr⟩
  ·exact⟨rfl,fun r hr=>by cases hr⟩
end Go.User
namespace Go.User
open Go Go.Proofs Go.RowKit Go.Lib Go.Lf
set_option maxRecDepth 100000 in
theorem ok10:FOk Try.prog 10 S10:=by
 refine FOk.introH (c:=vM) hC10 (dG hC10) Try.call10 Try.func10 (by kernel_rfl) (by kernel_rfl) (by kernel_rfl) 2 [.i [],.i []] l10 (G:=G101) @g101 (by kernel_rfl) ?_
 rintro x hp i hi w F a w' hF hinv
 have hi:i=(0:Nat):=hi
 subst hi
 obtain⟨p1,p2,p3,p4⟩:=hp
 have p1:Sp.okA x.1:=p1
 have p3:Sp.okQ x.1:=p3
 rw[drop10]
 show(Code.block 0 (.loop (.block 1 B10))).wp Try.prog _ a w'
 refine wp_block ?_
 refine oB (ι:=Nat) (fun n a v=>n<=List.length (Sp.cB x.1)+1/\Inv Try.prog C10.np w F none' (stx (l10 x) cF n) a v) (fun n=>List.length (Sp.cB x.1)+2-n) 0 ⟨by omega,hinv⟩ ?_
 rintro n a1 v1 ⟨hn,hi1⟩
 refine wp_block ?_
 by_cases hst:Sp.bT x.2.1 (x.1,[]) (n+1)=Sp.bT x.2.1 (x.1,[]) n
 ·refine WpT.ok hC10 (dG hC10) (g102w x n ⟨⟨p1,p2,p3,p4⟩,hst,hn⟩) hi1 (fun _ _ _ h=>h.elim) (fun _ _ _ _ h=>h.elim) ?_
  intro st a2 v2 hq hi2;obtain⟨v,h1,h2⟩:=kE hC10 hq hi2;obtain⟨_,_,hi2⟩:=hi2;exact⟨hi2.defers,v,h1,h2⟩
 ·have hle:n+1<=List.length (Sp.cB x.1):=by
   have hR:=Sp.nN (L:=(Sp.cB x.1).length) (s:=(x.1,[])) ⟨p1,Sp.yB p3,rfl,by have:=Sp.br_le x.1;simpa using this⟩ x.2.1 (n+1)
   have h2:=Sp.pD x.2.1 (x.1,[]) n (fun e=>hst ((Sp.iK x.2.1 _ _).2 e))
   have h3:=hR.cnt
   simp only[List.length_nil]at h2;omega
  exact rnd10 x n ⟨p1,p2,p3,p4⟩ (by omega) hst hi1 _ (fun a' v' hi'=>⟨n+1,⟨by omega,hi'⟩,by omega⟩)
end Go.User
namespace Sp
noncomputable section
def dN(c:Code)(b:Bool):Uni:=(List.replicate (cB c).length b,List.replicate c.2.2.1.toNat b,())
def exI1:List Inst:=[(1,0,0,bK 1,fY 5,bM,bM,())]
def exI2:List Inst:=[(3,10,0,bK 1,bK 0,fY 1,bM,()),(1,0,0,bK 2,bK 1,bM,bM,())]
def exC:Code:=(4,2,3,0,0,[],[],[([],(2,0,bM,bK 0,bM,[1,2],()),()),(exI1,mA 3,()),(exI2,mA 3,()),([],(5,0,bM,bM,bM,[0,0],()),())],())
end
end Sp
namespace Go.User
open Go.Lf
noncomputable section
abbrev sU:Md:= .pair (.own .shr) (.pair (.own .shr) .shr)
abbrev mEx:Md:= .pair .shr (.pair .shr (.pair .shr (.pair .shr (.pair .shr (.pair (.own .shr) (.pair (.own .shr) (.pair (.own mW) .shr)))))))
def S20:bD:={args:=[.val tI],multi:=false,res:=oV,mode:= .shr,pre:=fun _=>True,fn:=fun x=>Sp.mA x.1}
def C20:Ctx:={mkC 6 []with mds:=[(2,.shr)]}
def L20(x:aH S20.args):List aW:=[]
def S22:bD:={args:=[.val bF,.val .bool],multi:=false,res:=gH,mode:=sU,pre:=fun x=>List.length (Sp.cB x.1)<=5000/\0<=x.1.2.2.1/\x.1.2.2.1<=5000,fn:=fun x=>Sp.dN x.1 x.2.1}
def C22:Ctx:={mkC 41 []with mds:=[(11,.own .shr),(14,.own .shr),(15,sU),(5,sU),(4,sU)]}
def L22(x:aH S22.args):List aW:=[
 {ι:=Nat,inv:=fun i=>i<=List.length (Sp.cB x.1),dec:=fun i=>List.length (Sp.cB x.1)-i,ovr:=fun i=>[(5,.box gH sU (List.replicate i x.2.1++List.replicate (List.length (Sp.cB x.1)-i) false,List.replicate x.1.2.2.1.toNat false,())),(6,.shr tI (i:Int))],keep:=[1,4]},
 {ι:=Nat,inv:=fun i=>i<=x.1.2.2.1.toNat,dec:=fun i=>x.1.2.2.1.toNat-i,ovr:=fun i=>[(5,.box gH sU (List.replicate (List.length (Sp.cB x.1)) x.2.1,List.replicate i x.2.1++List.replicate (x.1.2.2.1.toNat-i) false,())),(7,.shr tI (i:Int))],keep:=[1,4]}]
def S14:bD:={args:=[.val bF],multi:=false,res:=gH,mode:=sU,pre:=fun x=>List.length (Sp.cB x.1)<=5000/\0<=x.1.2.2.1/\x.1.2.2.1<=5000,fn:=fun x=>Sp.dN x.1 false}
def C14:Ctx:={mkC 5 [(22,S22)]with mds:=[(2,sU),(4,sU)]}
def L14(x:aH S14.args):List aW:=[]
def S9:bD:={args:=[.val bF,.val gH],multi:=false,res:=tDn,mode:= .shr,pre:=S25.pre,fn:=fun x=>(Sp.iY x.1 x.2.1,(Sp.gD x.1 x.2.1,()),())}
def C9:Ctx:={mkC 16 [(25,S25)]with mds:=[(4,.shr),(5,.shr),(6,.shr)]}
def L9(x:aH S9.args):List aW:=[]
def S18:bD:={args:=[],multi:=false,res:=bF,mode:=mEx,pre:=fun _=>True,fn:=fun _=>Sp.exC}
def C18:Ctx:={mkC 29 [(17,S17),(19,S19),(20,S20)]with mds:=[(0,mEx),(6,.own .shr),(1,.own .shr),(14,.own .shr),(2,.own .shr),(18,mW),(21,mW),(24,mW),(26,mW),(27,.own mW),(28,mEx)],asn:=[19,22]}
def L18(x:aH S18.args):List aW:=[]
end
end Go.User
namespace Go.User
open Go.Proofs Go.Lf
set_option maxRecDepth 100000
theorem vc20:(eR C20 (dL [] C20) S20 L20 Try.f20)=(
let q0:Int:=(0:Int);
let q1:Sp.Opd:=(q0,q0,q0,());
∀(x:Int×Unit),True->aB tI x.1/\True->((True/\True)/\True)/\((True/\True/\True/\True)/\True/\True)/\((1:Int),q0,q1,q1,q1,((List.replicate (2:Nat) q0).set (0:Nat) x.1).set (1:Nat) q0,())=Sp.mA x.1):=by kernel_rfl
theorem vc22:(eR C22 (dL [] C22) S22 L22 Try.f22)=(
let q0:=True/\True/\True;
let q1:Int:=(0:tI.den);
let q2:=(True/\True)/\True;
let q3:Sp.Uni:=(([]:List Ty.bool.den),([]:List Ty.bool.den),());
let q4:=q3=q3/\True;
let q5:=(True/\True/\True/\q0)/\True;
let q6:Int:=(1:Int);
∀(x:Sp.Code×Bool×Unit),
 let q7:=(Sp.cB x.1).length;
 let q8:Int:=(↑x.1.2.2.2.2.2.2.2.1.length:Int);
 let q9:=x.1.2.2.1.toNat;
 let q10:List Bool×Unit:=(List.replicate q9 false,());
 let q11:=x.2.1=x.2.1/\q4;
 let q12:List Bool:=List.replicate q7 x.2.1;
 q7<=(5000:Nat)/\(0:tI.den)<=x.1.2.2.1/\x.1.2.2.1<=(5000:tI.den)->
 aB bF x.1/\aB Ty.bool x.2.1/\True->
 (q0/\True)/\
 ((True/\True/\True/\(q1<=q8/\q8<=q8/\q8<=bJ)/\True/\True/\(q1<=x.1.2.2.1/\x.1.2.2.1<=x.1.2.2.1/\x.1.2.2.1<=bJ)/\q0)/\True/\True)/\
 q2/\
 (∃(x_1:Nat),x_1<=q7/\(List.replicate q8.toNat false,q10)=(List.replicate x_1 x.2.1++List.replicate (q7-x_1) false,q10)/\(0:Int)=(↑x_1:Int)/\q11)/\
 ∀(x_1:Nat),
 let q13:=q7-x_1;
 let q14:List Bool:=List.replicate x_1 x.2.1++List.replicate q13 false;
 let q15:Sp.Uni:=(q14,q10);
 let q16:=q14.length;
 let q17:Bool:=decide ((↑x_1:Int)<(↑q16:Int));
 let q18:Int:=(↑x_1:Int)+q6;
 x_1<=q7->
 aB gH q15/\aB tI (↑x_1:Int)/\True->
 q5/\
 (q17=true->
 ((True/\True/\True/\True/\inN (↑x_1:Int) q16/\True)/\True/\True)/\
 ((True/\inK IntKind.i64 q18/\True/\True)/\True)/\
 ∃(y:Nat),
 let q19:=q7-y;
 y<=q7/\q19<q13/\(q14.set (↑x_1:Int).toNat x.2.1,q10)=(List.replicate y x.2.1++List.replicate q19 false,q10)/\q18=(↑y:Int)/\q11)/\
 (q17=false->
 q2/\
 (∃(x_2:Nat),x_2<=q9/\q15=(q12,List.replicate x_2 x.2.1++List.replicate (q9-x_2) false,())/\(0:Int)=(↑x_2:Int)/\q11)/\
 ∀(x_2:Nat),
 let q20:=q9-x_2;
 let q21:List Bool:=List.replicate x_2 x.2.1++List.replicate q20 false;
 let q22:Sp.Uni:=(q12,q21,());
 let q23:=q21.length;
 let q24:Bool:=decide ((↑x_2:Int)<(↑q23:Int));
 let q25:Int:=(↑x_2:Int)+q6;
 x_2<=q9->
 aB gH q22/\aB tI (↑x_2:Int)/\True->
 q5/\
 (q24=true->
 ((True/\True/\True/\True/\inN (↑x_2:Int) q23/\True)/\True/\True)/\
 ((True/\inK IntKind.i64 q25/\True/\True)/\True)/\
 ∃(y:Nat),
 let q26:=q9-y;
 y<=q9/\q26<q20/\(q12,q21.set (↑x_2:Int).toNat x.2.1,())=(q12,List.replicate y x.2.1++List.replicate q26 false,())/\q25=(↑y:Int)/\q11)/\
 (q24=false->((True/\True)/\True/\True)/\q22=Sp.dN x.1 x.2.1))):=by kernel_rfl
theorem vc14:(eR C14 (dL [] C14) S14 L14 Try.f14)=(
let q0:=(5000:Nat);
let q1:Int:=(0:tI.den);
let q2:Int:=(5000:tI.den);
∀(x:Sp.Code×Unit),
 let q3:=(Sp.cB x.1).length<=q0/\q1<=x.1.2.2.1/\x.1.2.2.1<=q2;
 q3->aB bF x.1/\True->((True/\True/\True)/\True)/\((True/\q3/\True)/\True/\True)/\Sp.dN x.1 false=Sp.dN x.1 false):=by kernel_rfl
theorem vc9:(eR C9 (dL [] C9) S9 L9 Try.f9)=(
let q0:=True/\True/\True;
let q1:=True/\q0;
∀(x:Sp.Code×Sp.Uni×Unit),
 let q2:=Sp.okA x.1/\Sp.okR x.1/\(Sp.cB x.1).length<=x.2.1.1.length;
 let q3:Sp.Code×(List Int×Unit)×Unit:=(Sp.iY x.1 x.2.1,(Sp.gD x.1 x.2.1,()),());
 q2->aB bF x.1/\aB gH x.2.1/\True->(q1/\True)/\((True/\True/\q2/\True/\True/\q1)/\q0)/\(q1/\True/\True)/\q3=q3):=by kernel_rfl
theorem vc18:(eR C18 (dL [] C18) S18 L18 Try.f18)=(
let q0:=True/\True/\True/\True/\True;
let q1:=True/\True/\True/\True/\q0;
let q2:Int:=(2:Int);
let q3:Int:=(3:Int);
let q4:Int:=(0:Int);
let q5:Sp.Opd:=(q4,q4,q4,());
let q6:Sp.Opd:=Sp.bK q4;
let q7:List Int:=List.replicate (2:Nat) q4;
let q8:Int:=(1:Int);
let q9:Sp.Opd:=Sp.bK q8;
let q10:Int:=(5:Int);
let q11:Sp.Opd×Unit:=(q5,());
let q12:Sp.Opd×Sp.Opd×Unit:=(q5,q11);
let q13:Sp.Term×Unit:=(Sp.mA q3,());
∀(x:Unit),True->True->((True/\True)/\True)/\(q0/\True/\True)/\(q1/\True/\True)/\((True/\True/\True/\True/\True/\True/\q1)/\True/\True)/\((4:Int),q2,q3,q4,q4,([]:List cC.den),([]:List bC.den),(([]:List aC.den),(q2,q4,q5,q6,q5,(q7.set (0:Nat) q8).set (1:Nat) q2,()),())::((q8,q4,q4,q9,Sp.fY q10,q12)::([]:List aC.den),q13)::((q3,(10:Int),q4,q9,q6,Sp.fY q8,q11)::(q8,q4,q4,Sp.bK q2,q9,q12)::([]:List aC.den),q13)::(([]:List aC.den),(q10,q4,q5,q5,q5,q7,()),())::([]:List eW.den),())=Sp.exC):=by kernel_rfl
end Go.User
namespace Sp
theorem rep_set{α:Type}(v d:α){i n:Nat}(h:i<n):(List.replicate i v++List.replicate (n-i) d).set i v=List.replicate (i+1) v++List.replicate (n-(i+1)) d:=by
 rw[List.set_append_right _ _ (by simp)]
 rw[List.length_replicate,Nat.sub_self,List.replicate_succ',List.append_assoc]
 congr 1
 have:n-i=(n-(i+1))+1:=by omega
 rw[this,List.replicate_succ]
 rfl
theorem rep_len{α:Type}(v d:α){i n:Nat}(h:i<=n):(List.replicate i v++List.replicate (n-i) d).length=n:=by simp;omega
end Sp
namespace Go.User
open Go Go.Proofs Go.RowKit Go.Lib Go.Lf
theorem ok20:FOk Try.prog 20 S20:=by
 have hC:aG Try.prog C20:=okC aS rfl rfl rfl rfl rfl rfl rfl
 refine FOk.intro hC (dG hC) Try.call20 Try.func20 (by kernel_rfl) (by kernel_rfl) L20 ?_
 rw[vc20]
 simp only[zz,zy]
 intro x _;rfl
theorem ok22:FOk Try.prog 22 S22:=by
 have hC:aG Try.prog C22:=okC aS rfl rfl rfl rfl rfl rfl rfl
 refine FOk.intro hC (dG hC) Try.call22 Try.func22 (by kernel_rfl) (by kernel_rfl) L22 ?_
 rw[vc22]
 simp only[zz,zy]
 rintro⟨c,v,u⟩ ⟨h1,h2,h3⟩ _
 have hcB:c.2.2.2.2.2.2.2.1=Sp.cB c:=rfl
 dsimp only at *
 simp only[hcB]
 have h1:(Sp.cB c).length<=5000:=h1
 have h2:(0:Int)<=c.2.2.1:=h2
 have h3:c.2.2.1<=(5000:Int):=h3
 have hr:c.2.2.1.toNat<=5000:=by omega
 have hrl:∀ {i n:Nat},i<=n->(List.replicate i v++List.replicate (n-i) false).length=n:=fun h=>Sp.rep_len v false h
 refine⟨⟨⟨Int.natCast_nonneg _,Int.le_refl _,gW (by omega)⟩,h2,Int.le_refl _,by rw[lC];omega⟩,⟨0,by omega,by simp,rfl⟩,fun i hi _=>⟨fun hlt=> ?_,fun hge=>⟨⟨0,by omega,?_,rfl⟩,fun j hj _=>⟨fun hlt=> ?_,fun hge2=> ?_⟩⟩⟩⟩
 ·rw[hrl hi]at hlt⊢
  exact⟨⟨by omega,hlt⟩,aQ (by omega) (by omega),i+1,by omega,by omega,by rw[Sp.rep_set v false (by omega)],by simp⟩
 ·rw[hrl hi]at hge
  have:i=(Sp.cB c).length:=by omega
  subst this
  simp
 ·rw[hrl hj]at hlt⊢
  exact⟨⟨by omega,hlt⟩,aQ (by omega) (by omega),j+1,by omega,by omega,by rw[Sp.rep_set v false (by omega)],by simp⟩
 ·rw[hrl hj]at hge2
  have:j=c.2.2.1.toNat:=by omega
  subst this;unfold Sp.dN
  simp
theorem ok14:FOk Try.prog 14 S14:=by
 have hC:aG Try.prog C14:=okC (aE ok22 aS) rfl rfl rfl rfl rfl rfl rfl
 refine FOk.intro hC (dG hC) Try.call14 Try.func14 (by kernel_rfl) (by kernel_rfl) L14 ?_
 rw[vc14]
 simp only[zz,zy]
 rintro x h _;exact h
theorem ok9:FOk Try.prog 9 S9:=by
 have hC:aG Try.prog C9:=okC (aE ok25' aS) rfl rfl rfl rfl rfl rfl rfl
 refine FOk.intro hC (dG hC) Try.call9 Try.func9 (by kernel_rfl) (by kernel_rfl) L9 ?_
 rw[vc9]
 simp only[zz,zy]
 rintro x h _;exact h
theorem ok18:FOk Try.prog 18 S18:=by
 have hC:aG Try.prog C18:=okC (aE ok17 (aE ok19 (aE ok20 aS))) rfl rfl rfl rfl rfl rfl rfl
 refine FOk.intro hC (dG hC) Try.call18 Try.func18 (by kernel_rfl) (by kernel_rfl) L18 ?_
 rw[vc18]
 simp only[zz,zy]
 all_goals first|(intros;rfl)|rfl
end Go.User
namespace Sp
noncomputable section
def bitU(h m:Int):Int:=Go.IntKind.u8.wrap ((BitVec.ofInt 8 h&&&BitVec.ofInt 8 m).toNat:Int)
def bit1(k:Int):Int:=Go.IntKind.i64.wrap ((BitVec.ofInt 64 k&&&BitVec.ofInt 64 1).toNat:Int)
def yY(u:Uni)(k:Int):Uni:=if bit1 k=0 then(u.1.set ((Int.tdiv k 2).tmod (u.1.length:Int)).toNat true,u.2.1,())else u
def drwB(u:Uni)(k:Int):Uni:=if bit1 k=1/\0<(u.2.1.length:Int)then(u.1,u.2.1.set ((Int.tdiv k 2).tmod (u.2.1.length:Int)).toNat true,())else u
def kS(c:Code)(l:List Int):Nat->Uni
 |0=>dN c false
 |i+1=>drwB (yY (kS c l i) (l.getD i 0)) (l.getD i 0)
def sB(x:List Int)(k:Nat):List Inst:=((cB (dX x)).take k).flatMap (fun b=>b.1)
def j7(x:List Int):List Inst:=sB x (cB (dX x)).length
def pckA(how:Int)(b:Nat)(i:Inst):Bool:=decide (b%3=0)||(gA i||decide (how%16=9))
def pA(x:List Int)(how:Int)(b j:Nat):List Inst:=((List.range j).map (fun k=>(j7 x).getD (b+8*k) Go.User.cZ)).filter (pckA how b)
def selA(x:List Int)(how:Int)(b:Nat):List Inst:=pA x how b (((j7 x).length+7-b)/8)
def j3(b:Nat):Int:=((b/3*3+3:Nat):Int)
def toA(how:Int)(b:Nat):List Int:=if bitU how 6=6 then [j3 b,(b:Int)+2]else if bitU how 1=1 then [(b:Int)+1,j3 b]else [(b:Int)+1,(b:Int)+2]
def trm0(how:Int)(b:Nat):Term:=if b%3=0 then(2,0,bM,bK ((b%5:Nat):Int),bM,toA how b,())else mA (j3 b)
def trm1(how:Int)(b:Nat):Term:=if 6<=b then(if b=6/\bitU how 8=8 then(2,0,bM,bK 1,bM,[7,0],())else(5,0,bM,bM,bM,[0,0],()))else trm0 how b
def blkA(x:List Int)(how:Int)(b:Nat):Block:=(selA x how b,trm1 how b,())
def mJ(x:List Int)(how:Int)(b:Nat):List Block:=(List.range b).map (blkA x how)
def armC(x:List Int)(B:List Block):Code:=((dX x).1,(dX x).2.1,(dX x).2.2.1,0,(dX x).2.2.2.2.1,(dX x).2.2.2.2.2.1,[],B,())
def toP(b:Block)(v:Int):Block:=(b.1,(b.2.1.1,b.2.1.2.1,b.2.1.2.2.1,b.2.1.2.2.2.1,b.2.1.2.2.2.2.1,b.2.1.2.2.2.2.2.1.set 0 v,()),())
def sS(how:Int)(B:List Block):List Block:=if bitU how 32=32 then B.set 1 (toP (B.getD 1 bE) (1+how/64))else B
def armd(x:List Int)(how:Int):Code:=armC x (sS how (mJ x how 8))
def vL(x:List Int)(how:Int):Code:=if bitU how 16=16 then dX x else armd x how
end
end Sp
namespace Go.User
open Go.Lf
noncomputable section
abbrev mArm:Md:= .pair .shr (.pair .shr (.pair .shr (.pair .shr (.pair .shr (.pair .shr (.pair .shr (.pair (.own mW) .shr)))))))
def S24:bD:={args:=[.val (.prod (.slice (.int .u8)) .unit),.val tU8],multi:=false,res:=bF,mode:= .shr,pre:=fun _=>True,fn:=fun x=>Sp.armd x.1.1 x.2.1}
def C24:Ctx:={mkC 151 [(23,S23),(47,S47),(17,S17)]with mds:=[(4,.shr),(5,.shr),(15,.own .shr),(6,.own .shr),(30,.own .shr),(41,mArm),(8,mArm),(46,.own .shr),(10,.own .shr),(75,.own .shr),(12,.shr),(133,mW),(134,.own mW),(135,.own mW)],asn:=[131]}
def A24(x:aH S24.args):aW:={ι:=Nat,inv:=fun k=>k<=List.length (Sp.cB (Sp.dX x.1.1)),dec:=fun k=>List.length (Sp.cB (Sp.dX x.1.1))-k,ovr:=fun k=>[(6,.own (.slice aC) (.own .shr) (Sp.sB x.1.1 k)),(7,.shr tI (k:Int))],keep:=[1,2,4,5]}
def B24(x:aH S24.args):aW:={ι:=Nat,inv:=fun b=>b<=8,dec:=fun b=>8-b,ovr:=fun b=>[(8,.box bF mArm (Sp.armC x.1.1 (Sp.mJ x.1.1 x.2.1 b))),(9,.shr tI (b:Int))],keep:=[1,2,4,5,6]}
def D24(x:aH S24.args)(b:Nat):aW:={ι:=Nat,inv:=fun j=>j=0∨b+8*j<List.length (Sp.j7 x.1.1)+8,dec:=fun j=>List.length (Sp.j7 x.1.1)+8-(b+8*j),ovr:=fun j=>[(10,.own (.slice aC) (.own .shr) (Sp.pA x.1.1 x.2.1 b j)),(11,.shr tI (((b+8*j:Nat)):Int))],keep:=[1,2,4,5,6,8,9]}
def E24(t:Sp.Term):aW:={ι:=Unit,inv:=fun _=>True,dec:=fun _=>0,ovr:=fun _=>[(12,.box oV .shr t)],keep:=[1,2,4,5,6,8,9,10]}
def T24(x:aH S24.args):KT:=
 let tX (b:Nat):KT:= .s (.i []) (.s (.i [D24 x b]) (.s (.i []) (.c (E24 (Sp.trm0 x.2.1 b)) (.i []) fun _=> .c (E24 (Sp.trm1 x.2.1 b)) (.i []) fun _=> .i [])))
 let t2:KT:= .b (.l (B24 x) fun b=> .s (.i []) (.s (.b (tX b)) (.i [])))
 .s (.i []) (.s (.i []) (.s (.i []) (.s (.i [A24 x]) (.s (.i []) (.s (.s (.i []) t2) (.s (.i []) (.z 8 [])))))))
def S7:bD:={args:=[.val (.prod (.slice (.int .u8)) .unit),.val tU8],multi:=false,res:=bF,mode:= .shr,pre:=fun _=>True,fn:=fun x=>Sp.vL x.1.1 x.2.1}
def C7:Ctx:={mkC 13 [(23,S23),(24,S24)]with mds:=[(4,.shr)]}
def L7(x:aH S7.args):List aW:=[]
def S8:bD:={args:=[.val bF,.val (.slice tU8)],multi:=false,res:=gH,mode:= .shr,pre:=fun x=>List.length (Sp.cB x.1)<=5000/\0<=x.1.2.2.1/\x.1.2.2.1<=5000/\0<List.length (Sp.cB x.1),fn:=fun x=>Sp.kS x.1 x.2.1 (List.length x.2.1)}
def C8:Ctx:={mkC 52 [(14,S14)]with mds:=[(9,sU),(5,sU),(4,.shr)]}
def A8(x:aH S8.args):aW:={ι:=Nat,inv:=fun i=>i<=List.length x.2.1,dec:=fun i=>List.length x.2.1-i,ovr:=fun i=>[(5,.box gH sU (Sp.kS x.1 x.2.1 i)),(6,.shr tI (i:Int))],keep:=[1,4]}
def T8(x:aH S8.args):KT:= .s (.i []) (.s (.i []) (.s (.i [A8 x]) (.z 5 [])))
end
end Go.User
