/- The reference of convert: Succ, fU, before, arm, plan, renamed, copied, total: what they compute. -/
import Derived.Test.YtagdgckmikcllaaLfm
import Derived.Deep.LoopGhost
import Derived.Deep.OwnRows
import Derived.Deep.Light
import Derived.BigQuiet
set_option linter.unusedVariables false
set_option linter.unusedSimpArgs false
namespace Go.User
open Go Go.Proofs Go.RowKit Go.Lib Go.Lf Go.Maps Go.WideElems
theorem wf64{n:Int}(h:IntKind.i64.min<=n/\n<=IntKind.i64.max):(Lit.int .i64 n).wf=true:=by
 have h1:(-9223372036854775808:Int)<=n:=h.1
 have h2:n<=9223372036854775807:=h.2
 have h3:=h.1
 simp[Lit.wf,h1,h2,h3]
theorem key3{n:Int}(h:IntKind.i64.min<=n/\n<=IntKind.i64.max):keyOf Try.prog 3 (.int .i64 n)=some (.int .i64 n):=by
 simp[keyOf,Try.underlying3,mapKey,wf64 h]
theorem zero3(w:World):(zeroValue 3).run Try.prog w= .ok (.int .i64 0) w:=by
 have h:Try.t3.zero=some (.int .i64 0):=by kernel_rfl
 simp[zeroValue,Sem.run_bind,Sem.run_pure,Result.andThen,h]
theorem rO{es:Array MapEntry}{ck:Nat}{x:Int->Option Int}(h:j8 es ck x):Fit (H:=Unit) Try.prog 3 (plainElem Try.prog 3) es ck:=by
 refine⟨h.size,h.st,fun e he=> ?_⟩
 obtain⟨k,v,h1,h2,h3,h4⟩:=h.ints e he
 obtain⟨key,val,born⟩:=e
 dsimp only at h1 h2
 subst h1 h2
 exact⟨_,rd_mk (key3 h3) (plainElem_int Try.underlying3 (wf64 h4))⟩
theorem map_look{es:Array MapEntry}{ck:Nat}{x:Int->Option Int}(h:j8 es ck x){W:World}{b:Nat}(hb:W.heap[b]? =some (.map es ck)){n:Int}(hn:IntKind.i64.min<=n/\n<=IntKind.i64.max):
  (Instr.lookup 104 (.map (some b)) (.int .i64 n) true).run Try.prog W= .ok (.tuple #[.int .i64 ((x n).getD 0),.bool (x n).isSome]) W/\∀v,x n=some v->IntKind.i64.min<=v/\v<=IntKind.i64.max:=by
 rcases fit_look true (int_keyed Try.underlying3) Try.underlying104 (zero3 W) hb (rO h) (key3 hn)with⟨h1,h2,_⟩|⟨e,y,h1,h2,h3,_⟩
 ·have hx:x n=none:=by
   cases hq:x n with
   |none=>rfl
   |some v=>
    obtain⟨e,he,hk,_⟩:=(h.iff n v).1 hq;exact absurd hk (h2 e he)
  rw[hx];exact⟨h1,fun v hv=>by cases hv⟩
 ·obtain⟨k,v,g1,g2,g3,g4⟩:=h.ints e h1
  have hkn:k=n:=by
   rw[g1]at h2;injection h2
  subst hkn;have hx:x k=some v:=(h.iff k v).2 ⟨e,h1,g1,g2⟩;rw[hx];rw[g2]at h3;exact⟨h3,fun v' hv=>by injection hv with hv;subst hv;exact g4⟩
theorem yL(W:World){n:Int}(hn:IntKind.i64.min<=n/\n<=IntKind.i64.max):(Instr.lookup 104 (.map none) (.int .i64 n) true).run Try.prog W= .ok (.tuple #[.int .i64 0,.bool false]) W:=by
 have K:Keyed Try.prog 3:=int_keyed Try.underlying3
 have hf:(Instr.findKey 3 (.int .i64 n) []).run Try.prog W= .ok none W:=by
  rcases K.find W (key3 hn) [] (by simp)with h|⟨j,e,_,h,_⟩
  ·exact h.1
  ·simp at h
 simp[Instr.lookup,run_underlying Try.underlying104,zero3,Result.andThen,K.check W true (key3 hn),hf]
theorem rN:j8 #[] 0 (fun _=>none):=by
 refine⟨by simp,MapKept.stamped_empty 0,by simp,fun k v=>⟨fun h=>(by cases h),fun h=> ?_⟩⟩
 obtain⟨e,he,_⟩:=h
 simp at he
theorem qC{l:List (Lit×DataW Unit)}{p:Lit×DataW Unit}:p∈l.foldr DataW.insert []↔p∈l:=by
 induction l with
 |nil=>simp
 |cons a l ih=>rw[List.foldr_cons,Go.ChangeMaps.mem_insert_iff,ih,List.mem_cons]
theorem xV{e:MapEntry}{k v:Int}(hk:e.key= .int .i64 k)(hv:e.val= .int .i64 v)(h3:IntKind.i64.min<=k/\k<=IntKind.i64.max)(h4:IntKind.i64.min<=v/\v<=IntKind.i64.max):
  rg (H:=Unit) Try.prog 3 (plainElem Try.prog 3) e=(.int .i64 k,.lit (.int .i64 v)):=by
 obtain⟨key,val,born⟩:=e
 dsimp only at hk hv
 subst hk hv
 exact rg_of (rd_mk (key3 h3) (plainElem_int Try.underlying3 (wf64 h4)))
theorem map_put{es:Array MapEntry}{ck:Nat}{x:Int->Option Int}(h:j8 es ck x){W:World}{b:Nat}(hb:W.heap[b]? =some (.map es ck))(hroom:es.size<maxLen){k v:Int}(hk:IntKind.i64.min<=k/\k<=IntKind.i64.max)
  (hv:IntKind.i64.min<=v/\v<=IntKind.i64.max):∃es' ck',(Instr.mapUpdate 104 (.map (some b)) (.int .i64 k) (.int .i64 v)).run Try.prog W= .ok () (Go.ChangeMaps.setBlock W b (.map es' ck'))/\j8 es' ck' (Sp.upM x k v)/\es'.size<=es.size+1:=by
 obtain⟨es',ck',hrun,F',heq,_,_,hlast⟩:=fit_store (R':=plainElem (H:=Unit) Try.prog 3) (int_keyed Try.underlying3) Try.underlying104 hb (rO h) hroom (fun _ _ _ _ hz=>hz) (key3 hk) (plainElem_int Try.underlying3 (wf64 hv))
 have hints:∀e∈es'.toList,∃k v,e.key= .int .i64 k/\e.val= .int .i64 v/\(IntKind.i64.min<=k/\k<=IntKind.i64.max)/\IntKind.i64.min<=v/\v<=IntKind.i64.max:=by
  intro e he;rcases hlast e he with⟨h1,_⟩|⟨h1,h2⟩
  ·exact h.ints e h1
  ·exact⟨k,v,h1,h2,hk,hv⟩
 have hmem:∀p:Lit×DataW Unit,p∈es'.toList.map (rg Try.prog 3 (plainElem Try.prog 3))↔p=(.int .i64 k,.lit (.int .i64 v))∨(p∈es.toList.map (rg Try.prog 3 (plainElem Try.prog 3))/\Go.ChangeMaps.notKey (.int .i64 k) p=true):=by
  intro p;rw[<-qC,heq];unfold Go.ChangeMaps.putKey;rw[Go.ChangeMaps.mem_insert_iff,List.mem_filter,qC]
 refine⟨es',ck',hrun,⟨F'.size,F'.stamped,hints,fun k0 v0=>⟨fun hq=> ?_,?_⟩⟩,?_⟩
 ·unfold Sp.upM at hq
  have find:(Lit.int .i64 k0,DataW.lit (Lit.int .i64 v0))∈es'.toList.map (rg (H:=Unit) Try.prog 3 (plainElem Try.prog 3))->∃e∈es'.toList,e.key= .int .i64 k0/\e.val= .int .i64 v0:=by
   intro hm;obtain⟨e,he,hr⟩:=List.mem_map.1 hm;obtain⟨k1,v1,g1,g2,g3,g4⟩:=hints e he;rw[xV g1 g2 g3 g4]at hr;simp only[Prod.mk.injEq,Lit.int.injEq,true_and,DataW.lit.injEq]at hr;obtain⟨rfl,rfl⟩:=hr;exact⟨e,he,g1,g2⟩
  split at hq
  ·rename_i e
   injection hq with hq;subst e hq;exact find ((hmem _).2 (.inl rfl))
  ·rename_i hne
   obtain⟨e,he,g1,g2⟩:=(h.iff k0 v0).1 hq;obtain⟨k1,v1,q1,q2,q3,q4⟩:=h.ints e he;have e1:k1=k0:=by rw[q1]at g1;injection g1
   have e2:v1=v0:=by rw[q2]at g2;injection g2
   subst e1 e2;refine find ((hmem _).2 (.inr ⟨List.mem_map.2 ⟨e,he,xV q1 q2 q3 q4⟩,?_⟩));simp[Go.ChangeMaps.notKey,Lit.sameKey,hne]
 ·rintro⟨e,he,g1,g2⟩
  unfold Sp.upM;rcases hlast e he with⟨q1,q2⟩|⟨q1,q2⟩
  ·rw[if_neg (fun hh=>q2 (by rw[g1,hh]))]
   exact(h.iff k0 v0).2 ⟨e,q1,g1,g2⟩
  ·have e1:k0=k:=by have q:=g1.symm.trans q1;simpa using q
   have e2:v0=v:=by have q:=g2.symm.trans q2;simpa using q
   rw[if_pos e1,e2]
 ·have e1:es'.size=((es'.toList.map (rg (H:=Unit) Try.prog 3 (plainElem Try.prog 3))).foldr DataW.insert []).length:=by rw[length_sorted];simp
  rw[e1,heq];unfold Go.ChangeMaps.putKey;rw[length_insert];have e2:=List.length_filter_le (Go.ChangeMaps.notKey (.int .i64 k)) ((es.toList.map (rg (H:=Unit) Try.prog 3 (plainElem Try.prog 3))).foldr DataW.insert []);rw[length_sorted]at e2;simp at e2;omega
end Go.User
namespace Go.User
open Go Go.Proofs Go.RowKit Go.Lib Go.Lf
theorem shr_look{F:aA}{w:World}{v:Value}{x:Int->Option Int}(h:aT F w qT .shr none' v x){n:Int}(hn:IntKind.i64.min<=n/\n<=IntKind.i64.max):
  (∀W:World,(∀b,F b->W.heap[b]? =w.heap[b]?)->(Instr.lookup 104 v (.int .i64 n) true).run Try.prog W= .ok (.tuple #[.int .i64 ((x n).getD 0),.bool (x n).isSome]) W)/\∀v,x n=some v->IntKind.i64.min<=v/\v<=IntKind.i64.max:=by
 obtain⟨cs,rfl,v,rfl,h⟩:=h
 rcases h with⟨rfl,h⟩|⟨b,es,ck,rfl,hb,hw,hm⟩
 ·rw[h n]
  exact⟨fun W _=>yL W hn,fun v hv=>by cases hv⟩
 ·exact⟨fun W hW=>(map_look hm (W:=W) ((hW b hb).trans hw) hn).1,(map_look hm (W:=w) hw hn).2⟩
theorem below_opd{F:aA}{w w':World}(hF:∀b,F b->b<w.heap.size)(hB:Below w.heap.size w w'){o:Sp.Opd}(h:(IntKind.i64.min<=o.1/\o.1<=IntKind.i64.max)/\(IntKind.i64.min<=o.2.1/\o.2.1<=IntKind.i64.max)/\IntKind.i32.min<=o.2.2.1/\o.2.2.1<=IntKind.i32.max):
  mZ F w false aM .shr o (.returned (.agg #[.int .i64 o.1,.int .i64 o.2.1,.int .i32 o.2.2.1])) w':=by
 refine⟨_,F,none',rfl,hB,fun _ h=>h,fun q h hn=>absurd h hn,?_,fun _ h=>h.elim,?_⟩
 ·rintro q (h|h)
  ·exact Nat.lt_of_lt_of_le (hF q h) hB.size
  ·exact h.elim
 ·refine⟨[.int .i64 o.1,.int .i64 o.2.1,.int .i32 o.2.2.1],rfl,?_⟩
  refine⟨[.int .i64 o.1],[.int .i64 o.2.1,.int .i32 o.2.2.1],none',none',rfl,fun _ h=>h,fun _ h=>h,fun _ h=>h.elim,⟨rfl,h.1⟩,?_⟩
  refine⟨[.int .i64 o.2.1],[.int .i32 o.2.2.1],none',none',rfl,fun _ h=>h,fun _ h=>h,fun _ h=>h.elim,⟨rfl,h.2.1⟩,?_⟩
  exact⟨[.int .i32 o.2.2.1],[],none',none',rfl,fun _ h=>h,fun _ h=>h,fun _ h=>h.elim,⟨rfl,h.2.2⟩,rfl⟩
theorem wI{F:aA}{w:World}(hF:∀b,F b->b<w.heap.size){v:Value}{x:Int->Option Int}(h:aT F w qT .shr none' v x)(o:Sp.Opd)(hn:IntKind.i64.min<=o.2.1/\o.2.1<=IntKind.i64.max):
  Calls Try.prog 57 #[v,.agg #[.int .i64 o.1,.int .i64 o.2.1,.int .i32 o.2.2.1]] w fun e w'=>e= .returned (.agg #[.int .i64 (Sp.rnO x o).1,.int .i64 (Sp.rnO x o).2.1,.int .i32 (Sp.rnO x o).2.2.1])/\Below w.heap.size w w':=by
 obtain⟨hl,_⟩:=shr_look h hn
 have hl2:∀o1 o2,(Instr.lookup 104 v (.int .i64 o.2.1) true).run Try.prog ((w.alloc o1).alloc o2)= .ok (.tuple #[.int .i64 ((x o.2.1).getD 0),.bool (x o.2.1).isSome]) ((w.alloc o1).alloc o2):=fun o1 o2=>hl _ fun b hb=>by
  have hB:Below w.heap.size w ((w.alloc o1).alloc o2):=((Below.refl _ _).alloc (Nat.le_refl _) _).alloc (by simp) _
  exact hB.block b (hF b hb)
 cases hx:x o.2.1 with
 |none=>
  rw[hx]at hl2;have e:Sp.rnO x o=o:=by unfold Sp.rnO;rw[hx]
  rw[e];exact ren_no w v o.1 o.2.1 o.2.2.1 _ false (fun h=>by cases h.1) hl2
 |some r=>
  rw[hx]at hl2;by_cases hk:o.1=2
  ·have e:Sp.rnO x o=Sp.bK r:=by unfold Sp.rnO;rw[hx];exact if_pos hk
   rw[e,hk];exact ren_yes w v o.2.1 o.2.2.1 r hl2
  ·have e:Sp.rnO x o=o:=by unfold Sp.rnO;rw[hx];exact if_neg hk
   rw[e];exact ren_no w v o.1 o.2.1 o.2.2.1 r true (fun h=>hk h.2) hl2
theorem ok57:FOk Try.prog 57 S57:=by
 refine⟨Try.call57,?_⟩
 rintro w F vs ⟨x,o,u⟩ hG hF ⟨v,r1,rfl,hm,v2,r2,rfl,ho,hr⟩ hp
 have hr:r2=[]:=hr
 subst hr
 have hm:aT F w qT .shr none' v x:=hm
 obtain⟨cs,rfl,_,h⟩:=agg_of (τ:=aM) ho rfl
 obtain⟨rfl,b1,b2,b3⟩:=kG h
 have hl:=shr_look hm b2
 have key:(IntKind.i64.min<=(Sp.rnO x o).1/\(Sp.rnO x o).1<=IntKind.i64.max)/\(IntKind.i64.min<=(Sp.rnO x o).2.1/\(Sp.rnO x o).2.1<=IntKind.i64.max)/\IntKind.i32.min<=(Sp.rnO x o).2.2.1/\(Sp.rnO x o).2.2.1<=IntKind.i32.max:=by
  have b1:IntKind.i64.min<=o.1/\o.1<=IntKind.i64.max:=b1
  have b2:IntKind.i64.min<=o.2.1/\o.2.1<=IntKind.i64.max:=b2
  have b3:IntKind.i32.min<=o.2.2.1/\o.2.2.1<=IntKind.i32.max:=b3
  cases hx:x o.2.1 with
  |none=>
   have e:Sp.rnO x o=o:=by unfold Sp.rnO;rw[hx]
   rw[e];exact⟨b1,b2,b3⟩
  |some r=>
   by_cases hk:o.1=2
   ·have e:Sp.rnO x o=Sp.bK r:=by unfold Sp.rnO;rw[hx];exact if_pos hk
    rw[e];have q1:IntKind.i64.min<=(2:Int)/\(2:Int)<=IntKind.i64.max:=⟨by decide,by decide⟩
    have q2:IntKind.i32.min<=(0:Int)/\(0:Int)<=IntKind.i32.max:=⟨by decide,by decide⟩
    exact⟨q1,hl.2 r hx,q2⟩
   ·have e:Sp.rnO x o=o:=by unfold Sp.rnO;rw[hx];exact if_neg hk
    rw[e];exact⟨b1,b2,b3⟩
 refine(wI hF hm o b2).mono ?_
 rintro e w' ⟨rfl,hB⟩
 exact below_opd hF hB key
end Go.User
namespace Go.User
open Go Go.Proofs Go.RowKit Go.Lib Go.Lf
def WL(P:Program)(c:Code)(Q:Exit->Act->World->Prop):Nat->Act->World->Prop
 |0=>fun _ _=>False
 |n+1=>fun a w=>c.wp P (Exit.then (WL P c Q n) Q) a w
theorem uT{p:Nat->Prop}(h:∃n,p n):∃m,p m/\∀j,p j->m<=j:=by
 obtain⟨n,hn⟩:=h
 induction n using Nat.strongRecOn with
 |_ n ih=>
  by_cases hq:∃j,p j/\j<n
  ·obtain⟨j,h1,h2⟩:=hq
   exact ih j h2 h1
  ·exact⟨n,hn,fun j hj=>Nat.le_of_not_lt fun hl=>hq ⟨j,hj,hl⟩⟩
open Classical in
theorem wp_loop_n{P:Program}{c:Code}{Q:Exit->Act->World->Prop}{a:Act}{w:World}(n:Nat)(h:WL P c Q n a w):(Code.loop c).wp P Q a w:=by
 refine wp_loop (fun a w=>∃n,WL P c Q n a w) (fun a w=>if h:∃n,WL P c Q n a w then Classical.choose (uT h)else 0) ⟨n,h⟩ ?_
 intro a w hI
 have hs:=Classical.choose_spec (uT hI)
 rw[show (if h:∃n,WL P c Q n a w then Classical.choose (uT h)else 0)=Classical.choose (uT hI)from dif_pos hI]
 generalize Classical.choose (uT hI)=m at *
 cases m with
 |zero=>exact hs.1.elim
 |succ m=>
  refine Code.wp_mono (fun e a' w' hq=> ?_) (hs.1:c.wp P (Exit.then (WL P c Q m) Q) a w)
  cases e with
  |normal=>
   have hq:WL P c Q m a' w':=hq
   have hI':∃n,WL P c Q n a' w':=⟨m,hq⟩
   refine⟨hI',?_⟩
   show(if h:∃n,WL P c Q n a' w' then Classical.choose (uT h)else 0)<m+1
   rw[dif_pos hI'];exact Nat.lt_succ_of_le ((Classical.choose_spec (uT hI')).2 m hq)
  |_=>exact hq
def cZ:Sp.Inst:=(0,0,0,Sp.bM,Sp.bM,Sp.bM,Sp.bM,())
def ci(i:Sp.Inst):Nat->Value
 |0=> .int .i64 i.1
 |1=> .int .i64 i.2.1
 |2=> .int .i64 i.2.2.1
 |3=> .int .i64 i.2.2.2.1.1
 |4=> .int .i64 i.2.2.2.1.2.1
 |5=> .int .i32 i.2.2.2.1.2.2.1
 |6=> .int .i64 i.2.2.2.2.1.1
 |7=> .int .i64 i.2.2.2.2.1.2.1
 |8=> .int .i32 i.2.2.2.2.1.2.2.1
 |9=> .int .i64 i.2.2.2.2.2.1.1
 |10=> .int .i64 i.2.2.2.2.2.1.2.1
 |11=> .int .i32 i.2.2.2.2.2.1.2.2.1
 |12=> .int .i64 i.2.2.2.2.2.2.1.1
 |13=> .int .i64 i.2.2.2.2.2.2.1.2.1
 |_=> .int .i32 i.2.2.2.2.2.2.1.2.2.1
def Cis(f:Nat->Value)(off:Nat)(L:List Sp.Inst):Prop:=∀q,q<L.length->∀j,j<15->f (off+q*15+j)=ci (L.getD q cZ) j
structure Cp(w W:World)(A M:Nat)(T:TypeId)(N off:Nat)(L:List Sp.Inst)(x:Sp.Nm)(k:Nat):Prop where
 bel:Below w.heap.size w W
 row:∃f,W.rowIs A T N f/\Cis f off L
 nb:off+L.length*15<=N
 a:w.heap.size<=A
 m:w.heap.size<=M
 am:A≠M
 map:∃es ck,W.heap[M]? =some (.map es ck)/\j8 es ck x/\es.size<=k
structure Rg(i:Sp.Inst):Prop where
 d:IntKind.i64.min<=i.2.2.2.1.2.1/\i.2.2.2.1.2.1<=IntKind.i64.max
 a:IntKind.i64.min<=i.2.2.2.2.1.2.1/\i.2.2.2.2.1.2.1<=IntKind.i64.max
 b:IntKind.i64.min<=i.2.2.2.2.2.1.2.1/\i.2.2.2.2.2.1.2.1<=IntKind.i64.max
 c:IntKind.i64.min<=i.2.2.2.2.2.2.1.2.1/\i.2.2.2.2.2.2.1.2.1<=IntKind.i64.max
theorem Cp.bel'{w W W':World}{A M:Nat}{T:TypeId}{N off:Nat}{L:List Sp.Inst}{x:Sp.Nm}{k:Nat}(h:Cp w W A M T N off L x k)(hB:Below W.heap.size W W'):Cp w W' A M T N off L x k:=by
 obtain⟨f,h1,h2⟩:=h.row
 obtain⟨es,ck,g1,g2,g3⟩:=h.map
 have hM:M<W.heap.size:=(Array.getElem?_eq_some_iff.1 g1).1
 exact⟨h.bel.trans (hB.mono h.bel.size),⟨f,h1.of_block (hB.block _ h1.lt),h2⟩,h.nb,h.a,h.m,h.am,⟨es,ck,(hB.block _ hM).trans g1,g2,g3⟩⟩
theorem Cp.ld{w W:World}{A M:Nat}{T:TypeId}{N off:Nat}{L:List Sp.Inst}{x:Sp.Nm}{k:Nat}(h:Cp w W A M T N off L x k){q j:Nat}(hq:q<L.length)(hj:j<15):
  W.cell? ⟨A,off+q*15+j,none⟩=some (ci (L.getD q cZ) j)/\W.frozen? ⟨A,off+q*15+j,none⟩=false:=by
 obtain⟨f,h1,h2⟩:=h.row
 have hn:=h.nb
 have:off+q*15+j<N:=by omega
 exact⟨by rw[h1.cell this,h2 q hq j hj],h1.frozen _⟩
theorem Cp.set3{w W:World}{A M:Nat}{T:TypeId}{N off:Nat}{L:List Sp.Inst}{x:Sp.Nm}{k:Nat}(h:Cp w W A M T N off L x k){q j0:Nat}(hq:q<L.length)(hj:j0+2<15){u0 u1 u2:Value}{i':Sp.Inst}
  (hi:∀j,j<15->ci i' j=if j=j0+2 then u2 else if j=j0+1 then u1 else if j=j0 then u0 else ci (L.getD q cZ) j):
  Cp w (((W.setCell ⟨A,off+q*15+j0,none⟩ u0).setCell ⟨A,off+q*15+(j0+1),none⟩ u1).setCell ⟨A,off+q*15+(j0+2),none⟩ u2) A M T N off (L.set q i') x k:=by
 obtain⟨f,h1,h2⟩:=h.row
 obtain⟨es,ck,g1,g2,g3⟩:=h.map
 have ha:=h.a
 have hr:=(((h1.set (off+q*15+j0) u0).set (off+q*15+(j0+1)) u1).set (off+q*15+(j0+2)) u2)
 refine⟨?_,⟨_,hr,?_⟩,by rw[List.length_set];exact h.nb,h.a,h.m,h.am,⟨es,ck,?_,g2,g3⟩⟩
 ·exact((h.bel.setCell (p:=(⟨A,off+q*15+j0,none⟩:Addr)) ha u0).setCell (p:=(⟨A,off+q*15+(j0+1),none⟩:Addr)) ha u1).setCell (p:=(⟨A,off+q*15+(j0+2),none⟩:Addr)) ha u2
 ·intro q' hq' j hjj
  rw[List.length_set]at hq'
  dsimp only
  by_cases e:q'=q
  ·subst e
   have e1:(L.set q' i').getD q' cZ=i':=by rw[Sp.kB _ _ _ _ _ hq,if_pos rfl]
   rw[e1,hi j hjj];by_cases c2:j=j0+2
   ·rw[if_pos (by omega),if_pos c2]
   ·rw[if_neg (by omega),if_neg c2]
    by_cases c1:j=j0+1
    ·rw[if_pos (by omega),if_pos c1]
    ·rw[if_neg (by omega),if_neg c1]
     by_cases c0:j=j0
     ·rw[if_pos (by omega),if_pos c0]
     ·rw[if_neg (by omega),if_neg c0]
      exact h2 q' hq j hjj
  ·have e1:(L.set q i').getD q' cZ=L.getD q' cZ:=by rw[Sp.kB _ _ _ _ _ hq,if_neg (fun c=>e c.symm)]
   rw[e1,if_neg (by omega),if_neg (by omega),if_neg (by omega)];exact h2 q' hq' j hjj
 ·rw[Go.Deep.blk_setCell_other _ _ _ _ h.am.symm,Go.Deep.blk_setCell_other _ _ _ _ h.am.symm,Go.Deep.blk_setCell_other _ _ _ _ h.am.symm]
  exact g1
theorem Cp.ren{w W:World}{A M:Nat}{T:TypeId}{N off:Nat}{L:List Sp.Inst}{x:Sp.Nm}{k:Nat}(h:Cp w W A M T N off L x k)(o:Sp.Opd)(hn:IntKind.i64.min<=o.2.1/\o.2.1<=IntKind.i64.max):
  Calls Try.prog 57 #[.map (some M),.agg #[.int .i64 o.1,.int .i64 o.2.1,.int .i32 o.2.2.1]] W fun e W'=>e= .returned (.agg #[.int .i64 (Sp.rnO x o).1,.int .i64 (Sp.rnO x o).2.1,.int .i32 (Sp.rnO x o).2.2.1])/\Below W.heap.size W W':=by
 obtain⟨es,ck,g1,g2,g3⟩:=h.map
 refine wI (F:=fun b=>b=M) (fun b hb=> ?_) (v:= .map (some M)) (x:=x) ⟨[.map (some M)],rfl,_,rfl,.inr ⟨M,es,ck,rfl,rfl,g1,g2⟩⟩ o hn
 subst hb
 exact(Array.getElem?_eq_some_iff.1 g1).1
theorem Cp.put{w W:World}{A M:Nat}{T:TypeId}{N off:Nat}{L:List Sp.Inst}{x:Sp.Nm}{k:Nat}(h:Cp w W A M T N off L x k)(hk:k<=5000){a v:Int}(ha:IntKind.i64.min<=a/\a<=IntKind.i64.max)(hv:IntKind.i64.min<=v/\v<=IntKind.i64.max):
  ∃W',(Instr.mapUpdate 104 (.map (some M)) (.int .i64 a) (.int .i64 v)).run Try.prog W= .ok () W'/\W'.heap.size=W.heap.size/\Cp w W' A M T N off L (Sp.upM x a v) (k+1):=by
 obtain⟨f,h1,h2⟩:=h.row
 obtain⟨es,ck,g1,g2,g3⟩:=h.map
 obtain⟨es',ck',q1,q2,q3⟩:=map_put g2 g1 (by unfold maxLen;omega) ha hv
 refine⟨_,q1,by simp[Go.ChangeMaps.setBlock],?_,⟨f,h1.of_block (Go.ChangeMaps.heap_setBlock_other g1 _ h.am),h2⟩,h.nb,h.a,h.m,h.am,⟨es',ck',Go.ChangeMaps.heap_setBlock_same g1 _,q2,by omega⟩⟩
 refine⟨h.bel.os,h.bel.tape,h.bel.output,by simpa[Go.ChangeMaps.setBlock]using h.bel.size,fun b hb=> ?_⟩
 rw[Go.ChangeMaps.heap_setBlock_other g1 _ (by have:=h.m;omega)]
 exact h.bel.block b hb
theorem cpN_snoc:∀(l:List Sp.Inst) (i:Sp.Inst) (n:Int) (m:Sp.Nm),Sp.cpN (l++[i]) n m=Sp.upM (Sp.cpN l n m) (Sp.iD i) (n+l.length)
 | [],i,n,m=>by simp[Sp.cpN]
 |a::l,i,n,m=>by
  have:=cpN_snoc l i (n+1) (Sp.upM m (Sp.iD a) n)
  simp only[List.cons_append,Sp.cpN,this,List.length_cons]
  congr 1
  omega
theorem cpL_snoc:∀(l:List Sp.Inst) (i:Sp.Inst) (n:Int) (m:Sp.Nm),Sp.cpL (l++[i]) n m=Sp.cpL l n m++[Sp.rnI (Sp.cpN l n m) i (n+l.length)]
 | [],i,n,m=>by simp[Sp.cpL,Sp.cpN]
 |a::l,i,n,m=>by
  have:=cpL_snoc l i (n+1) (Sp.upM m (Sp.iD a) n)
  simp only[List.cons_append,Sp.cpL,Sp.cpN,this,List.length_cons];have e:n+1+(l.length:Int)=n+((l.length+1:Nat):Int):=by omega
  rw[e]
theorem cp_next{l:List Sp.Inst}{r:Nat}(hr:r<l.length)(n0:Int):Sp.cpL (l.take (r+1)) n0 Sp.nm0++l.drop (r+1)=(Sp.cpL (l.take r) n0 Sp.nm0++l.drop r).set r (Sp.rnI (Sp.cpN (l.take r) n0 Sp.nm0) (l.getD r cZ) (n0+r)):=by
 have e1:l.take (r+1)=l.take r++[l.getD r cZ]:=by rw[List.take_succ_eq_append_getElem hr,Sp.gat hr]
 have e2:l.drop r=l.getD r cZ::l.drop (r+1):=by rw[List.drop_eq_getElem_cons hr,Sp.gat hr]
 have e3:(Sp.cpL (l.take r) n0 Sp.nm0).length=r:=by rw[Sp.eB,List.length_take];omega
 rw[e1,cpL_snoc,e2,List.append_assoc,List.singleton_append,List.set_append_right _ _ (by omega),e3,Nat.sub_self,List.set_cons_zero]
 have e4:((l.take r).length:Int)=r:=by rw[List.length_take];omega
 rw[e4]
theorem cn_next{l:List Sp.Inst}{r:Nat}(hr:r<l.length)(n0:Int):Sp.cpN (l.take (r+1)) n0 Sp.nm0=Sp.upM (Sp.cpN (l.take r) n0 Sp.nm0) (Sp.iD (l.getD r cZ)) (n0+r):=by
 have e1:l.take (r+1)=l.take r++[l.getD r cZ]:=by rw[List.take_succ_eq_append_getElem hr,Sp.gat hr]
 rw[e1,cpN_snoc]
 have e4:((l.take r).length:Int)=r:=by rw[List.length_take];omega
 rw[e4]
set_option maxHeartbeats 1000000 in
set_option maxRecDepth 100000 in
theorem cp_walk(w:World)(v:Value)(n0:Int)(len:Nat)(l:List Sp.Inst)(hlen:l.length=len)(hl:len<=3000)(hn0:0<=n0/\n0<=100000)(hrg:∀q,q<len->Rg (l.getD q cZ))
  (hclone:Calls Try.prog 53 #[v] (w.alloc (.map #[] 0)) fun e W=>∃A off N cap T,e= .returned (.slice (some ⟨A,off,none⟩) len cap)/\Cp w W A w.heap.size T N off l Sp.nm0 0/\len<=cap):
  Calls Try.prog 54 #[v,.int .i64 n0] w fun e w'=>∃A off N cap T,e= .returned (.tuple #[.slice (some ⟨A,off,none⟩) len cap,.map (some w.heap.size)])/\Cp w w' A w.heap.size T N off (Sp.cpL l n0 Sp.nm0) (Sp.cpN l n0 Sp.nm0) len/\len<=cap:=by
 have hmm:=@run_makeMap Try.prog
 go_enter Try.func54,Try.ntmps54
 go_wp2_with (first|(go_at_call 53;refine hclone.mono ?_;rintro e W ⟨A,off,N,cap,T,rfl,hS0,hcap⟩))
 go_loopg [1,16] len (fun g n i wr=>∃r:Nat,r<=len/\g=len-r/\n= .int .i64 (n0+r)/\i= .int .i64 r/\Cp w wr A w.heap.size T N off (Sp.cpL (l.take r) n0 Sp.nm0++l.drop r) (Sp.cpN (l.take r) n0 Sp.nm0) r)
 case atStart=>exact⟨0,Nat.zero_le _,rfl,by simp,rfl,by simpa[Sp.cpL,Sp.cpN]using hS0⟩
 case round=>
  obtain⟨r,hr,rfl,rfl,rfl,hO⟩:=hrel;by_cases hrn:r<len
  ·have hrz:(r:Int)<(len:Int):=by omega
   have hLl:(Sp.cpL (l.take r) n0 Sp.nm0++l.drop r).length=len:=by rw[List.length_append,Sp.eB,List.length_take,List.length_drop];omega
   have hLr:(Sp.cpL (l.take r) n0 Sp.nm0++l.drop r).getD r cZ=l.getD r cZ:=by
    rw[List.getD_eq_getElem?_getD,List.getElem?_append_right (by rw[Sp.eB,List.length_take];omega),Sp.eB,List.length_take,List.getElem?_drop,<-List.getD_eq_getElem?_getD]
    congr 1;omega
   generalize hL:Sp.cpL (l.take r) n0 Sp.nm0++l.drop r=L at *
   generalize hX:Sp.cpN (l.take r) n0 Sp.nm0=X at *
   generalize hi:l.getD r cZ=i at *
   have hq:r<L.length:=by omega
   go_wp2
   go_region
   go_wp2
   have hP:=World.rowIs_alloc wr #[.pointer (some ⟨A,off+r*15+6,none⟩),.pointer (some ⟨A,off+r*15+9,none⟩),.pointer (some ⟨A,off+r*15+12,none⟩)] 140 (fun k=> #[.pointer (some ⟨A,off+r*15+6,none⟩),.pointer (some ⟨A,off+r*15+9,none⟩),.pointer (some ⟨A,off+r*15+12,none⟩)].getD k undef) (fun k hk=>by
    rw[Array.getElem?_eq_getElem hk,Array.getD_eq_getD_getElem?,Array.getElem?_eq_getElem hk];rfl)
   have hc1:=hO.bel' ((Below.refl _ _).alloc (Nat.le_refl _) (.cells #[.pointer (some ⟨A,off+r*15+6,none⟩),.pointer (some ⟨A,off+r*15+9,none⟩),.pointer (some ⟨A,off+r*15+12,none⟩)] 140))
   generalize hW1:wr.alloc (.cells #[.pointer (some ⟨A,off+r*15+6,none⟩),.pointer (some ⟨A,off+r*15+9,none⟩),.pointer (some ⟨A,off+r*15+12,none⟩)] 140)=W1 at *
   generalize hpb:wr.heap.size=pb at *
   obtain⟨a6,_⟩:=hc1.ld hq (j:=6) (by omega);obtain⟨a7,_⟩:=hc1.ld hq (j:=7) (by omega);obtain⟨a8,_⟩:=hc1.ld hq (j:=8) (by omega);have p0:=hP.cell (i:=0) (by simp);simp only[Array.getD_eq_getD_getElem?,List.getElem?_toArray,List.getElem?_cons_zero,List.getElem?_cons_succ,Option.getD_some]at p0;rw[hLr]at a6 a7 a8;simp only[ci]at a6 a7 a8;have hR:=hrg r hrn;rw[hi]at hR;have hcd:=hc1.bel' (Below.refl _ _).drew;have hPd:W1.drew.rowIs pb 140 3 _:=hP.drew;have hap:A≠pb:=hO.row.elim fun f hf=>by have:=hf.1.lt;omega
   have n7:(6+1:Nat)=7:=rfl
   refine wp_loop_n 4 ?_
   unfold WL
   go_wp2_with (first|(go_at_call 57;refine(hcd.ren i.2.2.2.2.1 hR.a).mono ?_;rintro e V0 ⟨rfl,hB0⟩;have d0:=hcd.bel' hB0;obtain⟨s00,f00⟩:=d0.ld hq (j:=6) (by omega);obtain⟨s01,f01⟩:=d0.ld hq (j:=7) (by omega);obtain⟨s02,f02⟩:=d0.ld hq (j:=8) (by omega);have c1:Cp w (((V0.setCell ⟨A,off+r*15+6,none⟩ (.int .i64 (Sp.rnO X i.2.2.2.2.1).1)).setCell ⟨A,off+r*15+7,none⟩ (.int .i64 (Sp.rnO X i.2.2.2.2.1).2.1)).setCell ⟨A,off+r*15+8,none⟩ (.int .i32 (Sp.rnO X i.2.2.2.2.1).2.2.1)) A w.heap.size T N off (L.set r (i.1,i.2.1,i.2.2.1,i.2.2.2.1,Sp.rnO X i.2.2.2.2.1,i.2.2.2.2.2.1,i.2.2.2.2.2.2.1,())) X r:=(by simpa only[List.set_set]using d0.set3 (j0:=6) hq (by omega) (i':=(i.1,i.2.1,i.2.2.1,i.2.2.2.1,Sp.rnO X i.2.2.2.2.1,i.2.2.2.2.2.1,i.2.2.2.2.2.2.1,())) (fun j hj=>by(first|rw[hLr]|rw[hg0]);rcases j with _|_|_|_|_|_|_|_|_|_|_|_|_|_|_|j<;>first|rfl|omega));have hq1:r<(L.set r (i.1,i.2.1,i.2.2.1,i.2.2.2.1,Sp.rnO X i.2.2.2.2.1,i.2.2.2.2.2.1,i.2.2.2.2.2.2.1,())).length:=Nat.lt_of_lt_of_eq hq (List.length_set ..).symm;have hg1:(L.set r (i.1,i.2.1,i.2.2.1,i.2.2.2.1,Sp.rnO X i.2.2.2.2.1,i.2.2.2.2.2.1,i.2.2.2.2.2.2.1,())).getD r cZ=(i.1,i.2.1,i.2.2.1,i.2.2.2.1,Sp.rnO X i.2.2.2.2.1,i.2.2.2.2.2.1,i.2.2.2.2.2.2.1,()):=(Sp.kB _ _ _ _ _ hq).trans (if_pos rfl);have hP1:=(((hPd.of_block (hB0.block _ hPd.lt)).setOther (a:=(⟨A,off+r*15+6,none⟩:Addr)) (Ne.symm hap) (.int .i64 (Sp.rnO X i.2.2.2.2.1).1)).setOther (a:=(⟨A,off+r*15+7,none⟩:Addr)) (Ne.symm hap) (.int .i64 (Sp.rnO X i.2.2.2.2.1).2.1)).setOther (a:=(⟨A,off+r*15+8,none⟩:Addr)) (Ne.symm hap) (.int .i32 (Sp.rnO X i.2.2.2.2.1).2.2.1);have p1:=hP1.cell (i:=1) (by simp);simp only[Array.getD_eq_getD_getElem?,List.getElem?_toArray,List.getElem?_cons_zero,List.getElem?_cons_succ,Option.getD_some]at p1;obtain⟨l10,_⟩:=c1.ld hq1 (j:=9) (by omega);obtain⟨l11,_⟩:=c1.ld hq1 (j:=10) (by omega);obtain⟨l12,_⟩:=c1.ld hq1 (j:=11) (by omega);rw[hg1]at l10 l11 l12;simp only[ci]at l10 l11 l12))
   unfold WL
   go_wp2_with (first|(go_at_call 57;refine(c1.ren i.2.2.2.2.2.1 hR.b).mono ?_;rintro e V1 ⟨rfl,hB1⟩;have d1:=c1.bel' hB1;obtain⟨s10,f10⟩:=d1.ld hq1 (j:=9) (by omega);obtain⟨s11,f11⟩:=d1.ld hq1 (j:=10) (by omega);obtain⟨s12,f12⟩:=d1.ld hq1 (j:=11) (by omega);have c2:Cp w (((V1.setCell ⟨A,off+r*15+9,none⟩ (.int .i64 (Sp.rnO X i.2.2.2.2.2.1).1)).setCell ⟨A,off+r*15+10,none⟩ (.int .i64 (Sp.rnO X i.2.2.2.2.2.1).2.1)).setCell ⟨A,off+r*15+11,none⟩ (.int .i32 (Sp.rnO X i.2.2.2.2.2.1).2.2.1)) A w.heap.size T N off (L.set r (i.1,i.2.1,i.2.2.1,i.2.2.2.1,Sp.rnO X i.2.2.2.2.1,Sp.rnO X i.2.2.2.2.2.1,i.2.2.2.2.2.2.1,())) X r:=(by simpa only[List.set_set]using d1.set3 (j0:=9) hq1 (by omega) (i':=(i.1,i.2.1,i.2.2.1,i.2.2.2.1,Sp.rnO X i.2.2.2.2.1,Sp.rnO X i.2.2.2.2.2.1,i.2.2.2.2.2.2.1,())) (fun j hj=>by(first|rw[hLr]|rw[hg1]);rcases j with _|_|_|_|_|_|_|_|_|_|_|_|_|_|_|j<;>first|rfl|omega));have hq2:r<(L.set r (i.1,i.2.1,i.2.2.1,i.2.2.2.1,Sp.rnO X i.2.2.2.2.1,Sp.rnO X i.2.2.2.2.2.1,i.2.2.2.2.2.2.1,())).length:=Nat.lt_of_lt_of_eq hq (List.length_set ..).symm;have hg2:(L.set r (i.1,i.2.1,i.2.2.1,i.2.2.2.1,Sp.rnO X i.2.2.2.2.1,Sp.rnO X i.2.2.2.2.2.1,i.2.2.2.2.2.2.1,())).getD r cZ=(i.1,i.2.1,i.2.2.1,i.2.2.2.1,Sp.rnO X i.2.2.2.2.1,Sp.rnO X i.2.2.2.2.2.1,i.2.2.2.2.2.2.1,()):=(Sp.kB _ _ _ _ _ hq).trans (if_pos rfl);have hP2:=(((hP1.of_block (hB1.block _ hP1.lt)).setOther (a:=(⟨A,off+r*15+9,none⟩:Addr)) (Ne.symm hap) (.int .i64 (Sp.rnO X i.2.2.2.2.2.1).1)).setOther (a:=(⟨A,off+r*15+10,none⟩:Addr)) (Ne.symm hap) (.int .i64 (Sp.rnO X i.2.2.2.2.2.1).2.1)).setOther (a:=(⟨A,off+r*15+11,none⟩:Addr)) (Ne.symm hap) (.int .i32 (Sp.rnO X i.2.2.2.2.2.1).2.2.1);have p2:=hP2.cell (i:=2) (by simp);simp only[Array.getD_eq_getD_getElem?,List.getElem?_toArray,List.getElem?_cons_zero,List.getElem?_cons_succ,Option.getD_some]at p2;obtain⟨l20,_⟩:=c2.ld hq2 (j:=12) (by omega);obtain⟨l21,_⟩:=c2.ld hq2 (j:=13) (by omega);obtain⟨l22,_⟩:=c2.ld hq2 (j:=14) (by omega);rw[hg2]at l20 l21 l22;simp only[ci]at l20 l21 l22))
   unfold WL
   go_wp2_with (first|(go_at_call 57;refine(c2.ren i.2.2.2.2.2.2.1 hR.c).mono ?_;rintro e V2 ⟨rfl,hB2⟩;have d2:=c2.bel' hB2;obtain⟨s20,f20⟩:=d2.ld hq2 (j:=12) (by omega);obtain⟨s21,f21⟩:=d2.ld hq2 (j:=13) (by omega);obtain⟨s22,f22⟩:=d2.ld hq2 (j:=14) (by omega);have c3:Cp w (((V2.setCell ⟨A,off+r*15+12,none⟩ (.int .i64 (Sp.rnO X i.2.2.2.2.2.2.1).1)).setCell ⟨A,off+r*15+13,none⟩ (.int .i64 (Sp.rnO X i.2.2.2.2.2.2.1).2.1)).setCell ⟨A,off+r*15+14,none⟩ (.int .i32 (Sp.rnO X i.2.2.2.2.2.2.1).2.2.1)) A w.heap.size T N off (L.set r (i.1,i.2.1,i.2.2.1,i.2.2.2.1,Sp.rnO X i.2.2.2.2.1,Sp.rnO X i.2.2.2.2.2.1,Sp.rnO X i.2.2.2.2.2.2.1,())) X r:=(by simpa only[List.set_set]using d2.set3 (j0:=12) hq2 (by omega) (i':=(i.1,i.2.1,i.2.2.1,i.2.2.2.1,Sp.rnO X i.2.2.2.2.1,Sp.rnO X i.2.2.2.2.2.1,Sp.rnO X i.2.2.2.2.2.2.1,())) (fun j hj=>by(first|rw[hLr]|rw[hg2]);rcases j with _|_|_|_|_|_|_|_|_|_|_|_|_|_|_|j<;>first|rfl|omega));have hq3:r<(L.set r (i.1,i.2.1,i.2.2.1,i.2.2.2.1,Sp.rnO X i.2.2.2.2.1,Sp.rnO X i.2.2.2.2.2.1,Sp.rnO X i.2.2.2.2.2.2.1,())).length:=Nat.lt_of_lt_of_eq hq (List.length_set ..).symm;have hg3:(L.set r (i.1,i.2.1,i.2.2.1,i.2.2.2.1,Sp.rnO X i.2.2.2.2.1,Sp.rnO X i.2.2.2.2.2.1,Sp.rnO X i.2.2.2.2.2.2.1,())).getD r cZ=(i.1,i.2.1,i.2.2.1,i.2.2.2.1,Sp.rnO X i.2.2.2.2.1,Sp.rnO X i.2.2.2.2.2.1,Sp.rnO X i.2.2.2.2.2.2.1,()):=(Sp.kB _ _ _ _ _ hq).trans (if_pos rfl);have hP3:=(((hP2.of_block (hB2.block _ hP2.lt)).setOther (a:=(⟨A,off+r*15+12,none⟩:Addr)) (Ne.symm hap) (.int .i64 (Sp.rnO X i.2.2.2.2.2.2.1).1)).setOther (a:=(⟨A,off+r*15+13,none⟩:Addr)) (Ne.symm hap) (.int .i64 (Sp.rnO X i.2.2.2.2.2.2.1).2.1)).setOther (a:=(⟨A,off+r*15+14,none⟩:Addr)) (Ne.symm hap) (.int .i32 (Sp.rnO X i.2.2.2.2.2.2.1).2.2.1);obtain⟨l30,_⟩:=c3.ld hq3 (j:=4) (by omega);rw[hg3]at l30;simp only[ci]at l30;obtain⟨S3,hput,hsz3,c4⟩:=c3.put (by omega) hR.d (v:=n0+r) ⟨(by(show(-9223372036854775808:Int)<=_;omega)),(by(show _<=(9223372036854775807:Int);omega))⟩))
   unfold WL
   go_wp2_with (first|(go_at_call 52;refine(reg52 _ _).mono ?_;rintro e V9 ⟨rfl,row,T9,rfl⟩;have c5:=c4.bel' ((Below.refl _ _).alloc (Nat.le_refl _) (.cells row T9));obtain⟨z0,y0⟩:=c5.ld hq3 (j:=3) (by omega);obtain⟨z1,y1⟩:=c5.ld hq3 (j:=4) (by omega);obtain⟨z2,y2⟩:=c5.ld hq3 (j:=5) (by omega)))
   go_roundg (len-(r+1))
   case measure=>go_light;omega
   case rel=>
    go_light
    refine⟨r+1,by omega,rfl,by simp;omega,by simp,?_⟩
    have hll:r<l.length:=by omega
    rw[cp_next hll,cn_next hll,hL,hX,hi];have c6:=c5.set3 (j0:=3) hq3 (by omega) (u0:= .int .i64 2) (u1:= .int .i64 (n0+r)) (u2:= .int .i32 0) (i':=Sp.rnI X i (n0+r)) (fun j hj=>by rw[hg3];rcases j with _|_|_|_|_|_|_|_|_|_|_|_|_|_|_|j<;>first|rfl|omega)
    rw[List.set_set]at c6;exact c6
  ·have hre:r=len:=by omega
   subst hre
   go_wp2
   go_returns
   refine⟨A,off,N,cap,T,rfl,?_,hcap⟩
   have e1:l.take r=l:=List.take_of_length_le (by omega)
   have e2:l.drop r=[]:=List.drop_eq_nil_of_le (by omega)
   rw[e1,e2,List.append_nil]at hO;exact hO
set_option maxHeartbeats 1000000 in
set_option maxRecDepth 100000 in
theorem cp_walk0(w:World)(v:Value)(n0:Int)(hclone:Calls Try.prog 53 #[v] (w.alloc (.map #[] 0)) fun e W=>∃ao cap,e= .returned (.slice ao 0 cap)/\Below w.heap.size w W/\W.heap[w.heap.size]? =some (.map #[] 0)):
  Calls Try.prog 54 #[v,.int .i64 n0] w fun e w'=>∃ao cap,e= .returned (.tuple #[.slice ao 0 cap,.map (some w.heap.size)])/\Below w.heap.size w w'/\w'.heap[w.heap.size]? =some (.map #[] 0):=by
 have hmm:=@run_makeMap Try.prog
 go_enter Try.func54,Try.ntmps54
 go_wp2_with (first|(go_at_call 53;refine hclone.mono ?_;rintro e W ⟨ao,cap,rfl,hB,hm⟩))
 go_loopg [1,16] 0 (fun g n i wr=>g=0/\n= .int .i64 n0/\i= .int .i64 0/\wr=W)
 case atStart=>exact⟨rfl,rfl,rfl,rfl⟩
 case round=>
  obtain⟨rfl,rfl,rfl,rfl⟩:=hrel
  go_wp2
  go_returns
  exact⟨ao,cap,rfl,hB,hm⟩
theorem uX{F:aA}{w:World}{m:Md}{S:aA}{cs:List Value}{i:Sp.Inst}(h:Go.Lf.Own F w aC m S cs i):
  cs=[ci i 0,ci i 1,ci i 2,ci i 3,ci i 4,ci i 5,ci i 6,ci i 7,ci i 8,ci i 9,ci i 10,ci i 11,ci i 12,ci i 13,ci i 14]/\Rg i/\
   (∀k∈[i.1,i.2.1,i.2.2.1],IntKind.i64.min<=k/\k<=IntKind.i64.max)/\∀o∈[i.2.2.2.1,i.2.2.2.2.1,i.2.2.2.2.2.1,i.2.2.2.2.2.2.1],(IntKind.i64.min<=o.1/\o.1<=IntKind.i64.max)/\(IntKind.i64.min<=o.2.1/\o.2.1<=IntKind.i64.max)/\IntKind.i32.min<=o.2.2.1/\o.2.2.1<=IntKind.i32.max:=by
 obtain⟨c1,_,rfl,h,k1⟩:=nP h
 obtain⟨c2,_,rfl,h,k2⟩:=nP h
 obtain⟨c3,_,rfl,h,k3⟩:=nP h
 obtain⟨e1,c4,_,_,rfl,g1,h⟩:=nO h
 obtain⟨e2,c5,_,_,rfl,g2,h⟩:=nO h
 obtain⟨e3,c6,_,_,rfl,g3,h⟩:=nO h
 obtain⟨e4,c7,_,_,rfl,g4,h⟩:=nO h
 obtain rfl:=x7 h
 obtain⟨rfl,a1⟩:=kG g1
 obtain⟨rfl,a2⟩:=kG g2
 obtain⟨rfl,a3⟩:=kG g3
 obtain⟨rfl,a4⟩:=kG g4
 refine⟨rfl,⟨a1.2.1,a2.2.1,a3.2.1,a4.2.1⟩,?_,?_⟩
 ·intro k hk
  simp only[List.mem_cons,List.not_mem_nil,or_false]at hk;rcases hk with rfl|rfl|rfl
  ·exact k1
  ·exact k2
  ·exact k3
 ·intro o ho
  simp only[List.mem_cons,List.not_mem_nil,or_false]at ho;rcases ho with rfl|rfl|rfl|rfl
  ·exact a1
  ·exact a2
  ·exact a3
  ·exact a4
end Go.User
namespace Go.User
open Go Go.Proofs Go.RowKit Go.Lib Go.Lf
def RgI(i:Sp.Inst):Prop:=(∀k∈[i.1,i.2.1,i.2.2.1],IntKind.i64.min<=k/\k<=IntKind.i64.max)/\∀o∈[i.2.2.2.1,i.2.2.2.2.1,i.2.2.2.2.2.1,i.2.2.2.2.2.2.1],(IntKind.i64.min<=o.1/\o.1<=IntKind.i64.max)/\(IntKind.i64.min<=o.2.1/\o.2.1<=IntKind.i64.max)/\IntKind.i32.min<=o.2.2.1/\o.2.2.1<=IntKind.i32.max
abbrev RgO(o:Sp.Opd):Prop:=(IntKind.i64.min<=o.1/\o.1<=IntKind.i64.max)/\(IntKind.i64.min<=o.2.1/\o.2.1<=IntKind.i64.max)/\IntKind.i32.min<=o.2.2.1/\o.2.2.1<=IntKind.i32.max
theorem rg_reg{n:Int}(h:IntKind.i64.min<=n/\n<=IntKind.i64.max):RgO (Sp.bK n):=by
 have q1:IntKind.i64.min<=(2:Int)/\(2:Int)<=IntKind.i64.max:=⟨by decide,by decide⟩
 have q2:IntKind.i32.min<=(0:Int)/\(0:Int)<=IntKind.i32.max:=⟨by decide,by decide⟩
 exact⟨q1,h,q2⟩
theorem rg_ren{m:Sp.Nm}(hm:∀k v,m k=some v->IntKind.i64.min<=v/\v<=IntKind.i64.max){o:Sp.Opd}(h:RgO o):RgO (Sp.rnO m o):=by
 unfold Sp.rnO
 split
 ·rename_i n hn
  split
  ·exact rg_reg (hm _ _ hn)
  ·exact h
 ·exact h
theorem rg_i64{n:Int}(h:0<=n/\n<=200000):IntKind.i64.min<=n/\n<=IntKind.i64.max:=⟨by show(-9223372036854775808:Int)<=n;omega,by show n<=(9223372036854775807:Int);omega⟩
theorem rg_cpL:∀(l:List Sp.Inst) (n:Int) (m:Sp.Nm),(∀k v,m k=some v->IntKind.i64.min<=v/\v<=IntKind.i64.max)->0<=n->n+l.length<=200000->(∀i∈l,RgI i)->∀i∈Sp.cpL l n m,RgI i
 | [],n,m,hm,h0,h1,hl,i,hi=>by simp[Sp.cpL]at hi
 |a::l,n,m,hm,h0,h1,hl,i,hi=>by
  simp only[Sp.cpL,List.mem_cons]at hi;have h1:n+((l.length+1:Nat):Int)<=200000:=h1;rcases hi with rfl|hi
  ·obtain⟨q1,q2⟩:=hl a List.mem_cons_self
   refine⟨q1,?_⟩
   intro o ho;simp only[Sp.rnI,List.mem_cons,List.not_mem_nil,or_false]at ho;rcases ho with rfl|rfl|rfl|rfl
   ·exact rg_reg (rg_i64 ⟨h0,by omega⟩)
   ·exact rg_ren hm (q2 _ (by simp))
   ·exact rg_ren hm (q2 _ (by simp))
   ·exact rg_ren hm (q2 _ (by simp))
  ·refine rg_cpL l (n+1) _ ?_ (by omega) (by omega) (fun i hi=>hl i (List.mem_cons_of_mem _ hi)) i hi
   intro k v hk;unfold Sp.upM at hk;split at hk
   ·injection hk with hk;subst hk;exact rg_i64 ⟨h0,by omega⟩
   ·exact hm k v hk
theorem x9{F:aA}{w:World}{m:Md}{S:aA}{o:Sp.Opd}(h:RgO o):Go.Lf.Own F w aM m S [.int .i64 o.1,.int .i64 o.2.1,.int .i32 o.2.2.1] o:=by
 refine⟨[.int .i64 o.1],[.int .i64 o.2.1,.int .i32 o.2.2.1],none',none',rfl,fun _ h=>h.elim,fun _ h=>h.elim,fun _ h=>h.elim,⟨rfl,h.1⟩,?_⟩
 refine⟨[.int .i64 o.2.1],[.int .i32 o.2.2.1],none',none',rfl,fun _ h=>h,fun _ h=>h,fun _ h=>h.elim,⟨rfl,h.2.1⟩,?_⟩
 exact⟨[.int .i32 o.2.2.1],[],none',none',rfl,fun _ h=>h,fun _ h=>h,fun _ h=>h.elim,⟨rfl,h.2.2⟩,rfl⟩
theorem inst_mk{F:aA}{w:World}{m:Md}{S:aA}{i:Sp.Inst}(h:RgI i):Go.Lf.Own F w aC m S ((List.range 15).map (ci i)) i:=by
 obtain⟨h1,h2⟩:=h
 have e:(List.range 15).map (ci i)=[ci i 0]++([ci i 1]++([ci i 2]++([ci i 3,ci i 4,ci i 5]++([ci i 6,ci i 7,ci i 8]++([ci i 9,ci i 10,ci i 11]++([ci i 12,ci i 13,ci i 14]++[])))))):=rfl
 rw[e]
 refine⟨_,_,none',none',rfl,fun _ h=>h.elim,fun _ h=>h.elim,fun _ h=>h.elim,⟨rfl,h1 _ (by simp)⟩,?_⟩
 refine⟨_,_,none',none',rfl,fun _ h=>h.elim,fun _ h=>h.elim,fun _ h=>h.elim,⟨rfl,h1 _ (by simp)⟩,?_⟩
 refine⟨_,_,none',none',rfl,fun _ h=>h.elim,fun _ h=>h.elim,fun _ h=>h.elim,⟨rfl,h1 _ (by simp)⟩,?_⟩
 refine⟨_,_,none',none',rfl,fun _ h=>h.elim,fun _ h=>h.elim,fun _ h=>h.elim,x9 (h2 _ (by simp)),?_⟩
 refine⟨_,_,none',none',rfl,fun _ h=>h.elim,fun _ h=>h.elim,fun _ h=>h.elim,x9 (h2 _ (by simp)),?_⟩
 refine⟨_,_,none',none',rfl,fun _ h=>h.elim,fun _ h=>h.elim,fun _ h=>h.elim,x9 (h2 _ (by simp)),?_⟩
 exact⟨_,_,none',none',rfl,fun _ h=>h.elim,fun _ h=>h.elim,fun _ h=>h.elim,x9 (h2 _ (by simp)),rfl⟩
theorem seg_map{l:List Value}{o n:Nat}{c:Nat->Value}(h:∀j,j<n->l[o+j]? =some (c j)):seg l o n=(List.range n).map c:=by
 refine List.ext_getElem? fun j=> ?_
 unfold seg
 rw[List.getElem?_take]
 by_cases hj:j<n
 ·rw[if_pos hj,List.getElem?_drop,h j hj]
  simp[hj]
 ·rw[if_neg hj,List.getElem?_eq_none (by simpa using hj)]
theorem insts_own{F:aA}{W:World}{A:Nat}{T:TypeId}{N off:Nat}{f:Nat->Value}{L:List Sp.Inst}{cap:Nat}(hF:F A)(h:W.rowIs A T N f)(hc:Cis f off L)(hn:off+L.length*15<=N)(hcap:L.length<=cap)(hl:L.length<=3000)(hr:∀i∈L,RgI i):
  Go.Lf.Own F W (.slice aC) .shr none' [.slice (some ⟨A,off,none⟩) L.length cap] L:=by
 obtain⟨row,hb,hsz,hrow⟩:=h
 have hs:Ty.size aC=15:=rfl
 refine⟨some ⟨A,off,none⟩,cap,rfl,hcap,by unfold lim;omega,.inr ⟨A,off,row,T,(0,0),rfl,hF,hb,by rw[hs];omega,?_⟩⟩
 intro q i hq
 obtain⟨hql,rfl⟩:=List.getElem?_eq_some_iff.1 hq
 rw[hs,seg_map (c:=ci L[q]) ?_]
 ·exact inst_mk (hr _ (List.getElem_mem hql))
 ·intro j hj
  have:=hrow (off+q*15+j) (by omega)
  rw[hc q hql j hj,Sp.gat hql]at this
  simpa using this
theorem copyArm_ok{w:World}{F:aA}{cs:List Value}{l:List Sp.Inst}{n0:Int}(hF:∀b,F b->b<w.heap.size)(hl:Go.Lf.Own F w (.slice aC) .shr none' cs l)(hp1:l.length<=3000)(hp2:0<=n0)(hp3:n0<=100000):
  Calls Try.prog 54 #[bH (.slice aC) cs,.int .i64 n0] w (mZ F w true (.prod (.slice aC) (.prod qT .unit)) .shr (Sp.cpL l n0 Sp.nm0,Sp.cpN l n0 Sp.nm0,())):=by
 have hB0:Below w.heap.size w (w.alloc (.map #[] 0)):=(Below.refl _ _).alloc (Nat.le_refl _) _
 have hsz0:(w.alloc (.map #[] 0)).heap.size=w.heap.size+1:=by simp
 have hl0:aT F (w.alloc (.map #[] 0)) (.slice aC) .shr none' (bH (.slice aC) cs) l:=⟨cs,rfl,Go.Lf.Own.congr (fun b hb=>hB0.block b (hF b hb)) (fun b (hb:False)=>hb.elim) hl⟩
 have hc:=ok53.2 (w.alloc (.map #[] 0)) F [bH (.slice aC) cs] (l,()) (kQ.zero _ _) (fun b hb=>Nat.lt_of_lt_of_le (hF b hb) hB0.size) ⟨_,[],rfl,hl0,rfl⟩ (show List.length l<=5000 by omega)
 have hm0:(w.alloc (.map #[] 0)).heap[w.heap.size]? =some (.map #[] 0):=(MapKept.heap_alloc _ _).1
 have hrg:∀q,q<l.length->RgI (l.getD q cZ)/\Rg (l.getD q cZ):=by
  intro q hq;obtain⟨ao,cap,_,_,_,hd⟩:=hl;rcases hd with rfl|⟨b,off,row,T,fr,_,_,_,_,he⟩
  ·simp at hq
  ·obtain⟨_,h1,h2,h3⟩:=uX (he q _ (List.getElem?_eq_getElem hq))
   rw[Sp.gat hq];exact⟨⟨h2,h3⟩,h1⟩
 have hrl:∀i∈l,RgI i:=fun i hi=>by
  obtain⟨q,hq,rfl⟩:=List.getElem_of_mem hi;have:=(hrg q hq).1
  rwa [Sp.gat hq]at this
 have hpost:∀(A off N cap:Nat) (T:TypeId) (w':World),Cp w w' A w.heap.size T N off (Sp.cpL l n0 Sp.nm0) (Sp.cpN l n0 Sp.nm0) l.length->l.length<=cap->
   mZ F w true (.prod (.slice aC) (.prod qT .unit)) .shr (Sp.cpL l n0 Sp.nm0,Sp.cpN l n0 Sp.nm0,()) (.returned (.tuple #[.slice (some ⟨A,off,none⟩) l.length cap,.map (some w.heap.size)])) w':=by
  intro A off N cap T w' hC hcap;obtain⟨f,h1,h2⟩:=hC.row;obtain⟨es,ck,g1,g2,g3⟩:=hC.map;have hM:w.heap.size<w'.heap.size:=(Array.getElem?_eq_some_iff.1 g1).1;have hlc:(Sp.cpL l n0 Sp.nm0).length=l.length:=Sp.eB _ _ _;refine⟨_,fun b=>F b∨b=A∨b=w.heap.size,none',rfl,hC.bel,fun _ h=> .inl h,?_,?_,fun _ h=>h.elim,?_⟩
  ·rintro b (h|rfl|rfl) hn
   ·exact absurd h hn
   ·exact hC.a
   ·exact Nat.le_refl _
  ·rintro b ((h|rfl|rfl)|h)
   ·exact Nat.lt_of_lt_of_le (hF b h) hC.bel.size
   ·exact h1.lt
   ·exact hM
   ·exact h.elim
  ·refine⟨[.slice (some ⟨A,off,none⟩) l.length cap,.map (some w.heap.size)],rfl,_,_,none',none',rfl,fun _ h=>h,fun _ h=>h,fun _ h=>h.elim,?_,_,_,none',none',rfl,fun _ h=>h,fun _ h=>h,fun _ h=>h.elim,?_,rfl⟩
   ·have:=insts_own (F:=fun b=>F b∨b=A∨b=w.heap.size) (.inr (.inl rfl)) h1 h2 hC.nb (by rw[hlc];exact hcap) (by rw[hlc];exact hp1) (rg_cpL l n0 _ (fun k v hk=>by cases hk) hp2 (by omega) hrl)
    rw[hlc]at this;exact⟨_,rfl,this⟩
   ·exact⟨[.map (some w.heap.size)],rfl,_,rfl,.inr ⟨_,es,ck,rfl,.inr (.inr rfl),g1,g2⟩⟩
 by_cases h0:l.length=0
 ·have hnil:l=[]:=List.eq_nil_of_length_eq_zero h0
  subst hnil;refine(cp_walk0 w _ n0 (hc.mono ?_)).mono ?_
  ·rintro e W ⟨v',F',Sd,rfl,hB,hsub,hnew,hlt,hS,hO⟩
   obtain⟨cs',rfl,ao,cap,rfl,_⟩:=hO;refine⟨ao,cap,rfl,hB0.trans (hB.mono (by omega)),(hB.block _ (by omega)).trans hm0⟩
  ·rintro e w' ⟨ao,cap,rfl,hB,hm⟩
   refine⟨_,fun b=>F b∨b=w.heap.size,none',rfl,hB,fun _ h=> .inl h,?_,?_,fun _ h=>h.elim,?_⟩
   ·rintro b (h|rfl) hn
    ·exact absurd h hn
    ·exact Nat.le_refl _
   ·rintro b ((h|rfl)|h)
    ·exact Nat.lt_of_lt_of_le (hF b h) hB.size
    ·exact(Array.getElem?_eq_some_iff.1 hm).1
    ·exact h.elim
   ·refine⟨[.slice ao 0 cap,.map (some w.heap.size)],rfl,_,_,none',none',rfl,fun _ h=>h,fun _ h=>h,fun _ h=>h.elim,?_,_,_,none',none',rfl,fun _ h=>h,fun _ h=>h,fun _ h=>h.elim,?_,rfl⟩
    ·exact⟨[.slice ao 0 cap],rfl,ao,cap,rfl,Nat.zero_le _,Nat.zero_le _,.inl rfl⟩
    ·exact⟨[.map (some w.heap.size)],rfl,_,rfl,.inr ⟨_,#[],0,rfl,.inr rfl,hm,rN⟩⟩
 ·refine(cp_walk w _ n0 l.length l rfl hp1 ⟨hp2,hp3⟩ (fun q hq=>(hrg q hq).2) (hc.mono ?_)).mono ?_
  ·rintro e W ⟨v',F',Sd,rfl,hB,hsub,hnew,hlt,hS,hO⟩
   obtain⟨cs',rfl,ao,cap,rfl,hcap,_,hd⟩:=hO;have hcap:l.length<=cap:=hcap;rcases hd with⟨rfl,rfl⟩|⟨b,off,row,T,Si,rfl,hb,hrow,hsz,_,_,_,he⟩
   ·omega
   have hs:Ty.size aC=15:=rfl
   rw[hs]at hsz;refine⟨b,off,row.size,cap,T,rfl,⟨hB0.trans (hB.mono (by omega)),⟨fun t=>row.getD t undef,⟨row,hrow,rfl,fun t ht=> ?_⟩,?_⟩,?_,by have:=(hS b hb).1;omega,Nat.le_refl _,by have:=(hS b hb).1;omega,⟨#[],0,(hB.block _ (by omega)).trans hm0,rN,Nat.zero_le _⟩⟩,hcap⟩
   ·show row[t]? =some (row.getD t undef)
    rw[Array.getElem?_eq_getElem ht,Array.getD_eq_getD_getElem?,Array.getElem?_eq_getElem ht];rfl
   ·intro q hq j hj
    obtain⟨h1,_⟩:=uX (he q _ (List.getElem?_eq_getElem hq));rw[hs]at h1;have h2:(seg row.toList (off+q*15) 15)[j]? =some (ci (l.getD q cZ) j):=by
     have hq2:l.getD q cZ=l[q]:=Sp.gat hq _
     rw[h1,hq2];rcases j with _|_|_|_|_|_|_|_|_|_|_|_|_|_|_|j<;>first|rfl|omega
    unfold seg at h2;rw[List.getElem?_take,if_pos hj,List.getElem?_drop]at h2
    dsimp only
    rw[Array.getD_eq_getD_getElem?];have h3:row[off+q*15+j]? =some (ci (l.getD q cZ) j):=by simpa using h2
    rw[h3];rfl
   ·have:l.length*15<=cap*15:=Nat.mul_le_mul_right _ hcap
    omega
  ·rintro e w' ⟨A,off,N,cap,T,rfl,hC,hcap⟩
   exact hpost A off N cap T w' hC hcap
theorem ok54:FOk Try.prog 54 S54:=by
 refine⟨Try.call54,?_⟩
 rintro w F vs ⟨l,n0,u⟩ hG hF ⟨v,r1,rfl,hl,v2,r2,rfl,hn,hr⟩ ⟨hp1,hp2,hp3⟩
 have hr:r2=[]:=hr
 subst hr
 obtain⟨c2,rfl,hn⟩:=hn
 have hn:c2=[.int .i64 n0]/\_:=hn
 obtain⟨rfl,_⟩:=hn
 have hl:aT F w (.slice aC) .shr none' v l:=hl
 obtain⟨cs,rfl,hl2⟩:=hl
 exact copyArm_ok hF hl2 hp1 hp2 hp3
end Go.User
namespace Sp
noncomputable section
def eqF(p:Block->Block->Bool)(a b:List Block):Bool:=decide (a.length=b.length)&&(List.zip a b).all (fun q=>p q.1 q.2)
def kR:Code->List Int->Option Code
 |c,[]=>some c
 |c,b::l=>if(atC c b).2.1=true then kR (atC c b).1 l else none
def fK(c d:Code)(l:List Int):Int:=match kR c l with
 |some e=>if eF e d=true then 0 else 100
 |none=>100
def oR(u:Uni)(c:Code)(b:Int):Bool:=u.1.getD b.toNat false&&(decide ((trm c b.toNat).2.2.2.1.1≠2)||(decide ((trm c b.toNat).2.2.2.1.2.1<(u.2.1.length:Int))&&u.2.1.getD (trm c b.toNat).2.2.2.1.2.1.toNat false))
end
end Sp
namespace Go.User
open Go.Lf
noncomputable section
def S61:bD:={args:=[.val eW,.val eW],multi:=false,res:= .bool,mode:= .shr,pre:=fun _=>True,fn:=fun x=>Sp.qI x.1 x.2.1}
def C61:Ctx:=mkC 17 [(62,S62)]
def L61(x:aH S61.args):List aW:=[]
def S65:bD:={args:=[.val (.slice eW),.val (.slice eW),.fn [eW,eW] .bool],multi:=false,res:= .bool,mode:= .shr,pre:=fun x=>∀a b,x.2.2.1.pre (a,b,()),fn:=fun x=>Sp.eqF (fun a b=>x.2.2.1.fn (a,b,())) x.1 x.2.1}
def C65:Ctx:=mkC 32 []
def L65(x:aH S65.args):List aW:=[
 {ι:=Nat,inv:=fun i=>i<=List.length x.1/\List.length x.1=List.length x.2.1/\∀j,j<i->x.2.2.1.fn (x.1.getD j Sp.bE,x.2.1.getD j Sp.bE,())=true,dec:=fun i=>List.length x.1-i,ovr:=fun i=>[(17,.shr tI (i:Int))],keep:=[0,1,2,15,16]}]
def S30:bD:={args:=[.val bF,.val bF],multi:=false,res:= .bool,mode:= .shr,pre:=fun _=>True,fn:=fun x=>Sp.eF x.1 x.2.1}
def C30:Ctx:=mkC 61 [(63,S63),(64,S64),(65,S65),(61,S61)]
def L30(x:aH S30.args):List aW:=[]
def S13:bD:={args:=[.val bF,.val bF,.val jB],multi:=false,res:=tI,mode:= .shr,pre:=fun x=>Sp.okA x.1,fn:=fun x=>Sp.fK x.1 x.2.1 x.2.2.1.1}
def C13:Ctx:={mkC 32 [(29,S29),(30,S30)]with mds:=[(3,.shr),(9,.shr)]}
def L13(x:aH S13.args):List aW:=[
 {ι:=Nat×Sp.Code,inv:=fun t=>t.1<=List.length x.2.2.1.1/\Sp.kR x.1 (List.take t.1 x.2.2.1.1)=some t.2/\Sp.okA t.2,dec:=fun t=>List.length x.2.2.1.1-t.1,ovr:=fun t=>[(3,.box bF .shr t.2),(14,.shr tI (t.1:Int))],keep:=[4,12,13]}]
def S48:bD:={args:=[.val tI,.sptr bF,.sptr gH],multi:=false,res:= .bool,mode:= .shr,pre:=fun x=>0<=x.1/\x.1<(List.length (Sp.cB x.2.1):Int)/\x.1<(List.length x.2.2.1.1:Int)/\(∀b,b<List.length (Sp.cB x.2.1)->(Sp.trm x.2.1 b).2.2.2.1.1=2->0<=(Sp.trm x.2.1 b).2.2.2.1.2.1),fn:=fun x=>Sp.oR x.2.2.1 x.2.1 x.1}
def C48:Ctx:={mkC 39 []with mds:=[(5,.shr)]}
def L48(x:aH S48.args):List aW:=[]
end
end Go.User
namespace Sp
theorem totN_mem{l:List Block}{x:Block}(h:x∈l):(x.1.length:Int)<=gF l:=by
 induction l with
 |nil=>simp at h
 |cons a l ih=>
  have e:gF (a::l)=gF l+(a.1.length:Int):=by unfold gF;simp;omega
  have hn:0<=gF l:=by unfold gF;omega
  rw[e];rcases List.mem_cons.1 h with rfl|h
  ·omega
  ·have:=ih h;omega
theorem cpL_D:∀(l:List Inst) (n:Int) (m:Nm),∀i∈cpL l n m,n<=iD i/\iD i<n+l.length
 | [],n,m,i,hi=>by simp[cpL]at hi
 |a::l,n,m,i,hi=>by
  simp only[cpL,List.mem_cons]at hi;rw[List.length_cons];rcases hi with rfl|hi
  ·have e:iD (rnI m a n)=n:=rfl
   rw[e];omega
  ·have:=cpL_D l (n+1) _ i hi
   omega
theorem lM(c:Code)(b:Int):(atC c b=(c,false,()))∨(atC c b=(eX c b,true,())/\(0<=b/\b<((cB c).length:Int))/\(cY c b).2.2.1=true/\rA c b 2<=256/\gF (cB (eX c b))<=2000):=by
 unfold atC
 split
 ·exact .inl rfl
 ·split
  ·exact .inl rfl
  ·split
   ·exact .inl rfl
   ·rename_i h1 h2 h3
    right
    refine⟨rfl,by omega,?_,by omega,by omega⟩
    cases hq:(cY c b).2.2.1
    ·exact absurd hq h2
    ·rfl
theorem cB_new(c:Code)(b:Int):cB (eX c b)=(bA c b 2).set b.toNat (lA c b 2++kA c b,mA (cY c b).2.1,()):=rfl
theorem qE(c:Code)(b:Int):(cB (eX c b)).length=(cB c).length:=by rw[cB_new,List.length_set,pM]
theorem killB_at(B:List Block)(a:Int)(k:Nat):(iH B a).getD k bE=B.getD k bE∨(iH B a).getD k bE=lK:=by
 unfold iH
 split
 ·exact .inl rfl
 ·rcases Nat.lt_or_ge a.toNat B.length with h|h
  ·rw[kB _ _ _ _ _ h]
   split
   ·exact .inr rfl
   ·exact .inl rfl
  ·rw[List.set_eq_of_length_le h];exact .inl rfl
theorem bA_at(c:Code)(b:Int)(k:Nat):(bA c b 2).getD k bE=(cB c).getD k bE∨(bA c b 2).getD k bE=lK:=by
 show(iH (iH (cB c) _) _).getD k bE=_∨_
 rcases killB_at (iH (cB c) ((cY c b).1.getD 0 0)) ((cY c b).1.getD 1 0) k with h|h
 ·have h2:=killB_at (cB c) ((cY c b).1.getD 0 0) k
  rcases h2 with h2|h2
  ·exact .inl (h.trans h2)
  ·exact .inr (h.trans h2)
 ·exact .inr h
theorem rL{c:Code}{b:Int}(hb:0<=b/\b<((cB c).length:Int))(k:Nat):((k:Int)=b/\(cB (eX c b)).getD k bE=(lA c b 2++kA c b,mA (cY c b).2.1,()))∨((k:Int)≠b/\((cB (eX c b)).getD k bE=(cB c).getD k bE∨(cB (eX c b)).getD k bE=lK)):=by
 rw[cB_new,kB _ _ _ _ _ (by rw[pM];omega)]
 by_cases h:(k:Int)=b
 ·left;rw[if_pos (by omega)];exact⟨h,rfl⟩
 ·right;rw[if_neg (by omega)];exact⟨h,bA_at c b k⟩
theorem to_rng{c:Code}(h:okT c){b:Int}(hb:0<=b/\b<((cB c).length:Int))(p:xF c b):0<=(cY c b).2.1/\(cY c b).2.1<((cB c).length:Int):=by
 have hs:aR (trm c b.toNat)=[to0 (trm c b.toNat),to1 (trm c b.toNat)]:=by
  unfold aR;rw[if_neg (by rw[p.k];decide),if_pos ⟨p.k,p.ne⟩];exact oD (h.two _ (by omega))
 have hto:=h.to b.toNat (by omega)
 rw[hs]at hto
 have h0:=hto _ (List.mem_cons_self)
 rw[p.to]
 unfold gX
 cases q:pN (wk0 c) b (to0 (trm c b.toNat))
 ·exact h0
 ·simp only[if_true]
  unfold pN at q;simp only[Bool.and_eq_true,decide_eq_true_eq]at q;have hk:(trm c (to0 (trm c b.toNat)).toNat).1=1:=q.2.2.2.2.1;have ha:=h.to (to0 (trm c b.toNat)).toNat (by omega);have hs2:aR (trm c (to0 (trm c b.toNat)).toNat)=[to0 (trm c (to0 (trm c b.toNat)).toNat)]:=by
   unfold aR;rw[if_neg (by rw[hk];decide),if_neg (fun h=>by rw[hk]at h;exact absurd h.1 (by decide))]
  rw[hs2]at ha;exact ha _ (List.mem_cons_self)
theorem yD{c:Code}(h:okA c)(b:Int):okA (atC c b).1:=by
 rcases lM c b with e|⟨e,hb,hp,hr,ht⟩
 ·rw[e];exact h
 rw[e]
 show okA (eX c b)
 have p:=nL hb hp
 have hl:=qE c b
 have hrg:=h.rg
 have r0:=rA0 c b
 have r1:=rA1 c b
 have r2:=rA2 c b
 have hreg:(eX c b).2.2.1=rA c b 2:=rfl
 have htr:∀k,trm (eX c b) k=((cB (eX c b)).getD k bE).2.1:=fun _=>rfl
 have hin:∀k,ins (eX c b) k=((cB (eX c b)).getD k bE).1:=fun _=>rfl
 refine⟨⟨by rw[hl];exact h.t.ne,by rw[hl];exact h.t.bd,fun k hk t htt=> ?_,fun k hk=> ?_⟩,fun k hk=> ?_,⟨by rw[hreg];omega,by rw[hreg];omega⟩,fun k hk i hi=> ?_⟩
 ·rw[hl]at hk⊢
  rw[htr]at htt;rcases rL hb k with⟨_,q⟩|⟨_,q|q⟩
  ·rw[q]at htt
   have:t=(cY c b).2.1:=by
    have e1:aR (mA (cY c b).2.1)=[(cY c b).2.1]:=by
     unfold aR;rw[if_neg (show ¬(mA (cY c b).2.1).1=5 from(show ¬(1:Int)=5 by decide)),if_neg (fun h=>absurd h.1 (show ¬(1:Int)=2 by decide))];rfl
    have htt:t∈aR (mA (cY c b).2.1):=htt
    rw[e1]at htt
    simpa using htt
   subst this;exact to_rng h.t hb p
  ·rw[q]at htt;exact h.t.to k hk t htt
  ·rw[q]at htt
   have e1:aR lK.2.1=[]:=if_pos rfl
   rw[e1]at htt;simp at htt
 ·rw[hl]at hk
  rw[htr];rcases rL hb k with⟨_,q⟩|⟨_,q|q⟩
  ·rw[q];rfl
  ·rw[q];exact h.t.two k hk
  ·rw[q];rfl
 ·have hm:(cB (eX c b)).getD k bE∈cB (eX c b):=by rw[gat hk];exact List.getElem_mem _
  have:=totN_mem hm
  rw[hin];omega
 ·rw[hl]at hk
  rw[hreg];rw[hin]at hi;rcases rL hb k with⟨_,q⟩|⟨_,q|q⟩
  ·rw[q]at hi
   have hi:i∈lA c b 2++kA c b:=hi
   rw[lA2,lA1,lA0]at hi;simp only[List.mem_append,List.mem_singleton]at hi;rcases hi with(((hi|hi)|hi)|hi)|hi
   ·have:=h.dn b.toNat (by omega) i hi;omega
   ·subst hi
    have e1:iD (movQ c b)=c.2.2.1:=rfl
    rw[e1];omega
   ·have:=cpL_D _ _ _ i hi;omega
   ·have:=cpL_D _ _ _ i hi;omega
   ·unfold kA at hi
    obtain⟨r,hr2,rfl⟩:=List.mem_map.1 hi;have hr3:=(List.mem_filter.1 hr2).1;rw[List.mem_range]at hr3;have e1:iD (selI c.2.2.1 (nA c b 0) (nA c b 1) r)=(r:Int):=rfl;rw[e1];omega
  ·rw[q]at hi
   have:=h.dn k hk i hi;omega
  ·rw[q]at hi
   simp[lK]at hi
theorem oI:∀(l:List Int) (c e:Code) (b:Int),kR c l=some e->kR c (l++[b])=if(atC e b).2.1=true then some (atC e b).1 else none
 | [],c,e,b,h=>by
  have h:some c=some e:=h
  injection h with h;subst h;rfl
 |a::l,c,e,b,h=>by
  simp only[kR,List.cons_append]at h⊢;split at h
  ·rename_i q;rw[if_pos q];exact oI l _ e b h
  ·cases h
theorem rB:∀(l m:List Int) (c:Code),kR c l=none->kR c (l++m)=none
 | [],m,c,h=>by cases h
 |a::l,m,c,h=>by
  simp only[kR,List.cons_append]at h⊢;split at h
  ·rename_i q;rw[if_pos q];exact rB l m _ h
  ·rename_i q;rw[if_neg q]
theorem itake{l:List Int}{j:Nat}(h:j<l.length):l.take (j+1)=l.take j++[l.getD j 0]:=jN h
end Sp
namespace Go.User
open Go.Proofs Go.Lf
set_option maxRecDepth 100000
theorem vc61:(eR C61 (dL [] C61) S61 L61 Try.f61)=(
let q0:=True/\True/\True;
∀(x:Sp.Block×Sp.Block×Unit),
 let q1:Int×Sp.Opd×Sp.Opd×Sp.Opd×List Int×Unit:=x.2.1.2.1.2;
 let q2:Sp.Opd×Sp.Opd×Sp.Opd×List Int×Unit:=x.1.2.1.2.2;
 let q3:Sp.Opd:=q2.1;
 let q4:Sp.Opd×Sp.Opd×Sp.Opd×List Int×Unit:=q1.2;
 let q5:Sp.Opd:=q4.1;
 let q6:Int×Int×Unit:=q3.2;
 let q7:Int×Int×Unit:=q5.2;
 let q8:Sp.Opd×Sp.Opd×List Int×Unit:=q2.2;
 let q9:Sp.Opd:=q8.1;
 let q10:Sp.Opd×Sp.Opd×List Int×Unit:=q4.2;
 let q11:Sp.Opd:=q10.1;
 let q12:Int×Int×Unit:=q9.2;
 let q13:Int×Int×Unit:=q11.2;
 let q14:Sp.Opd×List Int×Unit:=q8.2;
 let q15:Sp.Opd:=q14.1;
 let q16:Sp.Opd×List Int×Unit:=q10.2;
 let q17:Sp.Opd:=q16.1;
 let q18:Int×Int×Unit:=q15.2;
 let q19:Int×Int×Unit:=q17.2;
 let q20:Bool:=decide (x.1.2.1.1=x.2.1.2.1.1)&&(decide (x.1.2.1.2.1=q1.1)&&(decide (q3.1=q5.1)&&(decide (q6.1=q7.1)&&(decide (q6.2.1=q7.2.1)&&true))&&(decide (q9.1=q11.1)&&(decide (q12.1=q13.1)&&(decide (q12.2.1=q13.2.1)&&true))&&(decide (q15.1=q17.1)&&(decide (q18.1=q19.1)&&(decide (q18.2.1=q19.2.1)&&true))&&(decide (q14.2.1=q16.2.1)&&true)))));
 let q21:=(true&&bif q20 then true else false)=true->True;
 True->aB eW x.1/\aB eW x.2.1/\True->((True/\q0)/\True)/\((True/\True/\True/\True/\True/\True/\q21/\q21/\q21/\q21/\q21/\q0)/\True)/\(bif q20 then Sp.eqIns x.1.1 x.2.1.1 else false)=Sp.qI x.1 x.2.1):=by kernel_rfl
theorem vc65:(eR C65 (dL [] C65) S65 L65 Try.f65)=(
let q0:List Ty:=eW::eW::([]:List Ty);
let q1:=(2:Nat);
let q2:=(True/\True)/\True;
let q3:=True/\True/\True;
let q4:=True/\q3;
let q5:Int:=(0:Int);
let q6:=q0=q0;
let q7:Sp.Opd:=(q5,q5,q5,());
let q8:Sp.Block:=(([]:List aC.den),(q5,q5,q7,q7,q7,List.replicate q1 q5,()),());
let q9:Int:=(1:Int);
∀(x:List Sp.Block×List Sp.Block×Fun q0 Ty.bool×Unit),
 let q10:=x.1.length;
 let q11:Int:=(↑q10:Int);
 let q12:=x.2.1.length;
 let q13:Bool:=q11 !=(↑q12:Int);
 let q14:Bool:=Sp.eqF (fun(a b:Sp.Block)=>x.2.2.1.2 (a,b,())) x.1 x.2.1;
 let q15:=q2/\false=q14;
 let q16:=x.1=x.1;
 let q17:=q16/\x.2.1=x.2.1/\(∃(h1:q6),∃(h2:Ty.bool=Ty.bool),x.2.2.1=x.2.2.1)/\q16/\q11=q11/\True;
 (∀(a b:Sp.Block),x.2.2.1.1 (a,b,()))->
 aB (aC.slice.prod ((tI.prod (tI.prod (aM.prod (aM.prod (aM.prod ((Ty.arr q1 tI).prod Ty.unit)))))).prod Ty.unit)).slice x.1/\aB (aC.slice.prod ((tI.prod (tI.prod (aM.prod (aM.prod (aM.prod ((Ty.arr q1 tI).prod Ty.unit)))))).prod Ty.unit)).slice x.2.1/\True->
 q2/\
 ((True/\True/\q4)/\True)/\
 (q13=true->q15)/\
 (q13=false->
 (q4/\True)/\
 (∃(x_1:Nat),(x_1<=q10/\q10=q12/\∀(j:Nat),j<x_1->x.2.2.1.2 (x.1.getD j Sp.bE,x.2.1.getD j Sp.bE,())=true)/\q5=(↑x_1:Int)/\q17)/\
 ∀(x_1:Nat),
 let q18:Bool:=decide ((↑x_1:Int)<q11);
 let q19:=(↑x_1:Int).toNat;
 let q20:Sp.Block×Sp.Block×Unit:=(x.1.getD q19 q8,x.2.1.getD q19 q8,());
 let q21:Bool:= !x.2.2.1.2 q20;
 let q22:Int:=(↑x_1:Int)+q9;
 (x_1<=q10/\q10=q12/\∀(j:Nat),j<x_1->x.2.2.1.2 (x.1.getD j Sp.bE,x.2.1.getD j Sp.bE,())=true)->aB tI (↑x_1:Int)/\True->q2/\(q18=true->((True/\inN (↑x_1:Int) q10/\q4)/\True/\True)/\((True/\True/\inN (↑x_1:Int) q12/\q3)/\True/\True)/\((True/\True/\True/\x.2.2.1.1 q20/\True/\True)/\True)/\(q21=true->q15)/\(q21=false->((inK IntKind.i64 q22/\True/\True)/\True)/\∃(y:Nat),(y<=q10/\q10=q12/\∀(j:Nat),j<y->x.2.2.1.2 (x.1.getD j Sp.bE,x.2.1.getD j Sp.bE,())=true)/\q10-y<q10-x_1/\q22=(↑y:Int)/\q17))/\(q18=false->q2/\true=q14))):=by kernel_rfl
theorem vc30:(eR C30 (dL [] C30) S30 L30 Try.f30)=(
let q0:=True/\True/\True;
∀(x:Sp.Code×Sp.Code×Unit),
 let q1:Bool:=x.1.1==x.2.1.1;
 let q2:=(true&&bif q1 then true else false)=true->True;
 let q3:Bool:=bif q1 then x.1.2.1==x.2.1.2.1 else false;
 let q4:=(true&&bif q3 then true else false)=true->True;
 let q5:Bool:=bif q3 then x.1.2.2.1==x.2.1.2.2.1 else false;
 let q6:=(true&&bif q5 then true else false)=true->True;
 let q7:Int×Int×List Sp.Arr×List Sp.Opd×List Sp.Block×Unit:=x.2.1.2.2.2;
 let q8:Bool:=bif q5 then x.1.2.2.2.1==q7.1 else false;
 let q9:=(true&&bif q8 then true else false)=true->True;
 let q10:Int×List Sp.Arr×List Sp.Opd×List Sp.Block×Unit:=x.1.2.2.2.2;
 let q11:Int×List Sp.Arr×List Sp.Opd×List Sp.Block×Unit:=q7.2;
 let q12:Bool:=bif q8 then q10.1==q11.1 else false;
 let q13:=(true&&bif q12 then true else false)=true->True;
 let q14:List Sp.Arr×List Sp.Opd×List Sp.Block×Unit:=q10.2;
 let q15:List Sp.Arr×List Sp.Opd×List Sp.Block×Unit:=q11.2;
 let q16:Bool:=bif q12 then Sp.vF q14.1 q15.1 else false;
 let q17:=(true&&bif q16 then true else false)=true->True;
 let q18:List Sp.Opd×List Sp.Block×Unit:=q14.2;
 let q19:List Sp.Opd×List Sp.Block×Unit:=q15.2;
 let q20:Bool:=bif q16 then Sp.eqLps q18.1 q19.1 else false;
 let q21:=(true&&bif q20 then true else false)=true;
 let q22:=q21->True;
 True->aB bF x.1/\aB bF x.2.1/\True->((True/\q0)/\True)/\((True/\True)/\True)/\((True/\True/\True/\True/\True/\True/\q2/\q2/\q2/\q2/\q2/\True/\True/\q4/\q4/\q4/\q4/\q4/\True/\True/\q6/\q6/\q6/\q6/\q6/\True/\True/\q9/\q9/\q9/\q9/\q9/\True/\True/\q13/\q13/\q13/\q13/\q13/\True/\True/\q17/\q17/\q17/\q17/\q17/\True/\True/\q22/\q22/\q22/\q22/\q22/\(q21->∀(a b:Sp.Block),True)/\q0)/\True)/\(bif q20 then Sp.eqF (fun(a b:Sp.Block)=>Sp.qI a b) q18.2.1 q19.2.1 else false)=Sp.eF x.1 x.2.1):=by kernel_rfl
theorem vc13:(eR C13 (dL [] C13) S13 L13 Try.f13)=(
let q0:=True/\True/\True;
let q1:=True/\True/\q0;
let q2:=q1/\True;
let q3:Int:=(0:Int);
let q4:=(True/\True)/\True;
let q5:Int:=(1:Int);
∀(x:Sp.Code×Sp.Code×(List Int×Unit)×Unit),
 let q6:=x.2.2.1.1.length;
 let q7:Int:=(↑q6:Int);
 let q8:=x.2.1=x.2.1/\x.2.2.1.1=x.2.2.1.1/\q7=q7/\True;
 let q9:Int:=Sp.fK x.1 x.2.1 x.2.2.1.1;
 let q10:=q4/\(100:Int)=q9;
 Sp.okA x.1->
 aB bF x.1/\aB bF x.2.1/\aB jB x.2.2.1/\True->
 q2/\
 q2/\
 (∃(x_1:Nat×Sp.Code),(x_1.1<=q6/\Sp.kR x.1 (List.take x_1.1 x.2.2.1.1)=Option.some x_1.2/\Sp.okA x_1.2)/\x.1=x_1.2/\q3=(↑x_1.1:Int)/\q8)/\
 ∀(x_1:Nat×Sp.Code),
 let q11:Int:=(↑x_1.1:Int);
 let q12:Bool:=decide (q11<q7);
 let q13:Sp.Code×Bool×Unit:=Sp.atC x_1.2 (x.2.2.1.1.getD q11.toNat q3);
 let q14:Bool:= !q13.2.1;
 let q15:Int:=q11+q5;
 let q16:Bool:= !Sp.eF x_1.2 x.2.1;
 x_1.1<=q6/\Sp.kR x.1 (List.take x_1.1 x.2.2.1.1)=Option.some x_1.2/\Sp.okA x_1.2->aB bF x_1.2/\aB tI q11/\True->q4/\(q12=true->((inN q11 q6/\q0)/\True)/\((True/\True/\Sp.okA x_1.2/\q1)/\q0)/\(q0/\True)/\(q14=true->q10)/\(q14=false->((True/\True)/\True/\True)/\((inK IntKind.i64 q15/\True/\True)/\True)/\∃(y:Nat×Sp.Code),(y.1<=q6/\Sp.kR x.1 (List.take y.1 x.2.2.1.1)=Option.some y.2/\Sp.okA y.2)/\q6-y.1<q6-x_1.1/\q13.1=y.2/\q15=(↑y.1:Int)/\q8))/\(q12=false->q2/\(q16=true->q10)/\(q16=false->q4/\q3=q9))):=by kernel_rfl
theorem vc48:(eR C48 (dL [] C48) S48 L48 Try.f48)=(
let q0:Int:=(2:Int);
let q1:Int:=(0:Int);
let q2:=(2:Nat);
let q3:=True/\True/\True;
let q4:Sp.Opd:=(q1,q1,q1,());
let q5:Sp.Block:=(([]:List aC.den),(q1,q1,q4,q4,q4,List.replicate q2 q1,()),());
∀(x:Int×Sp.Code×Sp.Uni×Unit),
 let q6:=(Sp.cB x.2.1).length;
 let q7:=x.2.2.1.1.length;
 let q8:List Sp.Block:=x.2.1.2.2.2.2.2.2.2.1;
 let q9:Bool:=x.2.2.1.1.getD x.1.toNat false;
 let q10:Bool:=true&&bif q9 then true else false;
 let q11:=q10=true->True;
 let q12:Sp.Opd:=(q8.getD x.1.toNat q5).2.1.2.2.2.1;
 let q13:Bool:=q12.1 !=q0;
 let q14:Bool:=q10&&bif q13 then false else true;
 let q15:=q14=true->True;
 let q16:Int:=q12.2.1;
 let q17:List Bool:=x.2.2.1.2.1;
 let q18:=q17.length;
 let q19:Bool:=decide (q16<(↑q18:Int));
 let q20:=(q14&&bif q19 then true else false)=true;
 let q21:=q20->True;
 ((0:(AK.val tI).den)<=x.1/\
 x.1<(↑q6:Int)/\
 x.1<(↑q7:Int)/\
 ∀(b:Nat),
 let q22:Sp.Opd:=(Sp.trm x.2.1 b).2.2.2.1;
 b<q6->q22.1=q0->q1<=q22.2.1)->
 aB tI x.1/\aB (tI.prod (tI.prod (tI.prod (tI.prod (tI.prod (cC.slice.prod (bC.slice.prod ((aC.slice.prod ((tI.prod (tI.prod (aM.prod (aM.prod (aM.prod ((Ty.arr q2 tI).prod Ty.unit)))))).prod Ty.unit)).slice.prod Ty.unit)))))))) x.2.1/\aB gH x.2.2.1/\True->((True/\True)/\True)/\((True/\True/\True/\inN x.1 q8.length/\True/\True/\q3)/\True/\True)/\((True/\True/\True/\inN x.1 q7/\True/\True/\q11/\q11/\q11/\q11/\q15/\q15/\q15/\q15/\q15/\q15/\q15/\q21/\q21/\q21/\q21/\(q20->inN q16 q18)/\q21/\q15/\q11/\q3)/\True)/\(bif q9 then bif q13 then true else bif q19 then q17.getD q16.toNat false else false else false)=Sp.oR x.2.2.1 x.2.1 x.1):=by kernel_rfl
end Go.User
namespace Sp
theorem tE(p:Block->Block->Bool)(a b:List Block):eqF p a b=true↔a.length=b.length/\∀j,j<a.length->p (a.getD j bE) (b.getD j bE)=true:=by
 unfold eqF
 rw[Bool.and_eq_true,decide_eq_true_eq,List.all_eq_true]
 constructor
 ·rintro⟨h1,h2⟩
  refine⟨h1,fun j hj=> ?_⟩
  rw[gat hj,gat (by omega)];exact h2 (a[j],b[j]) (by
   have hz:j<(List.zip a b).length:=by rw[List.length_zip];omega
   have:(List.zip a b)[j]=(a[j],b[j]):=List.getElem_zip
   rw[<-this];exact List.getElem_mem hz)
 ·rintro⟨h1,h2⟩
  refine⟨h1,fun q hq=> ?_⟩
  obtain⟨j,hj,rfl⟩:=List.getElem_of_mem hq;rw[List.length_zip]at hj;rw[List.getElem_zip];have:=h2 j (by omega)
  rwa [gat (by omega),gat (by omega)]at this
theorem eqF_blk(a b:List Block):eqF (fun a b=>qI a b) a b=true↔a=b:=by
 rw[tE]
 constructor
 ·rintro⟨h1,h2⟩
  exact sV bE h1 fun i hi=>(gU _ _).1 (h2 i hi)
 ·rintro rfl
  exact⟨rfl,fun j _=>(gU _ _).2 rfl⟩
end Sp
namespace Go.User
open Go.Lf Go.Proofs
theorem ok61:FOk Try.prog 61 S61:=by
 have hC:aG Try.prog C61:=okA (aE ok62 aS)
 refine FOk.intro hC (dG hC) Try.call61 Try.func61 (by kernel_rfl) (by kernel_rfl) L61 ?_
 rw[vc61]
 simp only[zz,zy]
 rintro⟨⟨I,T,u1⟩,⟨J,R,u2⟩,u3⟩ _
 obtain⟨k,s,⟨d0,d1,d2,_⟩,⟨a0,a1,a2,_⟩,⟨b0,b1,b2,_⟩,l,_⟩:=T
 obtain⟨k',s',⟨d0',d1',d2',_⟩,⟨a0',a1',a2',_⟩,⟨b0',b1',b2',_⟩,l',_⟩:=R
 dsimp only
 rw[Bool.eq_iff_iff]
 rw[Sp.gU]
 simp only[cond_eq_ite,Bool.and_eq_true,decide_eq_true_eq,Prod.mk.injEq,and_true]
 rw[Sp.oN]
 exact and_comm
theorem ok65:FOk Try.prog 65 S65:=by
 have hC:aG Try.prog C65:=okA aS
 refine FOk.intro hC (dG hC) Try.call65 Try.func65 (by kernel_rfl) (by kernel_rfl) L65 ?_
 rw[vc65]
 simp only[zz,zy]
 rintro⟨a,b,p,u⟩ hp hx
 have hb0:(([],(0,0,(0,0,0,()),(0,0,0,()),(0,0,0,()),List.replicate 2 0,()),()):Sp.Block)=Sp.bE:=rfl
 dsimp only at *
 simp only[hb0]
 have hf:∀h:¬(Sp.eqF (fun a b=>p.2 (a,b,())) a b=true),false=Sp.eqF (fun a b=>p.2 (a,b,())) a b:=fun h=>by
  cases hq:Sp.eqF (fun a b=>p.2 (a,b,())) a b
  ·rfl
  ·exact absurd hq h
 refine⟨fun hne=>hf fun h=>hne (by rw[((Sp.tE _ _ _).1 h).1]),fun heq=>⟨⟨0,⟨Nat.zero_le _,by omega,fun j hj=>by omega⟩,rfl⟩,?_⟩⟩
 rintro k ⟨hk,hl,hall⟩ hkk
 refine⟨fun hlt=>⟨⟨by omega,by omega⟩,⟨by omega,by omega⟩,hp _ _,fun hff=>hf fun h=> ?_,fun ht=>⟨d9 hlt hx.1.1,k+1,⟨by omega,hl,fun j hj=> ?_⟩,by omega,by simp⟩⟩,fun hge=> ?_⟩
 ·have:=((Sp.tE _ _ _).1 h).2 k (by omega)
  rw[hff]at this;cases this
 ·by_cases e:j=k
  ·subst e;exact ht
  ·exact hall j (by omega)
 ·exact((Sp.tE _ _ _).2 ⟨hl,fun j hj=>hall j (by omega)⟩).symm
theorem ok30:FOk Try.prog 30 S30:=by
 have hC:aG Try.prog C30:=okA (aE ok63 (aE ok64 (aE ok65 (aE ok61 aS))))
 refine FOk.intro hC (dG hC) Try.call30 Try.func30 (by kernel_rfl) (by kernel_rfl) L30 ?_
 rw[vc30]
 simp only[zz,zy]
 rintro⟨⟨g,s,r,sl,p,A,L,B,u1⟩,⟨g',s',r',sl',p',A',L',B',u2⟩,u⟩ _
 dsimp only
 rw[Bool.eq_iff_iff,Sp.mG]
 simp only[cond_eq_ite,Bool.and_eq_true,beq_iff_eq,Prod.mk.injEq,and_true,Sp.vF,Sp.eqLps,decide_eq_true_eq,Sp.eqF_blk,and_assoc]
theorem ok13(h29:FOk Try.prog 29 S29):FOk Try.prog 13 S13:=by
 have hC:aG Try.prog C13:=okC (aE h29 (aE ok30 aS)) rfl rfl rfl rfl rfl rfl rfl
 refine FOk.intro hC (dG hC) Try.call13 Try.func13 (by kernel_rfl) (by kernel_rfl) L13 ?_
 rw[vc13]
 simp only[zz,zy]
 rintro⟨c,d,⟨l,u1⟩,u⟩ h hx
 dsimp only at *
 have h:Sp.okA c:=h
 refine⟨⟨(0,c),⟨Nat.zero_le _,rfl,h⟩,rfl,rfl⟩,?_⟩
 rintro⟨k,e⟩ ⟨hk,hr,he⟩ _
 dsimp only at *
 refine⟨fun hlt=> ?_,fun hge=> ?_⟩
 ·have hkl:k<List.length l:=by omega
  have hsn:=Sp.oI (List.take k l) c e (List.getD l k 0) hr
  rw[<-Sp.itake hkl]at hsn;refine⟨⟨by omega,by omega⟩,he,fun hf=> ?_,fun ht=>⟨d9 hlt hx.2.2.1.1,(k+1,_),⟨by dsimp only;omega,?_,Sp.yD he _⟩,by dsimp only;omega,rfl,by simp⟩⟩
  ·rw[if_neg (by rw[hf];simp)]at hsn
   have:=Sp.rB _ (List.drop (k+1) l) c hsn
   rw[List.take_append_drop]at this;unfold Sp.fK;rw[this]
  ·dsimp only
   rw[hsn,if_pos ht]
 ·rw[List.take_of_length_le (by omega)]at hr
  unfold Sp.fK;rw[hr]
  dsimp only
  exact⟨fun h=>by rw[if_neg (by rw[h];simp)],fun h=>by rw[if_pos h]⟩
theorem ok48:FOk Try.prog 48 S48:=by
 have hC:aG Try.prog C48:=okC aS rfl rfl rfl rfl rfl rfl rfl
 refine FOk.intro hC (dG hC) Try.call48 Try.func48 (by kernel_rfl) (by kernel_rfl) L48 ?_
 rw[vc48]
 simp only[zz,zy]
 rintro⟨b,c,⟨U,R,u1⟩,u⟩ ⟨h0,h1,h2,h3⟩ _
 have hb0:(([],(0,0,(0,0,0,()),(0,0,0,()),(0,0,0,()),List.replicate 2 0,()),()):Sp.Block)=Sp.bE:=rfl
 have hcB:c.2.2.2.2.2.2.2.1=Sp.cB c:=rfl
 have htr:∀b:Nat,((Sp.cB c).getD b Sp.bE).2.1=Sp.trm c b:=fun _=>rfl
 dsimp only at *
 simp only[hb0,hcB,htr]
 have h0:(0:Int)<=b:=h0
 have h1:(b:Int)<((Sp.cB c).length:Int):=h1
 refine⟨⟨h0,h1⟩,⟨⟨h0,h2⟩,fun hh=>⟨h3 (Int.toNat b) (by omega) hh.1.2,hh.2⟩⟩,?_⟩
 unfold Sp.oR
 dsimp only
 congr 2
 rw[Bool.eq_iff_iff]
 simp
end Go.User
namespace Go.Lf

def tmpsB:List Operand->List Nat->Bool
 | [],[]=>true
 | .tmp s::l,t::m=>Nat.beq s t&&tmpsB l m
 |_,_=>false
def qsOf(ps:List (Nat×Nat)):List Nat->Option (List Nat)
 | []=>some []
 |s::l=>match look ps s,qsOf ps l with
  |some q,some r=>some (q::r)
  |_,_=>none
def capMk(ks:List (FuncId×List Nat))(C:Ctx)(st:St)(o:Oper):Option (Prop×St):=match o.op,o.dst with
 | .makeFunc (.func g) first caps,some d=>match look ks g with
  |some l=>match qsOf C.ps l with
   |some qs=>bif Nat.beq first.size 0&&tmpsB caps.toList l&&wrB C d then some (True,put st d (.shr (.abs .cap) (some (g,qs))))else none
   |none=>none
  |none=>none
 |_,_=>none
def y6(ks:List (FuncId×List Nat))(C:Ctx)(st:St)(o:Oper)(q:Call):Option (Prop×St):=match q.callee,o.dst,ks with
 | .value (.tmp t),some d,[(g,l)]=>match st t,qsOf C.ps l with
  | .shr (.abs .cap) z,some qs=>match callE C d g (q.args.toList.map (bR st)++l.map fun s=>bR st (.tmp s))with
   |some (c,e,us)=>bif wrB C d then some (z=some (g,qs)/\c,put (dropAll st us) d e)else none
   |none=>none
  |_,_=>none
 |_,_,_=>none
def stpK(ks:List (FuncId×List Nat))(bs:List (FuncId×jA))(C:Ctx)(st:St)(o:Oper):Option (Prop×St):=match o.op with
 | .call q=>(match y6 ks C st o q with
  |some r=>some r
  |none=>dL bs C st o)
 | .makeFunc _ _ _=>(match capMk ks C st o with
  |some r=>some r
  |none=>dL bs C st o)
 |_=>dL bs C st o

def psZ:List Nat->List Nat->List (Nat×Nat)
 |s::l,q::m=>(s,q)::psZ l m
 |_,_=>[]
def forQ:List Nat->(List Nat->Prop)->Prop
 | [],Φ=>Φ []
 |_::l,Φ=>∀q:Nat,forQ l fun m=>Φ (q::m)
def y8(st:St):List Nat->Bool
 | []=>true
 |s::l=>(match st s with
  | .box _ _ _=>true
  |_=>false)&&y8 st l
structure Kap(K:Type) where
 n:Nat
 ss:List Nat
 KA:K->List KT
 KR:K->List Nat->List KT
def funC(C1:Ctx)(stp1:St->Oper->Option (Prop×St))(C2:List Nat->Ctx)(stp2:List Nat->St->Oper->Option (Prop×St))(s:bD)(m:Kap (aH s.args))(fn:Func):Prop:=
 match fn.body with
 |some c=>∀x,s.pre x->gE s.args x->wpTL C1 stp1 (m.KA x) ((d6 c).take m.n) (ofL (bZ s.args x 0))
   (fun st'=>y8 st' m.ss=true/\forQ m.ss fun qs=>wpTL (C2 qs) (stp2 qs) (m.KR x qs) ((d6 c).drop m.n) st' (jU C1 fn.results.toList s (s.fn x)) (fun _ _=>False) (jU C1 fn.results.toList s (s.fn x)))
   (fun _ _=>False) (jU C1 fn.results.toList s (s.fn x))
 |none=>False

section
variable {P:Program} {C:Ctx} {N:NP} {w0:World} {F0 H:aA} {env:St} {a:Act} {w:World} {F:aA} {S:Nat->aA} {d:Nat}

theorem tmpsB_ok:∀ {l:List Operand} {m:List Nat},tmpsB l m=true->l=m.map Operand.tmp
 | [],[],_=>rfl
 | .tmp s::l,t::m,h=>by
  simp only[tmpsB,Bool.and_eq_true]at h;rw[Nat.eq_of_beq_eq_true h.1,tmpsB_ok h.2]
  rfl
 | [],_::_,h=>by cases h
 | .tmp _::_,[],h=>by cases h
 | .const _::_,[],h=>by cases h
 | .func _::_,[],h=>by cases h
 | .const _::_,_::_,h=>by cases h
 | .func _::_,_::_,h=>by cases h
theorem look_mem{α:Type}:∀ {l:List (Nat×α)} {n:Nat} {v:α},look l n=some v->(n,v)∈l
 |(k,u)::l,n,v,h=>by
  unfold look at h;cases hb:Nat.beq k n
  ·rw[hb]at h
   exact List.mem_cons_of_mem _ (look_mem h)
  ·rw[hb]at h
   simp only[cond_true,Option.some.injEq]at h;subst h;rw[Nat.eq_of_beq_eq_true hb];exact List.mem_cons_self ..
theorem x4(hp:∀z∈N.ps,a.tmps.getD z.1 undef= .pointer (some ⟨z.2,0,none⟩)):∀ {l qs:List Nat},qsOf N.ps l=some qs->(l.map fun s=>a.eval (.tmp s))=qs.map fun q=>Value.pointer (some ⟨q,0,none⟩)
 | [],qs,h=>by
  simp only[qsOf,Option.some.injEq]at h;subst h;rfl
 |s::l,qs,h=>by
  simp only[qsOf]at h;split at h
  ·rename_i q r h1 h2
   simp only[Option.some.injEq]at h;subst h;rw[List.map_cons,List.map_cons,x4 hp h2]
   congr 1
   exact hp _ (look_mem h1)
  ·cases h

theorem capMk_ok(hi:aJ P C.np w0 F0 H env a w F S){ks:List (FuncId×List Nat)}{o:Oper}{c:Prop}{env':St}(h:capMk ks C env o=some (c,env')){K:Act->World->Prop}{Q:Exit->Act->World->Prop}
  (hK:∀a' w',Inv P C.np w0 F0 H env' a' w'->K a' w'):o.wp P a w K Q:=by
 unfold capMk at h
 split at h
 ·rename_i g first caps d hop hod
  split at h
  ·rename_i l hl
   split at h
   ·rename_i qs hqs
    cases hb:(Nat.beq first.size 0&&tmpsB caps.toList l&&wrB C d)
    ·rw[hb]at h;cases h
    rw[hb]at h;simp only[cond_true,Option.some.injEq,Prod.mk.injEq]at h;obtain⟨_,rfl⟩:=h;simp only[Bool.and_eq_true]at hb;obtain⟨⟨h1,h2⟩,h3⟩:=hb;have e1:first= #[]:=Array.eq_empty_of_size_eq_zero (Nat.eq_of_beq_eq_true h1);subst e1;have hd:=eA h3;have e2:=tmpsB_ok h2;have e3:=x4 (N:=C.np) (a:=a) hi.slots.pins hqs;have e4:caps.map a.eval=(qs.map fun q=>Value.pointer (some ⟨q,0,none⟩)).toArray:=by
     apply Array.ext'
     rw[Array.toList_map,e2,List.map_map];exact e3
    unfold Oper.wp;have hrun:(execOp a.eval o).run P w= .ok (.value (.func (.func g) #[] (caps.map a.eval))) w:=by simp[execOp,hop,Instr.makeFunc]
    rw[hrun,Oper.upon_value,hod];have hVd:(a.put (some d) (.func (.func g) #[] (caps.map a.eval))).tmps.getD d undef= .func (.func g) #[] (caps.map a.eval):=by rw[Act.getD_put (by rw[hi.slots.size];exact hd.1),if_pos rfl]
    refine hK _ _ ⟨F,_,hi.put (Sd:=none') hd (RowKit.Below.refl _ _) (fun _ h=>h) hi.fb (fun b h1 h2=>absurd h1 h2) (fun _ h=>h.elim) ?_⟩
    show aT F w (.abs .cap) .shr none' ((a.put (some d) (.func (.func g) #[] (caps.map a.eval))).tmps.getD d undef) _
    rw[hVd];exact⟨[.func (.func g) #[] (caps.map a.eval)],rfl,by rw[e4];rfl⟩
   ·cases h
  ·cases h
 ·cases h

theorem capCall_ok(hC:aG P C)(hi:aJ P C.np w0 F0 H env a w F S){ks:List (FuncId×List Nat)}{o:Oper}{q:Call}(ho:o.op= .call q){c:Prop}{env':St}(h:y6 ks C env o q=some (c,env'))(hc:c){K:Act->World->Prop}{Q:Exit->Act->World->Prop}
  (hK:∀a' w',Inv P C.np w0 F0 H env' a' w'->K a' w'):o.wp P a w K Q:=by
 obtain⟨callee,args,ts⟩:=q
 unfold y6 at h
 simp only at h
 split at h
 ·rename_i t d g l hod
  split at h
  ·rename_i z qs ht hqs
   split at h
   ·rename_i c' e us hcall
    cases hw:wrB C d
    ·rw[hw]at h;cases h
    rw[hw]at h;simp only[cond_true,Option.some.injEq,Prod.mk.injEq]at h;obtain⟨rfl,rfl⟩:=h;obtain⟨rfl,hc⟩:=hc;have hd:=eA hw;have e3:=x4 (N:=C.np) (a:=a) hi.slots.pins hqs;have hv:a.eval (.tmp t)= .func (.func g) #[] (qs.map fun q=>Value.pointer (some ⟨q,0,none⟩)).toArray:=by
     have h1:=hi.ent t
     rw[ht]at h1;obtain⟨cs,h1,h2⟩:=h1;have h2:cs=[.func (.func g) #[] (qs.map fun q=>Value.pointer (some ⟨q,0,none⟩)).toArray]:=h2
     subst h2;exact h1
    unfold callE at hcall;split at hcall
    ·rename_i s hs
     split at hcall
     ·rename_i x b hx
      cases hb:(b||eC s.res s.mode)
      ·rw[hb]at hcall;cases hcall
      rw[hb]at hcall;cases hgb:glbB C s.glb
      ·rw[hgb]at hcall;cases hcall
      rw[hgb]at hcall;simp only[Bool.and_self,cond_true,Option.some.injEq,Prod.mk.injEq]at hcall;obtain⟨rfl,rfl,rfl⟩:=hcall;obtain⟨k1,k2⟩:=hC.funcs g s hs
      have hx:mT s.args ((args.toList++l.map Operand.tmp).map (bR env))=some (x,b):=by
       rw[List.map_append,List.map_map];exact hx
      have hargs:=i9 hi (fS (l:=args.toList++l.map Operand.tmp) (fun z _=>aX hi z)) hx
      have hcall:=k2 w (Lvl F S b) _ x ((yP hgb hi.glb).congr (fun k hk=>by cases b with|true=>exact hk|false=>exact .inl hk) (fun _ _=>rfl)) (zF hi b) hargs hc
      have hrun:(execOp a.eval o).run P w= .ok (.enter g ((args.toList++l.map Operand.tmp).map a.eval).toArray) w:=by
       have e5:(l.map Operand.tmp).map a.eval=qs.map fun q=>Value.pointer (some ⟨q,0,none⟩):=by rw[List.map_map];exact e3
       rw[List.map_append,e5];simp only[execOp,ho,resolve,Sem.run_bind,hv,Deferred.ofValue,Sem.run_pure,Result.andThen,invoke];have:=k1 ((args.toList.map a.eval++qs.map fun q=>Value.pointer (some ⟨q,0,none⟩)).toArray) w
       rw[<-this]
       congr 1
       congr 1
       apply Array.ext'
       simp
      unfold Oper.wp;rw[hrun,Oper.upon_enter];refine hcall.mono ?_;intro e w' hp;obtain⟨v,F2,S2,rfl,hh⟩:=hi.putCall (C:=C) hd rfl hb hp;rw[hod];exact hK _ _ ⟨F2,S2,hh⟩
     ·cases hcall
    ·cases hcall
   ·cases h
  ·cases h
 ·cases h

theorem stpK_ok{ks:List (FuncId×List Nat)}{bs:List (FuncId×jA)}(hC:aG P C)(hb:∀f s,look bs f=some s->BOk P f s):dM P C (stpK ks bs C):=by
 intro w0 F0 H env env' a w o c hi h hc K Q hK
 unfold stpK at h
 split at h
 ·rename_i q hop
  split at h
  ·rename_i r hr
   simp only[Option.some.injEq]at h;subst h;obtain⟨F,S,hi⟩:=hi;exact capCall_ok hC hi hop hr hc hK
  ·exact oF hC hb hi h hc K Q hK
 ·split at h
  ·rename_i r hr
   simp only[Option.some.injEq]at h;subst h;obtain⟨F,S,hi⟩:=hi;exact capMk_ok hi hr hK
  ·exact oF hC hb hi h hc K Q hK
 ·exact oF hC hb hi h hc K Q hK

theorem forQ_ok:∀ {ss:List Nat} {Φ:List Nat->Prop},forQ ss Φ->∀qs:List Nat,qs.length=ss.length->Φ qs
 | [],Φ,h,[],_=>h
 | [],Φ,h,_::_,hl=>by cases hl
 |_::ss,Φ,h,[],hl=>by cases hl
 |_::ss,Φ,h,q::qs,hl=>forQ_ok (h q) qs (by simpa using hl)
theorem vK(hi:aJ P N w0 F0 H env a w F S):∀ {ss:List Nat},y8 env ss=true->∃qs:List Nat,qs.length=ss.length/\∀z∈psZ ss qs,a.tmps.getD z.1 undef= .pointer (some ⟨z.2,0,none⟩)
 | [],_=>⟨[],rfl,fun z hz=>by cases hz⟩
 |s::ss,h=>by
  simp only[y8,Bool.and_eq_true]at h;obtain⟨qs,h1,h2⟩:=vK hi h.2;have h3:=h.1;split at h3
  ·rename_i τ m x hs
   have h4:=hi.ent s
   rw[hs]at h4;obtain⟨pl,S0,cs,hr⟩:=h4;obtain⟨_,_,b,_,_,hv,_⟩:=hr.box_inj;refine⟨b::qs,by simp[h1],fun z hz=> ?_⟩
   simp only[psZ,List.mem_cons]at hz;rcases hz with rfl|hz
   ·exact hv
   ·exact h2 z hz
  ·cases h3

theorem FOk.introC{C1:Ctx}{C2:List Nat->Ctx}{stp1:St->Oper->Option (Prop×St)}{stp2:List Nat->St->Oper->Option (Prop×St)}(hC1:aG P C1)(hstp1:dM P C1 stp1)(hC2:∀qs,aG P (C2 qs))(hstp2:∀qs,dM P (C2 qs) (stp2 qs))
  {f:FuncId} {s:bD} {fn:Func} (hdef:fV P f) (hf:P.funcs[f]? =some fn) (m:Kap (aH s.args)) (hN:C1.np=⟨fn.ntmps,none,0,s.glb,[]⟩) (hnp:∀qs,(C2 qs).np=⟨fn.ntmps,none,0,s.glb,psZ m.ss qs⟩)
  (hlen:Nat.ble s.args.length fn.ntmps=true) (h:funC C1 stp1 C2 stp2 s m fn):FOk P f s:=by
 refine⟨hdef,?_⟩
 intro w F vs xs hG hF ha hp
 unfold funC at h
 split at h
 ·rename_i c hb
  have hA:=h xs hp (d4 ha)
  have hl:=cD.len ha
  have hlen':s.args.length<=fn.ntmps:=Nat.le_of_ble_eq_true hlen
  have hst:=aJ.start (P:=P) (N:=C1.np) (by rw[hN];exact hG) hF ha (by rw[hN];show vs.length<=fn.ntmps;omega) (by rw[hN]) (by rw[hN])
  refine calls_of_wp hf hb ?_
  rw[show C1.np.n=fn.ntmps by rw[hN]]at hst
  have hend:∀(b:Bool) st a w',jU C1 fn.results.toList s (s.fn xs) st->Inv P C1.np w F none' st a w'->bodyPost P fn (mZ F w s.multi s.res s.mode (s.fn xs)) (bif b then .normal else .ret) a w':=by
   intro b st a w' hq hi;obtain⟨v,h1,h2⟩:=kE hC1 hq hi;obtain⟨_,_,hi⟩:=hi;cases b<;>exact⟨hi.defers,v,h1,h2⟩
  refine tS c ?_
  rw[<-List.take_append_drop m.n (d6 c)];refine gQ (oC hC1 hstp1 hA ⟨F,_,by simpa using hst⟩ ?_ (fun _ _ _ _ h=>h.elim) (fun st a w' hq hi=>hend false st a w' hq hi))
  intro st1 a1 w1 ⟨h1,h2⟩ ⟨F1,S1,hi1⟩;obtain⟨qs,h3,h4⟩:=vK hi1 h1;have h5:=forQ_ok h2 qs h3;have e1:C1.np.n=fn.ntmps:=by rw[hN]
  have e2:C1.np.g=s.glb:=by rw[hN]
  have e3:C1.np.p=none:=by rw[hN]
  have e4:C1.np.ps=[]:=by rw[hN]
  have hi2:aJ P (C2 qs).np w1 F1 (fun b=>∃t,S1 t b) st1 a1 w1 F1 S1:=by
   refine⟨rfl,rfl,rfl,Nat.le_refl _,fun _ _ _=>rfl,hi1.fb,fun _ h=>h,fun b h1 h2=>absurd h1 h2,fun t b h=>⟨.inr ⟨t,h⟩,(hi1.sb t b h).2.1,(hi1.sb t b h).2.2⟩,hi1.sd,hi1.ent,hi1.defers,?_⟩
   rw[hnp];refine⟨hi1.slots.size.trans e1,(fun s h=>by cases h),fun b o h=> ?_,h4⟩
   have h:tabOf C1.np.g b=some o:=by rw[e2];exact h
   exact⟨(hi1.glb b o h).1,fun⟨t,ht⟩=>(hi1.sb t b ht).2.2 (hi1.glb b o h).1,hi1.fb b (hi1.glb b o h).1,(hi1.glb b o h).2⟩
  have back:∀st2 a2 w2,Inv P (C2 qs).np w1 F1 (fun b=>∃t,S1 t b) st2 a2 w2->Inv P C1.np w F none' st2 a2 w2:=by
   rintro st2 a2 w2 ⟨F2,S2,k⟩
   have h0:=hi1.size
   refine⟨F2,S2,k.os.trans hi1.os,k.tape.trans hi1.tape,k.output.trans hi1.output,Nat.le_trans h0 k.size,?_,k.fb,fun b hb=>k.f0 b (hi1.f0 b hb),?_,?_,k.sd,k.ent,k.defers,?_⟩
   ·intro b hb hn
    rw[k.block b (by omega) ?_]
    ·exact hi1.block b hb hn
    ·rintro⟨t,ht⟩
     rcases (hi1.sb t b ht).1 with h|h
     ·omega
     ·exact h
   ·intro b g1 g2
    by_cases hFb:F1 b
    ·exact hi1.fn b hFb g2
    ·rcases k.fn b g1 hFb with g|⟨t,g⟩
     ·exact .inl (by omega)
     ·exact(hi1.sb t b g).1
   ·intro t b g
    refine⟨?_,(k.sb t b g).2⟩
    rcases (k.sb t b g).1 with g'|⟨u,g'⟩
    ·exact .inl (by omega)
    ·exact(hi1.sb u b g').1
   ·have e5:(C2 qs).np.n=C1.np.n:=by rw[hnp,e1]
    exact⟨k.slots.size.trans e5,(fun s h=>by rw[e3]at h;cases h),hi1.slots.gl,fun z hz=>by rw[e4]at hz;cases hz⟩
  refine oC (hC2 qs) (hstp2 qs) h5 ⟨F1,S1,hi2⟩ ?_ (fun _ _ _ _ h=>h.elim) ?_
  ·intro st2 a2 w2 hq hi;exact hend true st2 a2 w2 hq (back _ _ _ hi)
  ·intro st2 a2 w2 hq hi;exact hend false st2 a2 w2 hq (back _ _ _ hi)
 ·cases h
end
end Go.Lf
namespace Sp
noncomputable section
def dU(u:Uni)(s:Code×List Int)(b:Int):Code×List Int:=if oR u s.1 b=true then s else if(atC s.1 b).2.1=true then((atC s.1 b).1,s.2++[b])else s
def bW(u:Uni)(s:Code×List Int):Nat->Code×List Int
 |0=>s
 |i+1=>dU u (bW u s i) (((cB s.1).length:Int)-1-(i:Int))
def bT(u:Uni)(s:Code×List Int):Nat->Code×List Int
 |0=>s
 |n+1=>bW u (bT u s n) (cB s.1).length
def cN(c:Code)(u:Uni)(n:Nat):Code:=(bT u (c,[]) n).1
def xN(c:Code)(u:Uni)(n:Nat):List Int:=(bT u (c,[]) n).2
def bN(c:Code)(u:Uni):Nat->Int
 |0=> -1
 |n+1=>((xN c u n).length:Int)
def cI(c:Code)(u:Uni)(n i:Nat):Code:=(bW u (bT u (c,[]) n) i).1
def xI(c:Code)(u:Uni)(n i:Nat):List Int:=(bW u (bT u (c,[]) n) i).2
def iY(c:Code)(u:Uni):Code:=cN c u ((cB c).length+2)
def gD(c:Code)(u:Uni):List Int:=xN c u ((cB c).length+2)
def okR(c:Code):Prop:=∀b,b<(cB c).length->(trm c b).2.2.2.1.1=2->0<=(trm c b).2.2.2.1.2.1
end
end Sp
namespace Go.User
open Go.Lf
noncomputable section
abbrev mCnv:Md:= .pair (.own .shr) .shr
def S25:bD:={args:=[.val bF,.val gH],multi:=true,res:= .prod bF (.prod jB .unit),mode:= .shr,pre:=fun x=>Sp.okA x.1/\Sp.okR x.1/\List.length (Sp.cB x.1)<=List.length x.2.1.1,fn:=fun x=>(Sp.iY x.1 x.2.1,(Sp.gD x.1 x.2.1,()),())}
def C25:Ctx:={mkC 48 [(29,S29),(48,S48)]with mds:=[(4,.shr),(5,.shr),(6,mCnv),(10,.shr)]}
def C25a:Ctx:=C25
def C25b(qs:List Nat):Ctx:={C25 with ps:=psZ [2,3] qs}
def I25(x:aH S25.args):aW:={ι:=Nat,inv:=fun n=>n<=List.length (Sp.cB x.1)+2,dec:=fun n=>List.length (Sp.cB x.1)+3-n,ovr:=fun n=>[(2,.box bF .shr (Sp.cN x.1 x.2.1 n)),(6,.box jB mCnv (Sp.xN x.1 x.2.1 n,())),(8,.shr tI (Sp.bN x.1 x.2.1 n))],keep:=[3,4,5,7]}
def J25(x:aH S25.args)(n:Nat):aW:={ι:=Nat,inv:=fun i=>i<=List.length (Sp.cB x.1),dec:=fun i=>List.length (Sp.cB x.1)+1-i,ovr:=fun i=>[(2,.box bF .shr (Sp.cI x.1 x.2.1 n i)),(6,.box jB mCnv (Sp.xI x.1 x.2.1 n i,())),(9,.shr tI ((List.length (Sp.cB x.1):Int)-1-(i:Int)))],keep:=[3,4,5,7,8]}
def M25:Kap (aH S25.args) where
 n:=2
 ss:=[2,3]
 KA:=fun x=>[.i [],.i []]
 KR:=fun x qs=>
  let t2:KT:= .s (.i []) (.s (.b (.i [])) (.i []))
  let t1 (n:Nat):KT:= .s (.i []) (.b (.s (.i []) (.s (.i []) (.b (.l (J25 x n) fun _=>t2)))))
  [.i [],.s (.i []) (.b (.l (I25 x) fun n=>t1 n)),.z 6 [],.i []]
end
end Go.User
namespace Sp
noncomputable section
def nt(l:List Bool):Nat:=(l.filter (fun x=>x)).length
def Cl(c:Code)(out:List Bool):Prop:=∀b,b<(cB c).length->out.getD b false=true->∀t∈aR (trm c b),out.getD t.toNat false=true
structure RO(c:Code)(n:Nat)(out:List Bool):Prop where
 le:n<=(cB c).length
 len:out.length=(cB c).length
 sd:∀b,out.getD b false=true->Rch c b
 z:out.getD 0 false=true
 cp:Cl c out∨n+1<=nt out
structure RP(c:Code)(o:List Bool)(b:Nat)(out:List Bool):Prop where
 le:b<=(cB c).length
 len:out.length=(cB c).length
 sd:∀b,out.getD b false=true->Rch c b
 z:out.getD 0 false=true
 a:Cl c o->out=o
 m:out=o∨nt o<nt out
 k:out=o->∀b',b'<b->out.getD b' false=true->∀t∈aR (trm c b'),out.getD t.toNat false=true
structure RQ(c:Code)(o:List Bool)(b i:Nat)(out:List Bool):Prop extends RP c o b out where
 il:i<=(aR (trm c b)).length
 d:out=o->out.getD b false=true->∀t∈(aR (trm c b)).take i,out.getD t.toNat false=true
def qJ(c:Code)(a:Int)(k:Nat):List Int:=((List.range k).filter (fun i=>gI c i&&decide (a∈aR (trm c i)))).map (fun i:Nat=>(i:Int))
def pL(c:Code)(a:Int):List Int:=qJ c a (cB c).length
def fL(c:Code)(b a:Int):Bool:=decide (a≠b)&&(decide (a≠0)&&(decide (pL c a=[b])&&(decide ((ins c a.toNat).length<=8)&&(decide ((trm c a.toNat).1=1)&& !((ins c a.toNat).any fun i=> !gA i)))))
def mV(c:Code)(b:Int):Int:=to0 (trm c (to0 (trm c b.toNat)).toNat)
def p9(c:Code)(b:Int):Int:=to0 (trm c (to1 (trm c b.toNat)).toNat)
def vY(c:Code)(b:Int):Pln:=
 if gI c b.toNat=false∨(trm c b.toNat).1≠2∨to0 (trm c b.toNat)=to1 (trm c b.toNat)then(false,[false,false],0,())
 else if fL c b (to0 (trm c b.toNat))=true/\fL c b (to1 (trm c b.toNat))=true/\mV c b=p9 c b then(decide (mV c b≠b),[fL c b (to0 (trm c b.toNat)),fL c b (to1 (trm c b.toNat))],mV c b,())
 else if fL c b (to0 (trm c b.toNat))=true/\mV c b=to1 (trm c b.toNat)/\mV c b≠b then(true,[true,false],mV c b,())
 else if fL c b (to1 (trm c b.toNat))=true/\p9 c b=to0 (trm c b.toNat)/\p9 c b≠b then(true,[false,true],p9 c b,())
 else(false,[false,false],0,())
def rnN(n:List Int)(o:Opd):Opd:=if o.1=2/\0<=n.getD o.2.1.toNat 0 then bK (n.getD o.2.1.toNat 0)else o
def nmL(m:Nm)(n:Int):List Int:=(List.range n.toNat).map (fun r:Nat=>(m (r:Int)).getD (-1))
def oT(n:Int)(o:Opd):Prop:=o.1=2->0<=o.2.1/\o.2.1<n
structure inOK(n:Int)(i:Inst):Prop where
 d:0<=iD i/\iD i<n
 a:oT n i.2.2.2.2.1
 b:oT n i.2.2.2.2.2.1
 c:oT n i.2.2.2.2.2.2.1
def cpK(l:List Inst)(old n:Int)(k:Nat):Cpd:=(cpL (l.take k) n nm0,n+(k:Int),nmL (cpN (l.take k) n nm0) old,())
def cpd(l:List Inst)(old n:Int):Cpd:=cpK l old n l.length
end
end Sp
namespace Go.User
open Go.Lf
noncomputable section
def S110:bD:={args:=[.val oV],multi:=false,res:= .slice tI,mode:= .own .shr,pre:=fun x=>List.length x.1.2.2.2.2.2.1=2,fn:=fun x=>Sp.aR x.1}
def C110:Ctx:={mkC 30 []with mds:=[(6,.own .shr),(25,.own .shr),(29,.own .shr),(2,.own .shr)]}
def L110(x:aH S110.args):List aW:=[]
def S92:bD:={args:=[.val bF],multi:=false,res:= .slice .bool,mode:= .own .shr,pre:=fun x=>Sp.okT x.1,fn:=fun x=>Sp.eP x.1}
def C92:Ctx:={mkC 54 [(110,S110)]with mds:=[(11,.own .shr),(3,.own .shr),(34,.own .shr),(6,.own .shr)]}
def A92(x:aH S92.args):aW:={ι:=Nat×List Bool,inv:=fun s=>Sp.RO x.1 s.1 s.2,dec:=fun s=>List.length (Sp.cB x.1)-s.1,ovr:=fun s=>[(3,.own (.slice .bool) (.own .shr) s.2),(4,.shr tI (s.1:Int))],keep:=[1]}
def B92(x:aH S92.args)(o:List Bool):aW:={ι:=Nat×List Bool,inv:=fun s=>Sp.RP x.1 o s.1 s.2,dec:=fun s=>List.length (Sp.cB x.1)-s.1,ovr:=fun s=>[(3,.own (.slice .bool) (.own .shr) s.2),(5,.shr tI (s.1:Int))],keep:=[1,4]}
def D92(x:aH S92.args)(o:List Bool)(b:Nat):aW:={ι:=Nat×List Bool,inv:=fun s=>Sp.RQ x.1 o b s.1 s.2,dec:=fun s=>List.length (Sp.aR (Sp.trm x.1 b))-s.1,ovr:=fun s=>[(3,.own (.slice .bool) (.own .shr) s.2),(7,.shr tI (s.1:Int))],keep:=[1,4,5,6]}
def T92(x:aH S92.args):KT:=
 let t3 (o:List Bool) (b:Nat):KT:= .b (.i [D92 x o b])
 let t2 (o:List Bool):KT:= .b (.l (B92 x o) fun s=> .s (.i []) (.s (.b (.s (.i []) (.s (.i []) (t3 o s.1)))) (.i [])))
 let t1:KT:= .b (.l (A92 x) fun s=> .s (.i []) (.s (.b (.s (.i []) (t2 s.2))) (.i [])))
 .s (.i []) (.s (.i []) (.s (.i []) (.s (.s (.i []) t1) (.i []))))
def S111:bD:={args:=[.val bF,.val tI],multi:=false,res:= .slice tI,mode:= .own .shr,pre:=fun x=>Sp.okT x.1,fn:=fun x=>Sp.pL x.1 x.2.1}
def C111:Ctx:={mkC 38 [(92,S92),(110,S110),(119,S119)]with mds:=[(9,.own .shr),(5,.own .shr),(10,.own .shr),(6,.own .shr),(36,.own .shr)],frz:=[29]}
def L111(x:aH S111.args):List aW:=[
 {ι:=Nat,inv:=fun i=>i<=List.length (Sp.cB x.1),dec:=fun i=>List.length (Sp.cB x.1)-i,ovr:=fun i=>[(6,.own (.slice tI) (.own .shr) (Sp.qJ x.1 x.2.1 i)),(7,.shr tI (i:Int))],keep:=[1,2,5]}]
def S47:bD:={args:=[.val aC],multi:=false,res:= .bool,mode:= .shr,pre:=fun _=>True,fn:=fun x=>Sp.gA x.1}
def C47:Ctx:=mkC 11 []
def L47(x:aH S47.args):List aW:=[]
def S93:bD:={args:=[.val bF,.val tI,.val tI],multi:=false,res:= .bool,mode:= .shr,pre:=fun x=>Sp.okT x.1/\0<=x.2.2.1/\x.2.2.1<(List.length (Sp.cB x.1):Int),fn:=fun x=>Sp.fL x.1 x.2.1 x.2.2.1}
def C93:Ctx:={mkC 73 [(111,S111),(47,S47)]with mds:=[(11,.own .shr),(7,.own .shr)]}
def L93(x:aH S93.args):List aW:=[
 {ι:=Nat,inv:=fun i=>i<=List.length (Sp.ins x.1 x.2.2.1.toNat)/\∀j,j<i->Sp.gA ((Sp.ins x.1 x.2.2.1.toNat).getD j cZ)=true,dec:=fun i=>List.length (Sp.ins x.1 x.2.2.1.toNat)-i,ovr:=fun i=>[(8,.shr tI (i:Int))],keep:=[1,2,3]}]
def S66:bD:={args:=[.val bF,.val tI],multi:=false,res:=tPln,mode:= .shr,pre:=fun x=>Sp.okT x.1/\0<=x.2.1/\x.2.1<(List.length (Sp.cB x.1):Int),fn:=fun x=>Sp.vY x.1 x.2.1}
def C66:Ctx:={mkC 129 [(92,S92),(93,S93)]with mds:=[(4,.shr),(5,.shr),(7,.shr),(17,.own .shr),(6,.own .shr)]}
def L66(x:aH S66.args):List aW:=[]
def S68:bD:={args:=[.val (.slice tI),.val aM],multi:=false,res:=aM,mode:= .shr,pre:=fun x=>x.2.1.1=2->0<=x.2.1.2.1/\x.2.1.2.1<(List.length x.1:Int),fn:=fun x=>Sp.rnN x.1 x.2.1}
def C68:Ctx:={mkC 23 [(17,S17)]with mds:=[(4,.shr)]}
def L68(x:aH S68.args):List aW:=[]
abbrev mCpd:Md:= .pair (.own .shr) (.pair .shr (.pair (.own .shr) .shr))
def S67:bD:={args:=[.val (.slice aC),.val tI,.val tI],multi:=false,res:=qU,mode:= .shr,pre:=fun x=>List.length x.1<=3000/\(0<=x.2.1/\x.2.1<=3000)/\(0<=x.2.2.1/\x.2.2.1<=100000)/\∀i∈x.1,Sp.inOK x.2.1 i,fn:=fun x=>Sp.cpd x.1 x.2.1 x.2.2.1}
def C67:Ctx:={mkC 77 [(17,S17),(68,S68)]with mds:=[(6,.shr),(7,mCpd),(10,.shr)]}
def A67(x:aH S67.args):aW:={ι:=Nat,inv:=fun r=>(r:Int)<=x.2.1,dec:=fun r=>x.2.1.toNat-r,ovr:=fun r=>[(7,.box qU mCpd ([],x.2.2.1,List.replicate r (-1),())),(8,.shr tI (r:Int))],keep:=[0,1,2,6]}
def B67(x:aH S67.args):aW:={ι:=Nat,inv:=fun k=>k<=List.length x.1,dec:=fun k=>List.length x.1-k,ovr:=fun k=>[(7,.box qU mCpd (Sp.cpK x.1 x.2.1 x.2.2.1 k)),(9,.shr tI (k:Int))],keep:=[0,1,2,6]}
def T67(x:aH S67.args):KT:= .s (.i []) (.s (.i []) (.s (.i [A67 x]) (.s (.i [B67 x]) (.z 7 []))))
def S69:bD:={args:=[.val bF],multi:=false,res:=tI,mode:= .shr,pre:=fun x=>List.length (Sp.cB x.1)<=10000/\∀b∈Sp.cB x.1,List.length b.1<=20000,fn:=fun x=>Sp.gF (Sp.cB x.1)}
def C69:Ctx:=mkC 22 []
def L69(x:aH S69.args):List aW:=[
 {ι:=Nat,inv:=fun k=>k<=List.length (Sp.cB x.1),dec:=fun k=>List.length (Sp.cB x.1)-k,ovr:=fun k=>[(3,.shr tI (Sp.gF ((Sp.cB x.1).take k))),(4,.shr tI (k:Int))],keep:=[0,1,2]}]
end
end Go.User
