/- The maker of codes: what its methods compute. -/
import Derived.Test.YtagdgckmikcllaaLfg
import Derived.OpenShut
import Derived.KernelRfl
import Derived.Test.YtagdgckmikcllaaProg
import Derived.Test.YtagdgckmikcllaaRows
set_option linter.unusedVariables false
set_option linter.unusedSimpArgs false
namespace Go.Lf
open Go.ChangeShapes Go.WideShapes Go.ChangeAt Go.RowKit
def tyM(P:Program):Ty->(TypeId->Bool)×(List Field->Nat->Bool)
 | .int k=>(fun t=>match P.underlying t with|some (.int k')=>decide (k'=k)|_=>false,fun _ _=>false)
 | .bool=>(fun t=>match P.underlying t with|some .bool=>true|_=>false,fun _ _=>false)
 | .str=>(fun t=>match P.underlying t with|some .string=>true|_=>false,fun _ _=>false)
 | .unit=>(fun t=>match P.underlying t with|some (.struct fs)=>decide (P.cellsOf t=0)&&fs.toList.isEmpty|_=>false,fun fs _=>fs.isEmpty)
 | .prod a b=>(fun t=>match P.underlying t with
   |some (.struct fs)=>decide (P.cellsOf t=a.size+b.size)&&(match fs.toList with
    | []=>false
    |f::fs=>decide (f.offset=0)&&decide (P.cellsOf f.type=a.size)&&(tyM P a).1 f.type&&(tyM P b).2 fs (0+a.size))
   |_=>false,
  fun fs off=>match fs with
   | []=>false
   |f::fs=>decide (f.offset=off)&&decide (P.cellsOf f.type=a.size)&&(tyM P a).1 f.type&&(tyM P b).2 fs (off+a.size))
 | .slice e=>(fun t=>match P.underlying t with
   |some (.slice u)=>decide (P.cellsOf u=e.size)&&decide (0<e.size)&&decide (0<P.bytesOf u)&&(tyM P e).1 u
   |_=>false,fun _ _=>false)
 | .arr n e=>(fun t=>match P.underlying t with
   |some (.array n' u)=>decide (n'=n)&&decide (P.cellsOf t=n*e.size)&&decide (P.cellsOf u=e.size)&&(tyM P e).1 u
   |_=>false,fun _ _=>false)
 | .abs _=>(fun _=>false,fun _ _=>false)
section
variable {P:Program} {H:Type} {enc:TypeId×Value->H} {W:World}
theorem yK:∀ {ds:List (DataW H)} {e:TypeId} {i:Nat} {d:DataW H},ds[i]? =some d->∀n∈d.weights P e,n∈DataW.weightsAll P e ds
 | [],_,_,_,h,_,_=>by simp at h
 |d0::ds,e,0,d,h,n,hn=>by
  simp only[List.getElem?_cons_zero,Option.some.injEq]at h;subst h;simp only[DataW.weightsAll,List.mem_append];exact .inl hn
 |d0::ds,e,i+1,d,h,n,hn=>by
  simp only[List.getElem?_cons_succ]at h;simp only[DataW.weightsAll,List.mem_append];exact .inr (yK h n hn)
abbrev FW(W:World):aA:=fun b=>b<W.heap.size
theorem iZ:∀(τ:Ty),
  (∀(t:TypeId) (fuel:Nat) (cs:List Value) (x:DataW H×List MemPlace),(tyM P τ).1 t=true->DataW.trod enc P W 0 (fun _=>true) true fuel t cs=some x->
   (∀n∈x.1.weights P t,n<=reachBytes)->(∀p∈x.2,p.block<W.heap.size)->∃v:τ.den,Own (FW W) W τ .shr none' cs v)/\
  (∀(fs:List Field) (off:Nat) (cs:List Value),(tyM P τ).2 fs off=true->
   (∀f∈fs,∃(fuel:Nat) (x:DataW H×List MemPlace),DataW.trod enc P W 0 (fun _=>true) true fuel f.type ((cs.drop f.offset).take (P.cellsOf f.type))=some x/\(∀n∈x.1.weights P f.type,n<=reachBytes)/\(∀p∈x.2,p.block<W.heap.size))->
   ∃v:τ.den,Own (FW W) W τ .shr none' ((cs.drop off).take τ.size) v)
 | .int k=>by
  refine⟨fun t fuel cs x ht h _ _=> ?_,fun fs off cs h=>by simp[tyM]at h⟩
  simp only[tyM]at ht;split at ht
  ·rename_i k' hu
   have:=of_decide_eq_true ht
   subst this;obtain⟨n,rfl,_,hw⟩:=DataW.trod_int hu h;simp only[Lit.wf,Bool.and_eq_true,decide_eq_true_eq]at hw;exact⟨n,rfl,hw.1,hw.2⟩
  ·cases ht
 | .bool=>by
  refine⟨fun t fuel cs x ht h _ _=> ?_,fun fs off cs h=>by simp[tyM]at h⟩
  simp only[tyM]at ht;split at ht
  ·rename_i hu
   obtain⟨b,rfl,_⟩:=DataW.trod_bool hu h;exact⟨b,rfl⟩
  ·cases ht
 | .str=>by
  refine⟨fun t fuel cs x ht h hw _=> ?_,fun fs off cs h=>by simp[tyM]at h⟩
  simp only[tyM]at ht;split at ht
  ·rename_i hu
   obtain⟨s,rfl,rfl,_⟩:=DataW.trod_string hu h;have:=hw s.data.toList.length (by simp[DataW.weights]);refine⟨s.data.toList,?_,?_⟩
   ·simp
   ·simp only[reachBytes]at this
    unfold lim;omega
  ·cases ht
 | .unit=>by
  refine⟨fun t fuel cs x ht h _ _=> ?_,fun fs off cs h _=>⟨(),by simp[Own,Ty.size]⟩⟩
  simp only[tyM]at ht;split at ht
  ·rename_i fs hu
   rw[Bool.and_eq_true]at ht;have hc:=of_decide_eq_true ht.1;obtain⟨xs,k,_,_,hl,_,_⟩:=DataW.trod_struct hu h;refine⟨(),?_⟩;show cs=[];exact List.eq_nil_of_length_eq_zero (by omega)
  ·cases ht
 | .prod a b=>by
  have hF:∀(fs:List Field) (off:Nat) (cs:List Value),(tyM P (.prod a b)).2 fs off=true->
   (∀f∈fs,∃(fuel:Nat) (x:DataW H×List MemPlace),DataW.trod enc P W 0 (fun _=>true) true fuel f.type ((cs.drop f.offset).take (P.cellsOf f.type))=some x/\(∀n∈x.1.weights P f.type,n<=reachBytes)/\(∀p∈x.2,p.block<W.heap.size))->
   ∃v:(Ty.prod a b).den,Own (FW W) W (.prod a b) .shr none' ((cs.drop off).take (Ty.prod a b).size) v:=by
   intro fs off cs h hx;simp only[tyM]at h
   match fs,h,hx with
   |f::fs,h,hx=>
    simp only[Bool.and_eq_true,decide_eq_true_eq]at h;obtain⟨⟨⟨h1,h2⟩,h3⟩,h4⟩:=h;obtain⟨fuel,x,g1,g2,g3⟩:=hx f (by simp);rw[h1,h2]at g1;obtain⟨v1,hv1⟩:=(iZ a).1 _ _ _ _ h3 g1 g2 g3;obtain⟨v2,hv2⟩:=(iZ b).2 _ _ cs h4 (fun g hg=>hx g (by simp[hg]))
    refine⟨(v1,v2),(cs.drop off).take a.size,(cs.drop (off+a.size)).take b.size,none',none',?_,fun _ h=>h,fun _ h=>h,fun _ h _=>h,hv1,hv2⟩
    rw[<-List.drop_drop,<-List.take_add]
    rfl
  refine⟨fun t fuel cs x ht h hw hp=> ?_,hF⟩
  have ht0:=ht
  simp only[tyM]at ht;split at ht
  ·rename_i fs hu
   rw[Bool.and_eq_true]at ht;have hc:=of_decide_eq_true ht.1;obtain⟨xs,k,_,rfl,hl,hxl,hfl⟩:=DataW.trod_struct hu h;have:=hF fs.toList 0 cs (by simpa only[tyM]using ht.2) (fun f hf=>by
    obtain⟨i,hi⟩:=List.getElem?_of_mem hf;have hx:=hfl i f (by simpa using hi);have hil:i<xs.length:=by
     have:i<fs.toList.length:=by
      rcases Nat.lt_or_ge i fs.toList.length with h|h
      ·exact h
      ·rw[List.getElem?_eq_none h]at hi;cases hi
     simp only[Array.length_toList]at this;omega
    rw[List.getElem?_eq_getElem hil]at hx;refine⟨k,_,hx,fun n hn=>hw n ?_,fun p hp'=>hp p ?_⟩
    ·simp only[DataW.weights,hu]
     exact DataW.weights_mem_each (j:=i) (t:=f.type) (d:=(xs[i]).1) (by simp[hi]) (by simp[List.getElem?_eq_getElem hil]) n hn
    ·exact List.mem_flatMap.2 ⟨_,List.getElem_mem hil,hp'⟩)
   rw[List.drop_zero,List.take_of_length_le (by rw[hl,hc];exact Nat.le_refl _)]at this;exact this
  ·cases ht
 | .slice e=>by
  refine⟨fun t fuel cs x ht h hw hlt=> ?_,fun fs off cs h=>by simp[tyM]at h⟩
  simp only[tyM]at ht;split at ht
  ·rename_i u hu
   simp only[Bool.and_eq_true,decide_eq_true_eq]at ht;obtain⟨⟨⟨hc,hpos⟩,hby⟩,he⟩:=ht;rcases Deep.open_slice hu h with⟨rfl,_⟩|⟨a,len,m,m',n,D,Pl,rfl,_,hl,hm,hmm,rfl,hel⟩
   ·exact⟨[],none,0,rfl,Nat.le_refl _,Nat.zero_le _,.inl rfl⟩
   ·simp only[if_true]at hmm
    subst hmm;have hlim:len<=lim:=by
     have:=hw ((((List.range len).map D).length+((List.range (m'-len)).map fun j=>D (len+j)).length)*P.bytesOf u) (by simp[DataW.weights,hu])
     simp only[List.length_map,List.length_range]at this;have h3:len<=(len+(m'-len))*P.bytesOf u:=Nat.le_trans (by omega) (Nat.le_mul_of_pos_right _ hby);have h4:reachBytes<=lim:=by unfold lim;decide
     omega
    by_cases hl0:len=0
    ·subst hl0
     exact⟨[],some a,m',rfl,by simp,by simp,.inl rfl⟩
    ·have each:∀i,i<len->∃x:e.den,∃cs',W.cells? 0 (a.add (i*P.cellsOf u)) (P.cellsOf u)=some cs'/\Own (FW W) W e .shr none' cs' x:=by
      intro i hi;obtain⟨cs',h1,h2⟩:=hel i (by omega);obtain⟨v,hv⟩:=(iZ e).1 u n cs' _ he h2 (fun k hk=>hw k (by
        simp only[DataW.weights,hu];refine List.mem_cons_of_mem _ (List.mem_append_left _ (yK (i:=i) (d:=D i) (by simp[hi]) k hk)))) (fun p hp=>hlt p (List.mem_append_right _ (List.mem_flatMap.2 ⟨i,by simp;omega,hp⟩)))
      exact⟨v,cs',h1,hv⟩
     haveI:Inhabited e.den:=⟨e.dflt⟩
     obtain⟨g,hg⟩:=Deep.choose_lt each;obtain⟨b,off,spot⟩:=a;have cells:∀i,i<len->∀j,j<P.cellsOf u->∃cs',W.cells? 0 ((⟨b,off,spot⟩:Addr).add (i*P.cellsOf u)) (P.cellsOf u)=some cs'/\W.cell? ((⟨b,off,spot⟩:Addr).add (i*P.cellsOf u+j))=cs'[j]? /\Own (FW W) W e .shr none' cs' (g i):=by
      intro i hi j hj;obtain⟨cs',h1,h2⟩:=hg i hi;obtain⟨_,hlen,hcell⟩:=World.cells?_some h1;have:=hcell j hj;rw[Deep.add_add]at this;exact⟨cs',h1,this,h2⟩
     obtain⟨cs0,h00,h0,_⟩:=cells 0 (by omega) 0 (by omega);obtain⟨_,hlen0,_⟩:=World.cells?_some h00;have h0':W.cell? ((⟨b,off,spot⟩:Addr).add 0)=some (cs0[0]'(by omega)):=by
      rw[List.getElem?_eq_getElem (by omega)]at h0
      simpa using h0
     have hspot:spot=none:=by simpa[Addr.add]using World.cell?_spot h0'
     subst hspot;have hb:b<W.heap.size:=hlt (.cell b off) (List.mem_append_left _ (MemPlace.mem_row.2 ⟨0,Nat.mul_pos (by omega) (by omega),by simp⟩))
     rw[kT]at h0';simp only[World.cell?]at h0';split at h0'
     ·rename_i row T fr hr
      have hcl:∀i,i<len->∃cs',cs'.length=P.cellsOf u/\(∀j,j<P.cellsOf u->row[off+(i*P.cellsOf u+j)]? =cs'[j]?)/\Own (FW W) W e .shr none' cs' (g i):=by
       intro i hi;obtain⟨cs',h1,h2⟩:=hg i hi;obtain⟨_,hlen,hcell⟩:=World.cells?_some h1;refine⟨cs',hlen,fun j hj=> ?_,h2⟩
       have:=hcell j hj
       rw[Deep.add_add,kT]at this
       simpa[World.cell?,hr]using this
      refine⟨(List.range len).map g,some ⟨b,off,none⟩,m',by simp,by simpa using hl,by simpa using hlim,.inr ⟨b,off,row,T,fr,rfl,hb,hr,?_,?_⟩⟩
      ·obtain⟨cs',hlen,hcell,_⟩:=hcl (len-1) (by omega)
       have:=hcell (P.cellsOf u-1) (by omega)
       rw[List.getElem?_eq_getElem (by omega)]at this;have h1:off+((len-1)*P.cellsOf u+(P.cellsOf u-1))<row.size:=by
        rcases Nat.lt_or_ge (off+((len-1)*P.cellsOf u+(P.cellsOf u-1))) row.size with h|h
        ·exact h
        ·rw[Array.getElem?_eq_none h]at this;cases this
       have h2:(len-1)*P.cellsOf u+P.cellsOf u=len*P.cellsOf u:=by
        rw[<-Nat.succ_mul];congr 1;omega
       simp only[List.length_map,List.length_range];rw[<-hc];omega
      ·intro i x hx
       have hi:i<len:=by
        rcases Nat.lt_or_ge i len with h|h
        ·exact h
        ·rw[List.getElem?_eq_none (by simpa using h)]at hx;cases hx
       have hxg:g i=x:=by simpa[hi]using hx
       obtain⟨cs',hlen,hcell,hown⟩:=hcl i hi;rw[hxg]at hown;have:seg row.toList (off+i*e.size) e.size=cs':=by
        rw[<-hc]
        apply List.ext_getElem?
        intro j;unfold seg;rw[List.getElem?_take];split
        ·rename_i hj
         rw[List.getElem?_drop,Array.getElem?_toList,Nat.add_assoc];exact hcell j hj
        ·rw[List.getElem?_eq_none (by omega)]
       rw[this];exact hown
     ·cases h0'
  ·cases ht
 | .arr n e=>by
  refine⟨fun t fuel cs x ht h hw hlt=> ?_,fun fs off cs h=>by simp[tyM]at h⟩
  simp only[tyM]at ht;split at ht
  ·rename_i n' u hu
   simp only[Bool.and_eq_true,decide_eq_true_eq]at ht;obtain⟨⟨⟨rfl,hct⟩,hc⟩,he⟩:=ht;obtain⟨xs,m,_,rfl,hl,hxl,hel⟩:=DataW.trod_array hu h;have each:∀i,i<n'->∃x:e.den,Own (FW W) W e .shr none' (seg cs (i*e.size) e.size) x:=by
    intro i hi;have h2:=hel i hi;rw[List.getElem?_eq_getElem (by omega),hc]at h2;exact(iZ e).1 u m _ _ he h2 (fun k hk=>hw k (by
     simp only[DataW.weights,hu];exact yK (i:=i) (d:=(xs[i]'(by omega)).1) (by simp[List.getElem?_eq_getElem (show i<xs.length by omega)]) k hk)) (fun p hp=>hlt p (List.mem_flatMap.2 ⟨_,List.getElem_mem (by omega),hp⟩))
   haveI:Inhabited e.den:=⟨e.dflt⟩
   obtain⟨g,hg⟩:=Deep.choose_lt each;refine⟨(List.range n').map g,by simp,by rw[hl,hct],fun _=>none',fun _ _ h=>h,fun _ _ _ _ h _=>h,fun i x hx=> ?_⟩
   have hi:i<n':=by
    rcases Nat.lt_or_ge i n' with h|h
    ·exact h
    ·rw[List.getElem?_eq_none (by simpa using h)]at hx;cases hx
   have hxg:g i=x:=by simpa[hi]using hx
   rw[<-hxg];exact hg i hi
  ·cases ht
 | .abs _=>⟨fun t fuel cs x ht=>by simp[tyM]at ht,fun fs off cs h=>by simp[tyM]at h⟩
theorem arg_of{base:Nat}{τ:Ty}{t:TypeId}{v:Value}{d:DataW H}{p:List MemPlace}(hm:(tyM P τ).1 t=true)
  (hval:Value.okWide P W .any base t v) (h:DataW.Trod enc P W 0 (fun _=>true) true t v d p) (hlt:∀x∈p,x.block<W.heap.size) (hsz:∀n∈d.weights P t,n<=reachBytes):
  ∃x:τ.den,aT (fun b=>b<W.heap.size) W τ .shr none' v x:=by
 obtain⟨fuel,hf⟩:=h
 obtain⟨x,hx⟩:=(iZ τ).1 t fuel _ _ hm hf hsz hlt
 refine⟨x,v.cells.toList,?_,hx⟩
 unfold bH
 have one:(∀cs,v≠ .agg cs)->v=v.cells.toList.headD undef:=by
  intro hn;cases v<;>first|rfl|exact absurd rfl (hn _)
 have agg:(∃cs,v= .agg cs)->v= .agg v.cells.toList.toArray:=by
  rintro⟨cs,rfl⟩;rfl
 match τ,hm with
 | .int k,hm=> 
  rw[if_neg (by simp[Ty.isAgg])];simp only[tyM]at hm;split at hm
  ·rename_i k' hu
   obtain⟨n,rfl⟩:=okWide_int hu hval
   rfl
  ·cases hm
 | .bool,hm=> 
  rw[if_neg (by simp[Ty.isAgg])];simp only[tyM]at hm;split at hm
  ·rename_i hu
   obtain⟨n,rfl⟩:=okWide_bool hu hval
   rfl
  ·cases hm
 | .str,hm=> 
  rw[if_neg (by simp[Ty.isAgg])];simp only[tyM]at hm;split at hm
  ·rename_i hu
   refine one fun cs e=> ?_
   subst e;simp[Value.okWide,hu,Cell.okWide,Cell.ok]at hval
  ·cases hm
 | .slice e,hm=> 
  rw[if_neg (by simp[Ty.isAgg])];simp only[tyM]at hm;split at hm
  ·rename_i hu
   obtain⟨a1,len,cap,rfl⟩:=okWide_slice hu hval
   rfl
  ·cases hm
 | .unit,hm=> 
  rw[if_pos (by simp[Ty.isAgg])];simp only[tyM]at hm;split at hm
  ·rename_i hu
   simp only[Value.okWide,hu]at hval;exact agg (by obtain⟨cs,h,_⟩:=hval;exact⟨cs,h⟩)
  ·cases hm
 | .prod a b,hm=> 
  rw[if_pos (by simp[Ty.isAgg])];simp only[tyM]at hm;split at hm
  ·rename_i hu
   simp only[Value.okWide,hu]at hval;exact agg (by obtain⟨cs,h,_⟩:=hval;exact⟨cs,h⟩)
  ·cases hm
 | .arr n e,hm=> 
  rw[if_pos (by simp[Ty.isAgg])];simp only[tyM]at hm;split at hm
  ·rename_i hu
   simp only[Value.okWide,hu]at hval;exact agg (by obtain⟨cs,h,_⟩:=hval;exact⟨cs,h⟩)
  ·cases hm
theorem sz_of{ts:List TypeId}{ds:List (DataW H)}(hsz:(DataW.weightsEach P ts ds).all (· <=reachBytes)=true){j:Nat}{t:TypeId}(h1:ts[j]? =some t){d:DataW H}(h2:ds[j]? =some d):∀n∈d.weights P t,n<=reachBytes:=
 fun n hn=>by simpa using List.all_eq_true.1 hsz n (DataW.weights_mem_each h1 h2 n hn)
end
end Go.Lf
namespace Go.Lf

def pinB(C:Ctx)(r:Nat):Bool:=match C.pin with
 |some t=>Nat.beq t r
 |none=>true
def flatT:Ty->Bool
 | .prod a b=>a.flat&&b.flat
 |_=>false
def mkP(C:Ctx)(d:Nat)(s:dF)(z:s.res.den):Ent:=bif s.multi then(bif flatT s.res&&dO s.rm then .stup s.res z else .dead)else mkE C d s.res s.rm z

def jQ:cM->Bool
 | []=>true
 | .fst::p=>jQ p
 | .snd::p=>jQ p
 |_=>false
theorem qV{w w':World}:∀ {p:cM} {τ:Ty} {pl:aK},jQ p=true->loc w p τ pl=loc w' p τ pl
 | [],_,_,_=>rfl
 | .fst::p,.prod a b,pl,h=>qV (p:=p) (τ:=a) (pl:=pl.part 0 a.size) h
 | .snd::p,.prod a b,pl,h=>qV (p:=p) (τ:=b) (pl:=pl.part a.size b.size) h
 | .fst::_,.int _,_,_=>rfl
 | .fst::_,.bool,_,_=>rfl
 | .fst::_,.str,_,_=>rfl
 | .fst::_,.unit,_,_=>rfl
 | .fst::_,.slice _,_,_=>rfl
 | .fst::_,.arr _ _,_,_=>rfl
 | .fst::_,.abs _,_,_=>rfl
 | .snd::_,.int _,_,_=>rfl
 | .snd::_,.bool,_,_=>rfl
 | .snd::_,.str,_,_=>rfl
 | .snd::_,.unit,_,_=>rfl
 | .snd::_,.slice _,_,_=>rfl
 | .snd::_,.arr _ _,_,_=>rfl
 | .snd::_,.abs _,_,_=>rfl
 | .idx _::_,_,_,h=>by cases h
theorem lS:∀ {p:cM} {τ:Ty} {x x2:τ.den},jQ p=true->(aN p τ x).isSome=true->(aN p τ x2).isSome=true/\inR p τ x2
 | [],_,_,_,_,_=>⟨rfl,trivial⟩
 | .fst::p,.prod a b,x,x2,h,g=>lS (p:=p) (τ:=a) (x:=x.1) (x2:=x2.1) h g
 | .snd::p,.prod a b,x,x2,h,g=>lS (p:=p) (τ:=b) (x:=x.2) (x2:=x2.2) h g
 | .fst::_,.int _,_,_,_,g=>by cases g
 | .fst::_,.bool,_,_,_,g=>by cases g
 | .fst::_,.str,_,_,_,g=>by cases g
 | .fst::_,.unit,_,_,_,g=>by cases g
 | .fst::_,.slice _,_,_,_,g=>by cases g
 | .fst::_,.arr _ _,_,_,_,g=>by cases g
 | .fst::_,.abs _,_,_,_,g=>by cases g
 | .snd::_,.int _,_,_,_,g=>by cases g
 | .snd::_,.bool,_,_,_,g=>by cases g
 | .snd::_,.str,_,_,_,g=>by cases g
 | .snd::_,.unit,_,_,_,g=>by cases g
 | .snd::_,.slice _,_,_,_,g=>by cases g
 | .snd::_,.arr _ _,_,_,_,g=>by cases g
 | .snd::_,.abs _,_,_,_,g=>by cases g
 | .idx _::_,_,_,_,h,_=>by cases h

def restS(st:St)(r d:Nat)(st':St):St:=bif Nat.beq d r then st' else fun t=>match st t with
 | .addr r' p=>bif Nat.beq r' r&& !Nat.beq t d&& !Nat.beq t r&&jQ p then .addr r' p else st' t
 |_=>st' t

def ptrE(C:Ctx)(d:Nat)(st:St)(s:dF)(v:aP)(vs:List aP):Option (Prop×St):=
 match v.addr? with
 |some l=>match l.p with
  | []=>bif pinB C l.r&&(s.τ.flat||decide (l.m=s.m))then(match bY (τ:=l.τ) (σ:=s.τ) l.x,mT s.args vs with
   |some x,some (y,true)=>match bY (τ:=s.τ) (σ:=l.τ) (s.fn x y)with
    |some x'=>some (s.pre x y,restS st l.r d (put (upd (cV st l.r) l.r (dR (st l.r) l.τ l.m x')) d (mkP C d s (s.out x y))))
    |none=>none
   |_,_=>none)else none
  |_=>none
 |none=>none

def ptrC(C:Ctx)(st:St)(o:Oper)(q:Call):Option (Prop×St):=
 match q.callee,q.args.toList,o.dst with
 | .value (.func f),z::zs,some d=>match look C.ptrs f with
  |some s=>bif wrB C d then ptrE C d st s (bR st z) (zs.map (bR st))else none
  |none=>none
 |_,_,_=>none

def thkC(C:Ctx)(st:St)(o:Oper)(q:Call):Option (Prop×St):=
 match q.callee,q.args.toList,o.dst,C.thk,C.pin with
 | .value (.tmp t),[],some d,some ts,some s=>bif wrB C d then(match st t,st s with
  | .shr (.abs .thk) z,.box τ m x=>bif decide (m=ts.m)then(match bY (τ:=τ) (σ:=ts.τ) x with
   |some x1=>match bY (τ:=ts.τ) (σ:=τ) (ts.fn (Option.getD z (0,0,[])).2 x1)with
    |some x'=>some (Option.isSome z=true/\(Option.getD z (0,0,[])).1=C.q/\ts.pre (Option.getD z (0,0,[])).2 x1,restS st s d (put (upd (cV st s) s (dR (st s) τ m x')) d .dead))
    |none=>none
   |none=>none)else none
  |_,_=>none)else none
 |_,_,_,_,_=>none

def frz1(st:St):Operand->St
 | .tmp t=>match st t with
  | .box τ _ x=>upd (cV st t) t (.saddr τ x)
  |_=>st
 |_=>st
def frzL(st:St):List Operand->St
 | []=>st
 |z::l=>frzL (frz1 st z) l

def stpP(C:Ctx)(st:St)(o:Oper):Option (Prop×St):=
 match o.op with
 | .call q=>match ptrC C st o q with
  |some r=>some r
  |none=>match thkC C st o q with
   |some r=>some r
   |none=>stp C st o
 | .makeFunc _ _ caps=>lV C (frzL st caps.toList) o
 |_=>stp C st o

section
variable {P:Program} {C:Ctx} {N:NP} {w0:World} {F0 H:aA} {env:St} {a:Act} {w:World} {F:aA} {S:Nat->aA} {d:Nat}

theorem aJ.setRootF(hi:aJ P N w0 F0 H env a w F S){r:Nat}(hr:(env r).isOwner=true){w':World}{F' Sr:aA}{E:Ent}(hE:E.isOwner=true)
  (h1:w'.os=w.os) (h2:w'.tape=w.tape) (h3:w'.output=w.output) (h4:w.heap.size<=w'.heap.size) (h6:∀k,k<w0.heap.size->¬H k->w'.heap[k]? =w.heap[k]?)
  (hFF:Sub F F') (hFb:∀b,F' b->b<w'.heap.size) (hFn:∀b,F' b->¬F b->(w0.heap.size<=b∨H b)/\∀t,t≠r->¬S t b)
  (h5:∀b,F b∨(∃t,t≠r/\S t b)->w'.heap[b]? =w.heap[b]?) (hS:∀b,Sr b->(w0.heap.size<=b∨H b)/\b<w'.heap.size/\¬F' b/\∀t,t≠r->¬S t b)
  (he:aF P F' w' (upd (cV env r) r E) (fun t=>a.tmps.getD t undef) (fun t=>if t=r then Sr else S t) r E):
  aJ P N w0 F0 H (upd (cV env r) r E) a w' F' (fun t=>if t=r then Sr else S t):=by
 refine⟨h1.trans hi.os,h2.trans hi.tape,h3.trans hi.output,Nat.le_trans hi.size h4,fun k hk hH=>(h6 k hk hH).trans (hi.block k hk hH),hFb,fun b hb=>hFF b (hi.f0 b hb),?_,?_,?_,?_,hi.defers,hi.slots⟩
 ·intro b hb h0
  by_cases hF:F b
  ·exact hi.fn b hF h0
  ·exact(hFn b hb hF).1
 ·intro t b ht
  by_cases h:t=r
  ·simp only[h,if_true]at ht
   exact⟨(hS b ht).1,(hS b ht).2.1,(hS b ht).2.2.1⟩
  ·simp only[h,if_false]at ht
   obtain⟨g1,g2,g3⟩:=hi.sb t b ht;exact⟨g1,Nat.lt_of_lt_of_le g2 h4,fun hF=>(hFn b hF g3).2 t h ht⟩
 ·intro t u htu b hb1 hb2
  by_cases h:t=r
  ·simp only[h,if_true]at hb1
   by_cases h':u=r
   ·exact htu (h.trans h'.symm)
   ·simp only[h',if_false]at hb2
    exact(hS b hb1).2.2.2 u h' hb2
  ·simp only[h,if_false]at hb1
   by_cases h':u=r
   ·simp only[h',if_true]at hb2
    exact(hS b hb2).2.2.2 t h hb1
   ·simp only[h',if_false]at hb2
    exact hi.sd t u htu b hb1 hb2
 ·intro t
  by_cases h:t=r
  ·subst h
   rw[bU];exact he
  ·rw[bG _ _ h]
   rcases c9 env r t with h'|⟨h',hne⟩
   ·rw[h'];trivial
   ·rw[h']
    refine aF.keep hFF (fun b hb=>h5 b (.inl hb)) rfl ?_ ?_ (hi.ent t)
    ·intro q hq
     have hqr:q≠r:=fun e=>hne (e▸hq)
     refine⟨fun ho=> ?_,fun _=>rfl,by simp[hqr],fun b hb=>h5 b (.inr ⟨q,hqr,hb⟩),fun b h1 h2=>(hFn b h1 h2).2 q hqr,fun b hb=>(hi.sb q b hb).2.2⟩
     rw[bG _ _ hqr];unfold cV eY;rw[Ent.owner_root ho]
    ·intro _
     exact⟨by simp[h],fun b hb=>h5 b (.inr ⟨t,h,hb⟩),fun b h1 h2=>(hFn b h1 h2).2 t h⟩

theorem aJ.putPtr(hi:aJ P N w0 F0 H env a w F S)(hd:Wr N d){s:dF}{r b:Nat}{lm:Md}{x:s.τ.den}{y:aH s.args}{S0:aA}
  (hbox:env r= .box s.τ lm x) (hval:a.tmps.getD r undef= .pointer (some ⟨b,0,none⟩)) (hS0:S0=fun k=>S r k/\k≠b) (hsb:S r b)
  (hm:s.τ.flat=true∨lm=s.m) {e:Ending} {w':World} (hp:o5 F S0 w b s x y e w'):
  ∃v F2 S2,e= .returned v/\aJ P N w0 F0 H (Go.Lf.put (upd (cV env r) r (dR (env r) s.τ lm (s.fn x y))) d (mkP C d s (s.out x y))) (a.put (some d) v) w' F2 S2:=by
 obtain⟨v,F',S',Sr,cs',q0,q1,q2,q3,q4,q5,q6,q7,q8,q9,q10,q11,q12,q13⟩:=hp
 have hb:=hi.sb r b hsb
 have hsub:∀k,S0 k->S r k:=by rw[hS0];exact fun k hk=>hk.1
 have hnb:∀k,S r k->¬S0 k->k=b:=by
  intro k h1 h2;rw[hS0]at h2;by_cases hk:k=b
  ·exact hk
  ·exact absurd ⟨h1,hk⟩ h2
 have h1:∀k,(w.heap.size<=k∨S0 k)->(w0.heap.size<=k∨H k)/\∀t,t≠r->¬S t k:=by
  rintro k (hk|hk)
  ·exact⟨.inl (Nat.le_trans hi.size hk),fun t _ ht=>by have:=(hi.sb t k ht).2.1;omega⟩
  ·exact⟨(hi.sb r k (hsub k hk)).1,fun t ht h=>hi.sd t r ht k h (hsub k hk)⟩
 have hb':¬F' b:=q11.2.1
 have hset:aJ P N w0 F0 H (upd (cV env r) r (dR (env r) s.τ lm (s.fn x y))) a w' F' (fun t=>if t=r then(fun k=>S' k∨k=b)else S t):=by
  refine hi.setRootF (by rw[hbox];rfl) (by rw[hbox];rfl) q1 q2 q3 q4 ?_ q6 (fun k hk=>q8 k (.inl hk)) ?_ ?_ ?_ ?_
  ·intro k hk hH
   refine q5 k (Nat.lt_of_lt_of_le hk hi.size) ?_ ?_
   ·rintro rfl
    rcases hb.1 with h|h
    ·omega
    ·exact hH h
   ·intro h
    rcases (hi.sb r k (hsub k h)).1 with h|h
    ·omega
    ·exact hH h
  ·intro k hk hF
   exact h1 k (q7 k hk hF)
  ·rintro k (hk|⟨t,g1,g2⟩)
   ·exact q5 k (hi.fb k hk) (fun e=>hb.2.2 (e▸hk)) (fun h=>(hi.sb r k (hsub k h)).2.2 hk)
   ·exact q5 k (hi.sb t k g2).2.1 (fun e=>hi.sd t r g1 k g2 (e▸hsb)) (fun h=>hi.sd t r g1 k g2 (hsub k h))
  ·rintro k (hk|rfl)
   ·obtain⟨g1,g2⟩:=q9 k hk
    exact⟨(h1 k g1).1,q8 k (.inr (.inl hk)),g2,(h1 k g1).2⟩
   ·exact⟨hb.1,Nat.lt_of_lt_of_le hb.2.1 q4,hb',fun t ht h=>hi.sd t r ht k h hsb⟩
  ·rw[hbox]
   have hSb:¬S' b:=q11.1
   refine⟨.mem b 0,S',cs',.inr ⟨rfl,b,rfl,?_,hval,?_⟩,q11,?_⟩
   ·simp only[if_true]
    funext k
    by_cases hk:k=b
    ·subst hk;simp[hSb]
    ·simp[hk]
   ·simp
   ·rcases hm with hm|hm
    ·exact q12.flat hm
    ·rw[hm];exact q12
 unfold mkP
 cases hmu:s.multi
 ·rw[hmu]at q13
  have q13:aT F' w' s.res s.rm Sr v (s.out x y):=q13
  have hSr:∀k,Sr k->(w0.heap.size<=k∨H k)/\k<w'.heap.size/\¬F' k/\∀t,¬(if t=r then(fun k=>S' k∨k=b)else S t) k:=by
   intro k hk;obtain⟨g1,g2,g3,g4⟩:=q10 k hk;refine⟨(h1 k g1).1,q8 k (.inr (.inr hk)),g2,fun t ht=> ?_⟩
   split at ht
   ·rcases ht with h|h
    ·exact g3 h
    ·exact g4 h
   ·rename_i hne
    exact(h1 k g1).2 t hne ht
  obtain⟨F2,S2,hh⟩:=hset.putNew (C:=C) (d:=d) hd (RowKit.Below.refl _ _) (fun _ h=>h) (fun k hk=>q8 k (.inl hk)) (fun k g1 g2=>absurd g1 g2) hSr q13
  exact⟨v,F2,S2,q0,hh⟩
 ·cases hfl:(flatT s.res&&dO s.rm)
  ·exact⟨v,_,_,q0,hset.putSimple hd rfl (by simp[Ent.root]) trivial⟩
  ·rw[hmu]at q13
   obtain⟨vs,rfl,q13⟩:∃vs:List Value,v= .tuple vs.toArray/\dJ F' w' s.res s.rm Sr vs (s.out x y):=q13;simp only[Bool.and_eq_true]at hfl;have hm':s.rm= .shr:=by
    have:=hfl.2
    cases hmm:s.rm<;>first|rfl|(rw[hmm]at this;cases this)
   rw[hm']at q13;obtain⟨F2,S2,hh⟩:=hset.putSTup (d:=d) hd (RowKit.Below.refl _ _) (fun _ h=>h) (fun k hk=>q8 k (.inl hk)) (fun k g1 g2=>absurd g1 g2) q13
   exact⟨_,F2,S2,q0,hh⟩

theorem kill_addr{st:St}{r t:Nat}{p:cM}(h:st t= .addr r p):cV st r t= .dead:=by
 unfold cV eY
 rw[h]
 simp[Ent.root]
theorem wJ{st:St}{d t:Nat}{e:Ent}(h:t≠d):put st d e t=st t∨put st d e t= .dead:=by
 unfold put
 cases (st d).isOwner
 ·left;simp only[cond_false];rw[bG _ _ h]
 ·simp only[cond_true]
  rw[bG _ _ h];rcases c9 st d t with h'|⟨h',_⟩
  ·exact .inr h'
  ·exact .inl h'
theorem oG{w:World}{b b1 off:Nat}{σ:Ty}:∀ {p:cM} {τ:Ty} {o:Nat},jQ p=true->loc w p τ (.mem b o)=some (σ,.mem b1 off)->b1=b
 | [],_,_,_,h=>by simp only[loc,Option.some.injEq,Prod.mk.injEq,aK.mem.injEq]at h;exact h.2.1.symm
 | .fst::p,.prod a c,o,h,g=>oG (p:=p) (τ:=a) (o:=o+0) h g
 | .snd::p,.prod a c,o,h,g=>oG (p:=p) (τ:=c) (o:=o+a.size) h g
 | .fst::_,.int _,_,_,g=>by cases g
 | .fst::_,.bool,_,_,g=>by cases g
 | .fst::_,.str,_,_,g=>by cases g
 | .fst::_,.unit,_,_,g=>by cases g
 | .fst::_,.slice _,_,_,g=>by cases g
 | .fst::_,.arr _ _,_,_,g=>by cases g
 | .fst::_,.abs _,_,_,g=>by cases g
 | .snd::_,.int _,_,_,g=>by cases g
 | .snd::_,.bool,_,_,g=>by cases g
 | .snd::_,.str,_,_,g=>by cases g
 | .snd::_,.unit,_,_,g=>by cases g
 | .snd::_,.slice _,_,_,g=>by cases g
 | .snd::_,.arr _ _,_,_,g=>by cases g
 | .snd::_,.abs _,_,_,g=>by cases g
 | .idx _::_,_,_,h,_=>by cases h
theorem aJ.restore{a':Act}{w':World}{F2:aA}{S2:Nat->aA}{st:St}{r d b:Nat}(hi:aJ P N w0 F0 H env a w F S)(hst:env=st){E:Ent}{e:Ent}(h':aJ P N w0 F0 H (Go.Lf.put (upd (cV st r) r E) d e) a' w' F2 S2)
  {τ:Ty} {m:Md} {x:τ.den} (hr:st r= .box τ m x) (hv:a.tmps.getD r undef= .pointer (some ⟨b,0,none⟩)) {x2:τ.den} (hE:E= .box τ m x2)
  (hsame:∀t,t≠d->a'.tmps.getD t undef=a.tmps.getD t undef):aJ P N w0 F0 H (restS st r d (Go.Lf.put (upd (cV st r) r E) d e)) a' w' F2 S2:=by
 subst hst
 unfold restS
 cases hdr:Nat.beq d r
 ·simp only[cond_false]
  have hdr:d≠r:=fun e=>by rw[aY.2 e]at hdr;cases hdr
  have hpr:Go.Lf.put (upd (cV env r) r E) d e r=E∨Go.Lf.put (upd (cV env r) r E) d e r= .dead:=by
   rcases wJ (st:=upd (cV env r) r E) (e:=e) (Ne.symm hdr)with h|h
   ·left;rw[h,bU]
   ·exact .inr h
  have hpr:Go.Lf.put (upd (cV env r) r E) d e r=E:=by
   unfold Go.Lf.put;cases (upd (cV env r) r E d).isOwner
   ·simp only[cond_false];rw[bG _ _ (Ne.symm hdr),bU]
   ·simp only[cond_true]
    rw[bG _ _ (Ne.symm hdr)];unfold cV eY;rw[bU,hE]
    rfl
  have key:∀t p,env t= .addr r p->jQ p=true->t≠d->t≠r->∃σ μ off,loc w' p τ (.mem b 0)=some (σ,.mem b off)/\a'.tmps.getD t undef= .pointer (some ⟨b,off,none⟩)/\(aN p τ x2).isSome=true/\bI p τ m=some μ/\inR p τ x2:=by
   intro t p ht hp htd htr;rw[hsame t htd];have h1:=hi.ent t;rw[ht]at h1;obtain⟨τ1,m1,x1,pl,S0,cs,σ,μ,b1,off,g1,g2,g3,g4,g5,g6⟩:=h1;rw[hr]at g1;obtain⟨e1,e2,b2,hpl,_,hv2,_⟩:=g1.box_inj;subst hpl;injection e1 with e1 e3;subst e1;subst e2;have hv2:a.tmps.getD r undef= .pointer (some ⟨b2,0,none⟩):=hv2;rw[hv]at hv2;injection hv2 with hv2;injection hv2 with hv2;injection hv2 with hv2;subst hv2;have hb1:b1=b:=oG hp g2;subst hb1;obtain⟨g7,g8⟩:=lS (x2:=x2) hp g4;exact⟨σ,μ,off,by rw[<-g2];exact qV hp,g3,g7,g5,g8⟩
  have hroot:=h'.ent r
  rw[hpr,hE]at hroot;obtain⟨plr,S0r,csr,hroot⟩:=hroot;obtain⟨_,_,br,hplr,hS0r,hvr,_⟩:=hroot.box_inj;have hvr:a'.tmps.getD r undef= .pointer (some ⟨br,0,none⟩):=hvr;have hbr:br=b:=by
   rw[hsame r (Ne.symm hdr),hv]at hvr;injection hvr with hvr;injection hvr with hvr;injection hvr with hvr;exact hvr.symm
  subst hbr;refine {h' with ent:= ?_};intro t;have hnew:∀q,(Go.Lf.put (upd (cV env r) r E) d e q).isOwner=true->(match env q with| .addr r' p=>bif Nat.beq r' r&& !Nat.beq q d&& !Nat.beq q r&&jQ p then Ent.addr r' p else Go.Lf.put (upd (cV env r) r E) d e q|_=>Go.Lf.put (upd (cV env r) r E) d e q)=Go.Lf.put (upd (cV env r) r E) d e q:=by
   intro q hq;split
   ·rename_i r' p hq2
    cases hc:(Nat.beq r' r&& !Nat.beq q d&& !Nat.beq q r&&jQ p)
    ·rfl
    ·simp only[Bool.and_eq_true,Bool.not_eq_true']at hc
     obtain⟨⟨⟨c1,c2⟩,c3⟩,c4⟩:=hc;have c1:=aY.1 c1;subst c1;have c2:q≠d:=fun e=>by rw[aY.2 e]at c2;cases c2
     have c3:q≠r':=fun e=>by rw[aY.2 e]at c3;cases c3
     exfalso
     rcases wJ (st:=upd (cV env r') r' E) (e:=e) c2 with h|h
     ·rw[h,bG _ _ c3,kill_addr hq2]at hq;cases hq
     ·rw[h]at hq;cases hq
   ·rfl
  have keep:aF P F2 w' (fun q=>match env q with| .addr r' p=>bif Nat.beq r' r&& !Nat.beq q d&& !Nat.beq q r&&jQ p then Ent.addr r' p else Go.Lf.put (upd (cV env r) r E) d e q|_=>Go.Lf.put (upd (cV env r) r E) d e q) (fun t=>a'.tmps.getD t undef) S2 t (Go.Lf.put (upd (cV env r) r E) d e t):=by
   refine aF.keep (fun _ h=>h) (fun _ _=>rfl) rfl ?_ (fun _=>⟨rfl,fun _ _=>rfl,fun b h1 h2=>absurd h1 h2⟩) (h'.ent t)
   intro q hq;exact⟨fun ho=>hnew q ho,fun _=>rfl,rfl,fun _ _=>rfl,fun b h1 h2=>absurd h1 h2,fun b hb=>(h'.sb q b hb).2.2⟩
  show aF _ _ _ _ _ _ t (match env t with| .addr r' p=>bif Nat.beq r' r&& !Nat.beq t d&& !Nat.beq t r&&jQ p then Ent.addr r' p else Go.Lf.put (upd (cV env r) r E) d e t|_=>Go.Lf.put (upd (cV env r) r E) d e t)
  split
  ·rename_i r' p ht
   cases hc:(Nat.beq r' r&& !Nat.beq t d&& !Nat.beq t r&&jQ p)
   ·exact keep
   ·simp only[Bool.and_eq_true,Bool.not_eq_true']at hc
    obtain⟨⟨⟨c1,c2⟩,c3⟩,c4⟩:=hc;have c1:=aY.1 c1;subst c1;have c2:t≠d:=fun e=>by rw[aY.2 e]at c2;cases c2
    have c3:t≠r':=fun e=>by rw[aY.2 e]at c3;cases c3
    simp only[cond_true,aF];rw[hnew r' (by rw[hpr,hE];rfl),hpr,hE];obtain⟨σ,μ,off,k1,k2,k3,k4,k5⟩:=key t p ht c4 c2 c3;exact⟨τ,m,x2,plr,S0r,csr,σ,μ,br,off,hroot,by rw[hplr];exact k1,k2,k3,k4,k5⟩
  ·exact keep
 ·exact h'

theorem ptrE_ok(hC:aG P C)(hi:aJ P C.np w0 F0 H env a w F S)(hd:Wr C.np d){f:FuncId}{s:dF}(hs:look C.ptrs f=some s){z:Operand}{zs:List Operand}{args:Array Operand}(hargs:args.toList=z::zs){ts:Array TypeId}{o:Oper}
  (ho:o.op= .call {callee:= .value (.func f),args,argTypes:=ts}) (hod:o.dst=some d)
  {c:Prop} {env':St} (h:ptrE C d env s (bR env z) (zs.map (bR env))=some (c,env')) (hc:c) {K:Act->World->Prop} {Q:Exit->Act->World->Prop} (hK:∀a' w',Inv P C.np w0 F0 H env' a' w'->K a' w'):o.wp P a w K Q:=by
 have hv:=aX hi z
 unfold ptrE at h
 split at h
 ·rename_i l hl
  split at h
  ·rename_i hp
   cases hf:(pinB C l.r&&(s.τ.flat||decide (l.m=s.m)))
   ·rw[hf]at h;cases h
   rw[hf]at h;simp only[cond_true]at h;simp only[Bool.and_eq_true,Bool.or_eq_true,decide_eq_true_eq]at hf;obtain⟨hpin,hf⟩:=hf;split at h
   ·rename_i x y hx hy
    have:=aV hx
    obtain⟨σ,y0,μ,pl,S0,cs,b,off,hA,hval⟩:=gK hi hv hl;obtain⟨lr,lp,lτ,lm,lx⟩:=l;simp only at hp hx this h hf hpin;subst hp;injection this with e1 e2;subst e1;cases e2;split at h
    ·rename_i y' hy'
     have hy':=aV hy'
     injection hy' with _ e3;cases e3;simp only[Option.some.injEq,Prod.mk.injEq]at h;obtain⟨rfl,rfl⟩:=h;have hroot:=hA.root;have hloc:=hA.loc;simp only[Go.Lf.loc,Option.some.injEq,Prod.mk.injEq]at hloc;obtain⟨rfl,hpl⟩:=hloc;subst hpl;simp only at hroot;have hsb:S lr b:=hroot.isB rfl;obtain⟨hbox,hS0,hvr⟩:env lr= .box s.τ lm x/\S0=(fun k=>S lr k/\k≠b)/\off=0/\a.tmps.getD lr undef= .pointer (some ⟨b,0,none⟩):=by
      rcases hroot.1 with⟨_,h,_⟩|⟨h,b',h2,h3,h4,_⟩
      ·cases h
      ·injection h2 with h2 h5
       subst h2;exact⟨h,h3,h5,h4⟩
     obtain⟨rfl,hvr⟩:=hvr;have hb:=hi.sb lr b hsb;have hsh:cD P F w s.args (zs.map a.eval) y:=i9 hi (fS (f:=bR env) (fun z' _=>aX hi z')) hy
     obtain⟨on,⟨k1,k2⟩,k3⟩:=hC.ptrs f s hs;have hone:∀q,on=some q->b=q:=by
      intro q hq;obtain⟨g1,g2⟩:=k3 q hq;subst g2;obtain⟨t,ht⟩:=Option.isSome_iff_exists.1 g1;unfold pinB at hpin;rw[ht]at hpin;have:=aY.1 hpin;subst this;have h4:=hi.slots.pin t ht;rw[hvr]at h4;injection h4 with h4;injection h4 with h4;injection h4
     have hown:Own F w s.τ s.m S0 cs x:=by
      rcases hf with hf|hf
      ·exact hroot.2.2.flat hf
      ·rw[<-hf];exact hroot.2.2
     have hcall:=k2 w F S0 b cs x _ y hone hb.2.1 hi.fb (fun k hk=>by
      rw[hS0]at hk;exact⟨(hi.sb lr k hk.1).2.1,(hi.sb lr k hk.1).2.2⟩) hroot.2.1 hown hsh hc
     have hrun:(execOp a.eval o).run P w= .ok (.enter f (.pointer (some ⟨b,0,none⟩)::zs.map a.eval).toArray) w:=by
      simp only[execOp,ho,resolve,Sem.run_bind,Act.eval,Deferred.ofValue,Sem.run_pure,Result.andThen,invoke];have:=k1 ((.pointer (some ⟨b,0,none⟩)::zs.map a.eval).toArray) w;rw[<-this]
      congr 1
      congr 1
      apply Array.ext'
      simp[hargs,<-hval]
     unfold Oper.wp;rw[hrun,Oper.upon_enter];refine hcall.mono ?_;intro e w' hpost;obtain⟨v,F2,S2,rfl,hh⟩:=hi.putPtr (C:=C) hd hbox hvr hS0 hsb hf hpost;rw[hod];exact hK _ _ ⟨F2,S2,hi.restore rfl hh hbox hvr (by rw[hbox];rfl) (fun t ht=>by rw[Act.getD_put (by rw[hi.slots.size];exact hd.1),if_neg ht])⟩
    ·cases h
   ·cases h
  ·cases h
 ·cases h

theorem thkC_ok(hC:aG P C)(hi:aJ P C.np w0 F0 H env a w F S){q:Call}{o:Oper}(ho:o.op= .call q){c:Prop}{env':St}(h:thkC C env o q=some (c,env'))(hc:c){K:Act->World->Prop}{Q:Exit->Act->World->Prop}
  (hK:∀a' w',Inv P C.np w0 F0 H env' a' w'->K a' w'):o.wp P a w K Q:=by
 obtain⟨callee,args,tys⟩:=q
 unfold thkC at h
 simp only at h
 split at h
 ·rename_i t d ts s h2 h3 h4 h5
  cases hb:wrB C d
  ·rw[hb]at h;cases h
  rw[hb]at h;simp only[cond_true]at h;split at h
  ·rename_i z τ m x ht hs
   cases hf:decide (m=ts.m)
   ·rw[hf]at h;cases h
   rw[hf]at h;simp only[cond_true]at h;have hm:=of_decide_eq_true hf;split at h
   ·rename_i x1 hx
    have:=aV hx
    injection this with e1 e2;subst e1;cases e2;split at h
    ·rename_i x' hx'
     have:=aV hx'
     injection this with _ e3;cases e3;simp only[Option.some.injEq,Prod.mk.injEq]at h;obtain⟨rfl,rfl⟩:=h;obtain⟨hz,hzq,hpre⟩:=hc;obtain⟨z1,rfl⟩:=Option.isSome_iff_exists.1 hz;simp only[Option.getD_some]at hzq hpre hK;obtain⟨zq,z1⟩:=z1;simp only at hzq hpre hK;subst hzq;have ht1:=hi.ent t;rw[ht]at ht1;obtain⟨cs1,hv1,caps,hcs,hcap⟩:=ht1;have hvt:a.tmps.getD t undef= .func (.func z1.1) #[] caps:=by
      have hv1:a.tmps.getD t undef=_:=hv1
      rw[hv1,hcs];rfl
     have hs1:=hi.ent s
     rw[hs]at hs1;obtain⟨pl,S0,cs,hr⟩:=hs1;obtain⟨_,_,b,rfl,hS0,hvs,hsb⟩:=hr.box_inj;have hvs:a.tmps.getD s undef= .pointer (some ⟨b,0,none⟩):=hvs;have hpin:=hi.slots.pin s h5;have hbb:b=C.q:=by
      rw[hvs]at hpin;injection hpin with hpin;injection hpin with hpin;injection hpin
     subst hbb;have hb':=hi.sb s _ hsb;obtain⟨k1,k2⟩:=hC.thk ts h4 z1 w F S0 cs x1 caps.toList hb'.2.1 hi.fb (fun k hk=>by
      rw[hS0]at hk;exact⟨(hi.sb s k hk.1).2.1,(hi.sb s k hk.1).2.2⟩) hr.2.1 (by rw[<-hm];exact hr.2.2) hcap hpre
     have e0:args= #[]:=by apply Array.ext';simpa using h2
     subst e0;have hrun:(execOp a.eval o).run P w= .ok (.enter z1.1 caps.toList.toArray) w:=by
      simp only[execOp,ho,resolve,Sem.run_bind,Act.eval,hvt,Deferred.ofValue,Sem.run_pure,Result.andThen,invoke];have:=k1 caps.toList.toArray w;rw[<-this]
      congr 1
      congr 1
      apply Array.ext'
      simp
     unfold Oper.wp;rw[hrun,Oper.upon_enter];refine k2.mono ?_;intro e w' hpost;obtain⟨v,F2,S2,rfl,hh⟩:=hi.putPtr (C:=C) (s:=ts.at z1) (y:=()) (eA hb) hs hvs hS0 hsb (.inr hm) hpost;rw[h3];exact hK _ _ ⟨F2,S2,hi.restore rfl hh hs hvs (by rw[hs];rfl) (fun t ht=>by rw[Act.getD_put (by rw[hi.slots.size];exact(eA hb).1),if_neg ht])⟩
    ·cases h
   ·cases h
  ·cases h
 ·cases h

theorem aJ.freeze(hi:aJ P N w0 F0 H env a w F S){r:Nat}{τ:Ty}{m:Md}{x:τ.den}(hr:env r= .box τ m x):
  aJ P N w0 F0 H (upd (cV env r) r (.saddr τ x)) a w (fun b=>F b∨S r b) (fun t=>if t=r then none' else S t):=by
 have hap:∀t b,t≠r->S t b->¬S r b:=fun t b h h1 h2=>hi.sd t r h b h1 h2
 refine⟨hi.os,hi.tape,hi.output,hi.size,hi.block,?_,fun b hb=> .inl (hi.f0 b hb),?_,?_,?_,?_,hi.defers,hi.slots⟩
 ·rintro b (hb|hb)
  ·exact hi.fb b hb
  ·exact(hi.sb r b hb).2.1
 ·rintro b (hb|hb) hn
  ·exact hi.fn b hb hn
  ·exact(hi.sb r b hb).1
 ·intro t b ht
  by_cases h:t=r
  ·simp only[h,if_true]at ht;exact ht.elim
  ·simp only[h,if_false]at ht
   obtain⟨g1,g2,g3⟩:=hi.sb t b ht;exact⟨g1,g2,fun hF=>hF.elim g3 (hap t b h ht)⟩
 ·intro t u htu b h1 h2
  by_cases h:t=r
  ·simp only[h,if_true]at h1;exact h1
  ·simp only[h,if_false]at h1
   by_cases h':u=r
   ·simp only[h',if_true]at h2;exact h2
   ·simp only[h',if_false]at h2
    exact hi.sd t u htu b h1 h2
 ·intro t
  by_cases h:t=r
  ·subst h
   rw[bU];have h1:=hi.ent t;rw[hr]at h1;obtain⟨pl,S0,cs,h1⟩:=h1;obtain⟨_,_,b,rfl,hS0,hval,hsb⟩:=h1.box_inj;obtain⟨q1,q2,row,T0,q3,q4,q5⟩:=h1.2.1;refine⟨b,0,row,T0,(0,0),hval,.inr hsb,q3,q4,?_⟩;rw[q5];exact(Own.freeze (S':=none') h1.2.2).mono (fun k hk=>hk.imp id (fun hk=>h1.sub k hk)) (fun _ h=>h)
  ·rw[bG _ _ h]
   rcases c9 env r t with h'|⟨h',hne⟩
   ·rw[h'];trivial
   ·rw[h']
    refine aF.keep (fun b hb=> .inl hb) (fun _ _=>rfl) rfl ?_ ?_ (hi.ent t)
    ·intro q hq
     have hqr:q≠r:=fun e=>hne (e▸hq)
     refine⟨fun ho=> ?_,fun _=>rfl,by simp[hqr],fun _ _=>rfl,?_,fun b hb=>(hi.sb q b hb).2.2⟩
     ·rw[bG _ _ hqr];unfold cV eY;rw[Ent.owner_root ho]
     ·rintro b (h1|h1) h2
      ·exact absurd h1 h2
      ·exact fun h3=>hap q b hqr h3 h1
    ·intro _
     refine⟨by simp[h],fun _ _=>rfl,?_⟩
     rintro b (h1|h1) h2
     ·exact absurd h1 h2
     ·exact fun h3=>hap t b h h3 h1

theorem frzL_ok:∀ {l:List Operand} {env:St},Inv P N w0 F0 H env a w->Inv P N w0 F0 H (frzL env l) a w
 | [],_,h=>h
 |z::l,env,h=>by
  refine frzL_ok (l:=l) ?_
  unfold frz1;split
  ·rename_i t
   split
   ·rename_i τ m x hr
    obtain⟨F,S,hi⟩:=h;exact⟨_,_,hi.freeze hr⟩
   ·exact h
  ·exact h

theorem stpP_ok(hC:aG P C):dM P C (stpP C):=by
 intro w0 F0 H env env' a w o c hi h hc K Q hK
 unfold stpP at h
 split at h
 ·rename_i q hop
  split at h
  ·rename_i r hr
   simp only[Option.some.injEq]at h;subst h;obtain⟨F,S,hi⟩:=hi;unfold ptrC at hr;split at hr
   ·rename_i f z zs d h1 h2 h3
    split at hr
    ·rename_i s hs
     cases hb:wrB C d
     ·rw[hb]at hr;cases hr
     rw[hb]at hr;obtain⟨callee,args,ts⟩:=q;simp only at h1 h2;subst h1;exact ptrE_ok hC hi (eA hb) hs h2 hop h3 hr hc hK
    ·cases hr
   ·cases hr
  ·split at h
   ·rename_i r hr
    simp only[Option.some.injEq]at h;subst h;obtain⟨F,S,hi⟩:=hi;exact thkC_ok hC hi hop hr hc hK
   ·exact stp_ok hC hi h hc K Q hK
 ·rename_i fn first caps hop
  obtain⟨F,S,hi'⟩:=frzL_ok (l:=caps.toList) hi;exact jW hC hi' h hc hK
 ·exact stp_ok hC hi h hc K Q hK

end
end Go.Lf
namespace Go.Lf

def leftP(s:dF)(x':s.τ.den)(st:St):Prop:=match st 0 with
 | .box σ m z=>bif s.τ.flat||decide (m=s.m)then(match bY (τ:=σ) (σ:=s.τ) z with
  |some z=>z=x'
  |none=>False)else False
 |_=>False
def backP(C:Ctx)(s:dF)(rs:List ResultVar)(y':s.res.den)(st:St):Prop:=bif s.multi then(match rs with
 |_::_::_=>bif flatT s.res&&dO s.rm then(match gM C st s.res rs with
  |some z=>z=y'
  |none=>False)else False
 |_=>rs=[]/\s.res= .unit)else match rs with
 | [.tmp t]=>(match ownR s.res s.rm (bR st (.tmp t))with
  |some (z,l)=>z=y'/\eD l 0=false
  |none=>False)
 | [.cell t T]=>bif s.res.flat then(match pI st T C t s.res with
  |some z=>z=y'
  |none=>False)else False
 |_=>False
def oW(C:Ctx)(s:dF)(rs:List ResultVar)(x':s.τ.den)(y':s.res.den)(st:St):Prop:=leftP s x' st/\backP C s rs y' st

def rU(C:Ctx)(stp:St->Oper->Option (Prop×St))(s:dF)(L:s.τ.den->aH s.args->List aW)(fn:Func):Prop:=
 match fn.body with
 |some c=>∀x y,s.pre x y->aB s.τ x->gE s.args y->wpI C stp (L x y) c 0 (ofL ((0,.box s.τ s.m x)::bZ s.args y 1)) (oW C s fn.results.toList (s.fn x y) (s.out x y)) (fun _ _=>False) (oW C s fn.results.toList (s.fn x y) (s.out x y))
 |none=>False

section
variable {P:Program} {C:Ctx} {N:NP} {w0:World} {F0 H:aA} {env:St} {a:Act} {w:World} {F:aA} {S:Nat->aA} {d:Nat}

theorem aJ.startP{s:dF}{vs:List Value}{y:aH s.args}{cs:List Value}{x:s.τ.den}{b n:Nat}{S0:aA}(hb:b<w.heap.size)(hF:∀k,F k->k<w.heap.size)(hS0:∀k,S0 k->k<w.heap.size/\¬F k)
  (h1:fM F S0 w (.mem b 0) s.τ.size cs) (h2:Own F w s.τ s.m S0 cs x) (ha:cD P F w s.args vs y) (hn:vs.length+1<=n):
  aJ P ⟨n,some 0,b,0,[]⟩ w F (fun k=>S0 k∨k=b) (ofL ((0,.box s.τ s.m x)::bZ s.args y 1)) {tmps:=(.pointer (some ⟨b,0,none⟩)::vs).toArray++Array.replicate (n-(vs.length+1)) undef,defers:=[]} w F
   (fun t k=>t=0/\(S0 k∨k=b)):=by
 have hget:∀i v,(.pointer (some ⟨b,0,none⟩)::vs)[i]? =some v->((.pointer (some ⟨b,0,none⟩)::vs).toArray++Array.replicate (n-(vs.length+1)) undef).getD i undef=v:=by
  intro i v hv;have hi:i<(Value.pointer (some ⟨b,0,none⟩)::vs).length:=by
   rcases Nat.lt_or_ge i (Value.pointer (some ⟨b,0,none⟩)::vs).length with h|h
   ·exact h
   ·rw[List.getElem?_eq_none h]at hv;cases hv
  rw[Array.getD_eq_getD_getElem?,Array.getElem?_append_left (by simpa using hi)];simp only[List.getElem?_toArray,hv,Option.getD_some]
 have hV:=hget 0 _ rfl
 have he:=mK (env:=ofL ((0,.box s.τ s.m x)::bZ s.args y 1)) (S:=fun t k=>t=0/\(S0 k∨k=b)) (V:=fun t=>((.pointer (some ⟨b,0,none⟩)::vs).toArray++Array.replicate (n-(vs.length+1)) undef).getD t undef) (n:=1) ha
  (fun i v hv=>hget (1+i) v (by rw[Nat.add_comm];simpa using hv))
 refine⟨rfl,rfl,rfl,Nat.le_refl _,fun _ _ _=>rfl,hF,fun _ h=>h,fun b h1 h2=>absurd h1 h2,?_,?_,?_,rfl,⟨by simp;omega,?_,fun b o h=>(by cases h),fun z hz=>by cases hz⟩⟩
 ·rintro t k ⟨rfl,hk|rfl⟩
  ·exact⟨.inr (.inl hk),(hS0 k hk).1,(hS0 k hk).2⟩
  ·exact⟨.inr (.inr rfl),hb,h1.2.1⟩
 ·rintro t u htu k ⟨rfl,_⟩ ⟨rfl,_⟩
  exact htu rfl
 ·intro t
  show aF P F w (ofL ((0,.box s.τ s.m x)::bZ s.args y 1)) _ _ t (match look ((0,.box s.τ s.m x)::bZ s.args y 1) t with|some e=>e|none=> .dead)
  cases t with
  |zero=>
   refine⟨.mem b 0,S0,cs,.inr ⟨rfl,b,rfl,?_,hV,⟨rfl,.inr rfl⟩⟩,h1,h2⟩
   funext k
   by_cases hk:k=b
   ·subst hk;simp[h1.1]
   ·simp[hk]
  |succ t=>
   have e1:look ((0,Ent.box s.τ s.m x)::bZ s.args y 1) (t+1)=look (bZ s.args y 1) (t+1):=rfl
   rw[e1];cases hl:look (bZ s.args y 1) (t+1)with
   |none=>trivial
   |some e=>exact(he.2 _ e hl).2.2
 ·intro s' hs'
  injection hs' with hs';subst hs';exact hV

theorem dJ.empty{τ:Ty}{m:Md}(h:τ= .unit)(x:τ.den):dJ F w τ m none' [] x:=by subst h;rfl

theorem dJ.flatT{F F':aA}{w w':World}:∀ {τ:Ty} {m m':Md} {S:aA} {vs:List Value} {x:τ.den},τ.flat=true->dJ F w τ m S vs x->dJ F' w' τ m' none' vs x
 | .unit,_,_,_,_,_,_,h=>h
 | .prod a b,m,m',S,vs,x,hf,h=>by
  obtain⟨v,r,S1,S2,h0,s1,s2,d,⟨cs,h1,h2⟩,h3⟩:=h;simp only[Ty.flat,Bool.and_eq_true]at hf;exact⟨v,r,none',none',h0,fun _ h=>h,fun _ h=>h,fun _ h=>h.elim,⟨cs,h1,h2.flat hf.1⟩,dJ.flatT hf.2 h3⟩
 | .int _,_,_,_,_,_,_,h=>h.elim
 | .bool,_,_,_,_,_,_,h=>h.elim
 | .str,_,_,_,_,_,_,h=>h.elim
 | .abs _,_,_,_,_,_,_,h=>h.elim
 | .slice _,_,_,_,_,_,_,h=>h.elim
 | .arr _ _,_,_,_,_,_,_,h=>h.elim
theorem flatT_flat{τ:Ty}(h:Go.Lf.flatT τ=true):τ.flat=true:=by
 cases τ<;>first|exact h|cases h

theorem tY(hC:aG P C)(hN:N.p=some 0){s:dF}{x:s.τ.den}{y:aH s.args}{fn:Func}{S0:aA}(hH:H=fun k=>S0 k∨k=N.q)(hq:oW C s fn.results.toList (s.fn x y) (s.out x y) env)(hi:Inv P N w0 F0 H env a w):
  bodyPost P fn (o5 F0 S0 w0 N.q s x y) .normal a w:=by
 obtain⟨F,S,hi⟩:=hi
 obtain⟨hl,hb⟩:=hq
 unfold leftP at hl
 split at hl
 ·rename_i σ m z hz
  cases hf:(s.τ.flat||decide (m=s.m))
  ·rw[hf]at hl;cases hl
  rw[hf]at hl;simp only[cond_true]at hl;simp only[Bool.or_eq_true,decide_eq_true_eq]at hf;split at hl
  ·rename_i z' hz'
   have:=aV hz'
   injection this with e1 e2;subst e1;cases e2;subst hl;have h0:=hi.ent 0;rw[hz]at h0;obtain⟨pl,S1,cs,hr⟩:=h0;obtain⟨_,_,b,rfl,hS1,hv,hsb⟩:=hr.box_inj;have hpin:=hi.slots.pin 0 hN;have hv:a.tmps.getD 0 undef= .pointer (some ⟨b,0,none⟩):=hv;rw[hv]at hpin;have hbb:b=N.q:=by injection hpin with h;injection h with h;injection h
   subst hbb;have hown:Own F w s.τ s.m S1 cs (s.fn x y):=by
    rcases hf with hf|hf
    ·exact hr.2.2.flat hf
    ·rw[<-hf];exact hr.2.2
   have hout:∀k,(w0.heap.size<=k∨H k)->k≠N.q->(w0.heap.size<=k∨S0 k):=by
    rintro k (hk|hk) hne
    ·exact .inl hk
    ·rw[hH]at hk
     exact hk.elim .inr (fun h=>absurd h hne)
   have hfin:∀(v:Value) (Sr:aA),(∀k,Sr k->(∃u,u≠0/\S u k))->RetV F w s.multi s.res s.rm Sr v (s.out x y)->o5 F0 S0 w0 N.q s x y (.returned v) w:=by
    intro v Sr hSr hret;refine⟨v,F,S1,Sr,cs,rfl,hi.os,hi.tape,hi.output,hi.size,?_,hi.f0,?_,?_,?_,?_,hr.2.1,hown,hret⟩
    ·intro k hk hne hS
     exact hi.block k hk (by rw[hH];rintro (h|h);exact hS h;exact hne h)
    ·intro k hk hF
     refine hout k (hi.fn k hk hF) ?_
     rintro rfl
     exact(hi.sb 0 _ hsb).2.2 hk
    ·rintro k (hk|hk|hk)
     ·exact hi.fb k hk
     ·exact(hi.sb 0 k (hr.sub k hk)).2.1
     ·obtain⟨u,_,hu⟩:=hSr k hk;exact(hi.sb u k hu).2.1
    ·intro k hk
     have h1:=hi.sb 0 k (hr.sub k hk)
     refine⟨hout k h1.1 ?_,h1.2.2⟩
     rintro rfl
     rw[hS1]at hk;exact hk.2 rfl
    ·intro k hk
     obtain⟨u,hu0,hu⟩:=hSr k hk;have h1:=hi.sb u k hu;have hne:k≠N.q:=by
      rintro rfl;exact hi.sd u 0 hu0 _ hu hsb
     exact⟨hout k h1.1 hne,h1.2.2,fun h=>hi.sd u 0 hu0 _ hu (hr.sub k h),hne⟩
   unfold backP at hb;cases hmu:s.multi
   ·rw[hmu]at hb hfin
    simp only[cond_false]at hb;split at hb
    ·rename_i t hrs
     have hrun:=cX (P:=P) (w:=w) (a:=a) (fn:=fn) (vs:=[a.tmps.getD t undef]) (by rw[hrs];simp[oS,Sem.run_bind,Sem.run_pure,Result.andThen])
     refine⟨hi.defers,_,hrun,?_⟩
     simp only[List.size_toArray,List.length_cons,List.length_nil,Nat.zero_add,dite_true];show o5 F0 S0 w0 N.q s x y (.returned (a.tmps.getD t undef)) w;split at hb
     ·rename_i z l hz2
      obtain⟨rfl,hl0⟩:=hb;rcases lX hi (aX hi (.tmp t)) hz2 with⟨rfl,h⟩|⟨u,rfl,h⟩
      ·exact hfin _ none' (fun _ h=>h.elim) h
      ·refine hfin _ (S u) (fun k hk=>⟨u,?_,hk⟩) h
       rintro rfl
       simp[eD]at hl0
     ·cases hb
    ·rename_i t T hrs
     cases hfl:s.res.flat
     ·rw[hfl]at hb;cases hb
     rw[hfl]at hb;simp only[cond_true]at hb;split at hb
     ·rename_i z hz2
      subst hb;obtain⟨v,k1,cs2,k2,k3⟩:=xD hC hi hz2;have hrun:=cX (P:=P) (w:=w) (a:=a) (fn:=fn) (vs:=[v]) (by
       rw[hrs];simp only[List.mapM_cons,List.mapM_nil,Sem.run_bind,Sem.run_pure,Result.andThen,k1])
      refine⟨hi.defers,_,hrun,?_⟩
      simp only[List.size_toArray,List.length_cons,List.length_nil,Nat.zero_add,dite_true];exact hfin v none' (fun _ h=>h.elim) ⟨cs2,k2,k3.flat hfl⟩
     ·cases hb
    ·cases hb
   ·rw[hmu]at hb hfin
    simp only[cond_true]at hb;split at hb
    ·rename_i r1 r2 rr hrs
     cases hfl:(flatT s.res&&dO s.rm)
     ·rw[hfl]at hb;cases hb
     rw[hfl]at hb;simp only[cond_true]at hb;simp only[Bool.and_eq_true]at hfl;split at hb
     ·rename_i z hz2
      subst hb;obtain⟨vs,k1,k2,k3⟩:=kX hC hi hz2;have hrun:=cX (P:=P) (w:=w) (a:=a) (fn:=fn) (vs:=vs) k1;have hne:¬vs.toArray.size=1:=by rw[List.size_toArray,k2,hrs];simp
      rw[dif_neg hne]at hrun;refine⟨hi.defers,_,hrun,?_⟩;exact hfin _ none' (fun _ h=>h.elim) ⟨vs,rfl,dJ.flatT (flatT_flat hfl.1) k3⟩
     ·cases hb
    rename_i hno;obtain⟨hrs,hres⟩:=hb;have hrs':fn.results= #[]:=by apply Array.ext';simpa using hrs
    refine⟨hi.defers,.tuple #[],by simp[results,hrs'],hfin _ none' (fun _ h=>h.elim) ⟨[],rfl,dJ.empty hres _⟩⟩
  ·cases hl
 ·cases hl

theorem POk.introQ{q:Nat}(hC:aG P C){stp:St->Oper->Option (Prop×St)}(hstp:dM P C stp){f:FuncId}{s:dF}{fn:Func}(hdef:fV P f)(hf:P.funcs[f]? =some fn)
  (hN:C.np=⟨fn.ntmps,some 0,q,0,[]⟩) (hlen:Nat.ble (s.args.length+1) fn.ntmps=true) (L:s.τ.den->aH s.args->List aW) (h:rU C stp s L fn):POk P f s (some q):=by
 refine⟨hdef,?_⟩
 intro w F S0 b cs x vs y hq hb hF hS0 h1 h2 ha hpre
 have hq:=hq q rfl
 subst hq
 unfold rU at h
 split at h
 ·rename_i c hbd
  have hl:=cD.len ha
  have hlen':s.args.length+1<=fn.ntmps:=Nat.le_of_ble_eq_true hlen
  have hst:=aJ.startP (P:=P) (n:=fn.ntmps) hb hF hS0 h1 h2 ha (by omega)
  rw[<-hN]at hst;refine calls_of_wp hf hbd ?_;have hend:∀st a w',oW C s fn.results.toList (s.fn x y) (s.out x y) st->Inv P C.np w F (fun k=>S0 k∨k=b) st a w'->bodyPost P fn (o5 F S0 w b s x y) .normal a w':=by
   intro st a w' hq hi;have hqq:C.np.q=b:=by rw[hN]
   have:=tY (N:=C.np) hC (by rw[hN]) (x:=x) (y:=y) (S0:=S0) (by rw[hqq]) hq hi
   rwa [hqq]at this
  refine cT hC hstp c (h x y hpre h2.fact (d4 ha)) ⟨F,_,by simpa using hst⟩ ?_ (fun _ _ _ _ h=>h.elim) ?_
  ·intro st a w' hq hi
   exact hend st a w' hq hi
  ·intro st a w' hq hi
   exact hend st a w' hq hi
 ·cases h

theorem POk.all{f:FuncId}{s:dF}(h:∀q,POk P f s (some q)):POk P f s:=
 ⟨(h 0).1,fun w F S0 b cs x vs y _ hb hF hS0 h1 h2 ha hp=>(h b).2 w F S0 b cs x vs y (fun q hq=>by injection hq) hb hF hS0 h1 h2 ha hp⟩

theorem POk.intro{C:Nat->Ctx}(hC:∀q,aG P (C q)){stp:Nat->St->Oper->Option (Prop×St)}(hstp:∀q,dM P (C q) (stp q)){f:FuncId}{s:dF}{fn:Func}(hdef:fV P f)(hf:P.funcs[f]? =some fn)
  (hN:∀q,(C q).np=⟨fn.ntmps,some 0,q,0,[]⟩) (hlen:Nat.ble (s.args.length+1) fn.ntmps=true) (L:Nat->s.τ.den->aH s.args->List aW) (h:∀q,rU (C q) (stp q) s (L q) fn):POk P f s:=
 POk.all fun q=>POk.introQ (hC q) (hstp q) hdef hf (hN q) hlen (L q) (h q)
end
end Go.Lf
namespace Go.Lf

section
variable {P:Program} {C:Ctx} {N:NP} {w0:World} {F0 H:aA} {env:St} {a:Act} {w:World} {F:aA} {S:Nat->aA} {d:Nat}

end
end Go.Lf
namespace Go.Lf

def inC(C:Ctx)(st:St)(o:Oper)(q:Call):Option (Prop×St):=
 match q.callee,q.args.toList,o.dst with
 | .value (.func f),.tmp t::zs,some d=>match look C.ins f,st t with
  |some s,.own τ m x=>bif wrB C d&&decide (m=s.m)then(match bY (τ:=τ) (σ:=s.τ) x,mT s.args (zs.map (bR (drop st t)))with
   |some x,some (y,true)=>some (s.pre x y,put (drop st t) d (mkE C d s.res s.rm (s.out x y)))
   |_,_=>none)else none
  |_,_=>none
 |_,_,_=>none

section
variable {P:Program} {C:Ctx} {N:NP} {w0:World} {F0 H:aA} {env:St} {a:Act} {w:World} {F:aA} {S:Nat->aA} {d:Nat}

theorem aJ.worldZ(hi:aJ P N w0 F0 H env a w F S){w':World}{F' Z:aA}
  (h1:w'.os=w.os) (h2:w'.tape=w.tape) (h3:w'.output=w.output) (h4:w.heap.size<=w'.heap.size) (h5:∀k,k<w.heap.size->¬Z k->w'.heap[k]? =w.heap[k]?)
  (hZ:∀k,Z k->(w0.heap.size<=k∨H k)/\¬F k/\∀t,¬S t k)
  (hFF:Sub F F') (hFb:∀b,F' b->b<w'.heap.size) (hFn:∀b,F' b->¬F b->w.heap.size<=b∨Z b):
  aJ P N w0 F0 H env a w' F' S:=by
 have hFx:∀b,F b->w'.heap[b]? =w.heap[b]? :=fun b hb=>h5 b (hi.fb b hb) fun h=>(hZ b h).2.1 hb
 have hSx:∀t b,S t b->w'.heap[b]? =w.heap[b]? :=fun t b hb=>h5 b (hi.sb t b hb).2.1 fun h=>(hZ b h).2.2 t hb
 have hnF:∀t b,F' b->¬F b->¬S t b:=by
  intro t b g1 g2 g3;rcases hFn b g1 g2 with h|h
  ·have:=(hi.sb t b g3).2.1;omega
  ·exact(hZ b h).2.2 t g3
 refine⟨h1.trans hi.os,h2.trans hi.tape,h3.trans hi.output,Nat.le_trans hi.size h4,?_,hFb,fun b hb=>hFF b (hi.f0 b hb),?_,?_,hi.sd,?_,hi.defers,hi.slots⟩
 ·intro k hk hH
  refine(h5 k (Nat.lt_of_lt_of_le hk hi.size) fun h=> ?_).trans (hi.block k hk hH)
  rcases (hZ k h).1 with h|h
  ·omega
  ·exact hH h
 ·intro b hb h0
  by_cases hF:F b
  ·exact hi.fn b hF h0
  ·rcases hFn b hb hF with h|h
   ·exact .inl (Nat.le_trans hi.size h)
   ·exact(hZ b h).1
 ·intro t b ht
  obtain⟨g1,g2,g3⟩:=hi.sb t b ht;refine⟨g1,Nat.lt_of_lt_of_le g2 h4,fun hF=> ?_⟩
  by_cases hF':F b
  ·exact g3 hF'
  ·exact hnF t b hF hF' ht
 ·intro t
  refine aF.keep hFF hFx rfl ?_ ?_ (hi.ent t)
  ·intro q hq
   exact⟨fun _=>rfl,fun _=>rfl,rfl,fun b hb=>hSx q b hb,fun b g1 g2=>hnF q b g1 g2,fun b hb=>(hi.sb q b hb).2.2⟩
  ·intro _
   exact⟨rfl,fun b hb=>hSx t b hb,fun b g1 g2=>hnF t b g1 g2⟩

theorem inC_ok(hC:aG P C)(hi:aJ P C.np w0 F0 H env a w F S){q:Call}{o:Oper}(ho:o.op= .call q){c:Prop}{env':St}(h:inC C env o q=some (c,env'))(hc:c){K:Act->World->Prop}{Q:Exit->Act->World->Prop}
  (hK:∀a' w',Inv P C.np w0 F0 H env' a' w'->K a' w'):o.wp P a w K Q:=by
 obtain⟨callee,args,tys⟩:=q
 unfold inC at h
 simp only at h
 split at h
 ·rename_i f t zs d h3 h4
  split at h
  ·rename_i s τ m x hs ht
   cases hb:(wrB C d&&decide (m=s.m))
   ·rw[hb]at h;cases h
   rw[hb]at h;simp only[cond_true]at h;simp only[Bool.and_eq_true,decide_eq_true_eq]at hb;obtain⟨hd,hm⟩:=hb;have hd:=eA hd;split at h
   ·rename_i x1 y hx hy
    have:=aV hx
    injection this with e1 e2;subst e1;cases e2;simp only[Option.some.injEq,Prod.mk.injEq]at h;obtain⟨rfl,rfl⟩:=h;have ht1:=hi.ent t;rw[ht]at ht1;obtain⟨pl,S0,cs,hr⟩:=ht1;obtain⟨_,_,e3,e4,e5⟩:=hr.own_inj;subst e4;have hO:aT F w s.τ m (S t) (a.tmps.getD t undef) x1:=⟨cs,e5,hr.2.2⟩;rw[hm]at hO;have hi1:=hi.drop t;have hsh:cD P F w s.args (zs.map a.eval) y:=i9 hi1 (fS (f:=bR (Go.Lf.drop env t)) (fun z' _=>aX hi1 z')) hy
    obtain⟨k1,k2⟩:=hC.ins f s hs;have hcall:=k2 w F (S t) (a.tmps.getD t undef) x1 _ y hi.fb (fun k hk=>⟨(hi.sb t k hk).2.1,(hi.sb t k hk).2.2⟩) hO hsh hc
    have hrun:(execOp a.eval o).run P w= .ok (.enter f (a.tmps.getD t undef::zs.map a.eval).toArray) w:=by
     simp only[execOp,ho,resolve,Sem.run_bind,Act.eval,Deferred.ofValue,Sem.run_pure,Result.andThen,invoke];have:=k1 ((a.tmps.getD t undef::zs.map a.eval).toArray) w;rw[<-this]
     congr 1
     congr 1
     apply Array.ext'
     simp[h3,Act.eval]
    unfold Oper.wp;rw[hrun,Oper.upon_enter];refine hcall.mono ?_;intro e w' hpost;obtain⟨v,F',Sr,rfl,q1,q2,q3,q4,q5,q6,q7,q8,q9,q10⟩:=hpost;have hnt:∀k,S t k->∀u,¬(fun u=>if u=t then none' else S u) u k:=by
     intro k hk u hu;by_cases hut:u=t
     ·simp only[hut,if_true]at hu;exact hu
     ·simp only[hut,if_false]at hu;exact hi.sd u t hut k hu hk
    have hi2:=hi1.worldZ (Z:=S t) q1 q2 q3 q4 q5 (fun k hk=>⟨(hi.sb t k hk).1,(hi.sb t k hk).2.2,hnt k hk⟩) q6 (fun b hb=>q8 b (.inl hb)) q7
    obtain⟨F2,S2,hh⟩:=hi2.putNew (C:=C) (d:=d) hd (RowKit.Below.refl _ _) (fun _ h=>h) (fun k hk=>q8 k (.inl hk)) (fun k g1 g2=>absurd g1 g2) (by
     intro b hb;obtain⟨g1,g2⟩:=q9 b hb;refine⟨?_,q8 b (.inr hb),g2,?_⟩
     ·rcases g1 with g1|g1
      ·exact .inl (Nat.le_trans hi.size g1)
      ·exact(hi.sb t b g1).1
     ·intro u hu
      rcases g1 with g1|g1
      ·have:=(hi1.sb u b hu).2.1;omega
      ·exact hnt b g1 u hu) q10
    rw[h4];exact hK _ _ ⟨F2,S2,hh⟩
   ·cases h
  ·cases h
 ·cases h

def stpQ(C:Ctx)(st:St)(o:Oper):Option (Prop×St):=
 match o.op with
 | .call q=>match inC C st o q with
  |some r=>some r
  |none=>stpP C st o
 |_=>stpP C st o

theorem stpQ_ok(hC:aG P C):dM P C (stpQ C):=by
 intro w0 F0 H env env' a w o c hi h hc K Q hK
 unfold stpQ at h
 split at h
 ·rename_i q hop
  split at h
  ·rename_i r hr
   simp only[Option.some.injEq]at h;subst h;obtain⟨F,S,hi⟩:=hi;exact inC_ok hC hi hop hr hc hK
  ·exact stpP_ok hC hi h hc K Q hK
 ·exact stpP_ok hC hi h hc K Q hK
end
end Go.Lf
namespace Go.Lf

def storeO(C:Ctx)(st:St)(T:TypeId)(va vv:aP):Option (Prop×St):=
 match va.e,vv.e,vv.s with
 | .addr r [.idx i],.own σ μ' y,some t=>(match st r with
  | .own (.slice e) (.own _) xs=>(match bY (τ:=σ) (σ:=e) y with
   |some y=>bif decide (look C.tys T=some e)&& !Nat.beq t r then some (List.length xs=1,upd (cV (drop st t) r) r (.own (.slice e) (.own μ') [y]))else none
   |none=>none)
  |_=>none)
 |_,_,_=>none

def storeT(C:Ctx)(st:St)(T:TypeId)(va vv:aP):Option (Prop×St):=
 match vv.sub?,va.addr? with
 |some al,some l=>match aN al.p al.τ al.x,bI al.p al.τ al.m,aN l.p l.τ l.x,bI l.p l.τ l.m with
  |some ⟨σ',y⟩,some μ',some ⟨σ,_⟩,some μ=>(match bY (τ:=σ') (σ:=σ) y with
   |some y=>bif decide (look C.tys T=some σ)&&eD C.take al.r&&bQ [l.r,al.r]then(match eM l.p l.τ l.x σ y,modeS l μ μ' with
    |some x',some m'=>some (True,upd (yM (dropAll st [al.r]) l.r l.p) l.r (dR (st l.r) l.τ m' x'))
    |_,_=>none)else none
   |none=>none)
  |_,_,_,_=>none
 |_,_=>none

section
variable {P:Program} {C:Ctx} {N:NP} {w0:World} {F0 H:aA} {env:St} {a:Act} {w:World} {F:aA} {S:Nat->aA} {d:Nat}

theorem storeO_ok(hC:aG P C)(hi:aJ P C.np w0 F0 H env a w F S){T:TypeId}{x z:Operand}{o:Oper}(ho:o.op= .store T x z)(hod:o.dst=none)
  {c:Prop} {st':St} (h:storeO C env T (bR env x) (bR env z)=some (c,st')) (hc:c) {K:Act->World->Prop} {Q:Exit->Act->World->Prop} (hK:∀a' w',Inv P C.np w0 F0 H st' a' w'->K a' w'):o.wp P a w K Q:=by
 have hx:=aX hi x
 have hz:=aX hi z
 unfold storeO at h
 split at h
 ·rename_i r i σ μ' y t hxe hze hzs
  split at h
  ·rename_i e μ0 xs hr
   split at h
   ·rename_i y' hcast
    cases hb:(decide (look C.tys T=some e)&& !Nat.beq t r)
    ·rw[hb]at h;cases h
    rw[hb]at h;simp only[cond_true,Option.some.injEq,Prod.mk.injEq]at h;obtain⟨rfl,rfl⟩:=h;simp only[Bool.and_eq_true,decide_eq_true_eq,Bool.not_eq_true']at hb;obtain⟨hT,htr⟩:=hb;have htr:t≠r:=fun e=>by rw[aY.2 e]at htr;cases htr
    have hcd:=aV hcast
    injection hcd with e1 e2;subst e1;cases e2;have hown:=iC (e:=σ) (m:=μ') (x:=y) (l:=[t]) hi hz (by unfold aP.ownAs;rw[hze,hzs];simp[bY]);rcases hown with⟨h,_⟩|⟨t',h,hown⟩
    ·cases h
    injection h with h _;subst h;have hroot:(bR env x).r=env r:=by rw[hx.root,hxe];rfl
    obtain⟨σ1,y1,μ1,pl,S0,cs,b,off,hA,hv⟩:=gK (l:=⟨r,[.idx i],.slice σ,.own μ0,xs⟩) hi hx (by unfold aP.addr?;rw[hxe,hroot,hr];rfl);have hR:=hA.root;simp only at hR;rw[hr]at hR;obtain⟨_,_,hpl,hS0,hV⟩:=hR.own_inj;subst hS0;subst hpl;have hO:=hR.2.2;obtain⟨ao,cap,hcs,hcap,hlim,hm⟩:=hO;have hir:=hA.inr;simp only[inR]at hir;have hi0:i=0:=by have:=hir.1;omega
    subst hi0;rcases hm with⟨_,h⟩|⟨b1,off1,row,T1,Si,rfl,hb1,hrow,hsz,s,nb,dd,he⟩
    ·omega
    have hloc:=hA.loc
    rw[hcs]at hloc;simp only[loc,aK.read]at hloc;rw[if_pos (by omega)]at hloc;simp only[Option.some.injEq,Prod.mk.injEq,aK.mem.injEq]at hloc;obtain⟨rfl,rfl,rfl⟩:=hloc;obtain⟨c',hc',hvo⟩:=hown;have hsize:off1+0*σ.size+σ.size<=row.size:=by
     have:1*σ.size<=cap*σ.size:=Nat.mul_le_mul_right _ (by omega)
     omega
    obtain⟨w',k1,k2,k3,k4,k5,k6,k7⟩:=(hC.types T _ hT).storeVar (P:=P) hrow hsize hvo.len hvo.one;have hF:∀k,F k->w'.heap[k]? =w.heap[k]? :=fun k hk=>k3 k (fun e=>(hi.sb r b1 hb1).2.2 (e▸hk))
    have hSt:∀u,u≠r->∀k,S u k->w'.heap[k]? =w.heap[k]? :=fun u hu k hk=>k3 k (fun e=>hi.sd u r hu k hk (e▸hb1))
    have hvo':Own F w' σ μ' (S t) c' y:=hvo.congr hF (hSt t htr)
    have hi2:=hi.drop t
    have hdr:Go.Lf.drop env t r=env r:=by
     unfold Go.Lf.drop;rw[bG _ _ (fun e=>htr e.symm)]
     unfold cV eY;rw[hr];rfl
    have hnew:Own F w' (.slice σ) (.own μ') (fun k=>k=b1∨S t k) [.slice (some ⟨b1,off1,none⟩) 1 cap] [y]:=by
     obtain⟨g1,row0,row1,T0,g2,g3,g4,g5⟩:=k2;rw[hrow]at g2;injection g2 with g2;injection g2 with g2 _ _;subst g2;refine⟨_,cap,rfl,by rw[hc]at hcap;exact hcap,by simp[lim],.inr ⟨b1,off1,row1,T0,fun i=>if i=0 then S t else none',rfl,.inl rfl,g3,?_,?_,?_,?_,?_⟩⟩
     ·have:row1.size=row.size:=by
       have:=congrArg List.length g5
       simp only[Array.length_toList,List.length_append,List.length_take,List.length_drop,g1]at this;omega
      rw[this];exact hsz
     ·intro i b hb
      by_cases h:i=0
      ·rw[if_pos h]at hb;exact .inr hb
      ·rw[if_neg h]at hb;exact hb.elim
     ·intro i hb
      by_cases h:i=0
      ·rw[if_pos h]at hb;exact hi.sd t r htr b1 hb hb1
      ·rw[if_neg h]at hb;exact hb.elim
     ·intro i j hij b h1 h2
      by_cases h:i=0
      ·by_cases h':j=0
       ·exact hij (h.trans h'.symm)
       ·rw[if_neg h']at h2;exact h2.elim
      ·rw[if_neg h]at h1;exact h1.elim
     ·intro i x hix
      cases i with
      |succ i=>simp at hix
      |zero=>
       simp only[List.getElem?_cons_zero,Option.some.injEq]at hix;subst hix;simp only[if_true];have:seg row1.toList (off1+0*σ.size) σ.size=c':=by
        rw[g5];unfold seg;rw[List.append_assoc,List.drop_append,List.drop_eq_nil_of_le (by rw[List.length_take];omega),List.nil_append,List.length_take,Array.length_toList,Nat.min_eq_left (by omega),Nat.sub_self,List.drop_zero,List.take_append,List.take_of_length_le (by omega),g1,Nat.sub_self,List.take_zero,List.append_nil]
       rw[this];exact hvo'
    have hset2:=hi2.setRoot (r:=r) (by rw[hdr,hr];rfl) (w':=w') (Sr:=fun k=>k=b1∨S t k) (E:= .own (.slice σ) (.own μ') [y]) rfl
     k5 k6 k7 (by omega) (fun k hk hH=>k3 k (fun e=>by subst e;exact(hi.sb r k hb1).1.elim (fun h=>by omega) hH))
     (by
      rintro k (hk|⟨u,hu,hk⟩)
      ·exact hF k hk
      ·by_cases h:u=t
       ·simp[h]at hk;exact hk.elim
       ·simp only[h,if_false]at hk;exact hSt u hu k hk)
     (by
      intro k hk;have hk2:∃u,(u=r∨u=t)/\S u k:=by
       rcases hk with rfl|hk
       ·exact⟨r,.inl rfl,hb1⟩
       ·exact⟨t,.inr rfl,hk⟩
      obtain⟨u,hu,hk2⟩:=hk2;obtain⟨q1,q2,q3⟩:=hi.sb u k hk2;refine⟨q1,by omega,q3,fun v hv hk3=> ?_⟩
      by_cases h:v=t
      ·simp[h]at hk3;exact hk3
      ·simp only[h,if_false]at hk3
       exact hi.sd v u (fun e=>by rcases hu with rfl|rfl<;>contradiction) k hk3 hk2)
     (by
      simp only[aF,if_true];refine⟨.val cs,_,cs,.inl ⟨rfl,rfl,rfl,hV⟩,rfl,?_⟩;rw[hcs,hc];exact hnew)
    unfold Oper.wp;have fin:(execOp a.eval o).run P w= .ok .skip w':=by
     simp[execOp,ho,Instr.storeAt,hv,Instr.sureAddr]
     rw[hc',show off1=off1+0*σ.size by omega,k1];rfl
    rw[fin,Oper.upon_skip,hod];exact hK a w' ⟨F,_,hset2⟩
   ·cases h
  ·cases h
 ·cases h

theorem storeT_ok(hC:aG P C)(hi:aJ P C.np w0 F0 H env a w F S){T:TypeId}{x z:Operand}{o:Oper}(ho:o.op= .store T x z)(hod:o.dst=none)
  {c:Prop} {st':St} (h:storeT C env T (bR env x) (bR env z)=some (c,st')) {K:Act->World->Prop} {Q:Exit->Act->World->Prop} (hK:∀a' w',Inv P C.np w0 F0 H st' a' w'->K a' w'):o.wp P a w K Q:=by
 have hx:=aX hi x
 have hz:=aX hi z
 unfold storeT at h
 split at h
 ·rename_i al l hal hl
  obtain⟨σ1,y1,μ1,pl1,S1,cs1,pl1',cs1',hB,hrd,hvz⟩:=kD hi hz hal;obtain⟨σ2,y2,μ2,pl,S0,cs,b,off,hA,hv⟩:=gK hi hx hl;rw[hB.get,hB.mode,hA.get,hA.mode]at h;simp only at h;split at h
  ·rename_i y hcast
   have hcd:=aV hcast
   injection hcd with e1 e2;subst e1;cases e2;cases hb:(decide (look C.tys T=some σ1)&&eD C.take al.r&&bQ [l.r,al.r])
   ·rw[hb]at h;cases h
   rw[hb]at h;simp only[Bool.and_eq_true,decide_eq_true_eq]at hb;obtain⟨⟨hT,_⟩,hn⟩:=hb;simp only[cond_true]at h;split at h
   ·rename_i x' m' hset hmode
    simp only[Option.some.injEq,Prod.mk.injEq]at h;obtain⟨_,rfl⟩:=h;have hm:μ1=μ2/\m'=l.m∨gC l.p l.τ l.m μ1=some m':=by
     unfold modeS at hmode;cases hd:decide (μ1=μ2)
     ·rw[hd]at hmode;exact .inr hmode
     ·rw[hd]at hmode
      simp only[cond_true,Option.some.injEq]at hmode;exact .inl ⟨of_decide_eq_true hd,hmode.symm⟩
    obtain⟨cs2,S',f⟩:=hA.focus (fun b hb=>(hi.sb _ b hb).2.2)
    obtain⟨q1,q2,row,T0,q3,q4,q5⟩:=f.ok;have hbS:S l.r b:=(f.blk b rfl).elim (hA.root.sub b) hA.root.isB;obtain⟨cs3,S3,f3⟩:=hB.focus (fun b hb=>(hi.sb _ b hb).2.2)
    have e3:=f3.ok.read.symm.trans hrd
    simp only[Option.some.injEq]at e3;subst e3;have hown:aT F w σ1 μ1 S3 (a.eval z) y1:=⟨_,hvz,f3.own⟩;have hS3:∀k,S3 k->S al.r k:=fun k hk=>hB.root.sub k (f3.sub k hk)
    obtain⟨hnr,_⟩:=d8 hn;have hne:al.r≠l.r:=fun e=>hnr (by simp[e])
    have hdis:∀k,S3 k->¬S l.r k:=fun k hk hr=>hi.sd al.r l.r hne k (hS3 k hk) hr
    obtain⟨w',g1,g2⟩:=o7 hC hi hT hA.root f.toPlug ⟨row,T0,q3,q4⟩ hown hn (fun k hk=>⟨fun h=>hdis k hk (hA.root.sub k h.1),fun h=>hdis k hk (hA.root.isB h),.inr ⟨al.r,by simp,hS3 k hk⟩,fun e=>hdis k hk (e▸hbS)⟩) hset hm hA.get hA.mode hA.inr
    unfold Oper.wp;have fin:(execOp a.eval o).run P w= .ok .skip w':=by
     simp[execOp,ho,Instr.storeAt,hv,Instr.sureAddr,g1]
    rw[fin,Oper.upon_skip,hod];exact hK a w' g2
   ·cases h
  ·cases h
 ·cases h

def stpR(C:Ctx)(st:St)(o:Oper):Option (Prop×St):=
 match stpQ C st o with
 |some r=>some r
 |none=>match o.op with
  | .store T x v=>bif isNone o.dst then(match storeO C st T (bR st x) (bR st v)with
   |some r=>some r
   |none=>storeT C st T (bR st x) (bR st v))else none
  |_=>none

theorem stpR_ok(hC:aG P C):dM P C (stpR C):=by
 intro w0 F0 H env env' a w o c hi h hc K Q hK
 unfold stpR at h
 split at h
 ·rename_i r hr
  simp only[Option.some.injEq]at h;subst h;exact stpQ_ok hC hi hr hc K Q hK
 ·split at h
  ·rename_i T x v hop
   obtain⟨F,S,hi⟩:=hi;cases hd:isNone o.dst
   ·rw[hd]at h;cases h
   ·rw[hd]at h
    simp only[cond_true]at h;split at h
    ·rename_i r hr
     simp only[Option.some.injEq]at h;subst h;exact storeO_ok hC hi hop (fQ.1 hd) hr hc hK
    ·exact storeT_ok hC hi hop (fQ.1 hd) h hK
  ·cases h
end
end Go.Lf
namespace Go.Lf

def mvLoad(C:Ctx)(st:St)(o:Oper):Option (Prop×St):=
 match o.op,o.dst with
 | .load T (.tmp r),some d=>match st r with
  | .box (.slice e) (.own me) xs=>bif eD C.mvs d&&wrB C d&& !Nat.beq r d&&decide (look C.tys T=some (.slice e))then
    some (True,put (upd (cV st r) r (.box (.abs .hole) .shr ())) d (.own (.slice e) (.own me) xs))else none
  |_=>none
 |_,_=>none
def yJ(C:Ctx)(st:St)(o:Oper):Option (Prop×St):=
 match o.op,o.dst with
 | .store T (.tmp r) (.tmp t),none=>match st r,st t with
  | .box (.abs .hole) .shr _,.own (.slice e) μ y=>bif !Nat.beq t r&&decide (look C.tys T=some (.slice e))then
    some (True,upd (cV (drop st t) r) r (.box (.slice e) μ y))else none
  |_,_=>none
 |_,_=>none
def knoC(C:Ctx)(st:St)(o:Oper)(q:Call):Option (Prop×St):=
 match q.callee,o.dst,C.kno,C.pin with
 | .value (.tmp t),some d,some ts,some s=>bif wrB C d then(match st t,st s with
  | .shr (.abs .kno) z,.box τ m x=>bif decide (m=ts.m)then(match bY (τ:=τ) (σ:=ts.τ) x,mT ts.args (q.args.toList.map (bR st))with
   |some x1,some (y,true)=>match bY (τ:=ts.τ) (σ:=τ) (ts.fn x1 y)with
    |some x'=>some (z=some (ts.f,ts.l)/\ts.pre x1 y,restS st s d (put (upd (cV st s) s (dR (st s) τ m x')) d .dead))
    |none=>none
   |_,_=>none)else none
  |_,_=>none)else none
 |_,_,_,_=>none
def hY(C:Ctx)(st:St)(o:Oper):Option (Prop×St):=
 match mvLoad C st o with
 |some r=>some r
 |none=>match yJ C st o with
  |some r=>some r
  |none=>match o.op with
   | .call q=>match knoC C st o q with
    |some r=>some r
    |none=>stpR C st o
   |_=>stpR C st o

section
variable {P:Program} {C:Ctx} {N:NP} {w0:World} {F0 H:aA} {env:St} {a:Act} {w:World} {F:aA} {S:Nat->aA} {d:Nat}

theorem mvLoad_ok(hC:aG P C)(hi:aJ P C.np w0 F0 H env a w F S){o:Oper}{c:Prop}{env':St}(h:mvLoad C env o=some (c,env')){K:Act->World->Prop}{Q:Exit->Act->World->Prop}
  (hK:∀a' w',Inv P C.np w0 F0 H env' a' w'->K a' w'):o.wp P a w K Q:=by
 unfold mvLoad at h
 split at h
 ·rename_i T r d hop hod
  split at h
  ·rename_i e me xs hr
   cases hb:(eD C.mvs d&&wrB C d&& !Nat.beq r d&&decide (look C.tys T=some (.slice e)))
   ·rw[hb]at h;cases h
   rw[hb]at h;simp only[cond_true,Option.some.injEq,Prod.mk.injEq]at h;obtain⟨_,rfl⟩:=h;simp only[Bool.and_eq_true,decide_eq_true_eq,Bool.not_eq_true']at hb;obtain⟨⟨⟨_,hd⟩,hrd⟩,hT⟩:=hb;have hd:=eA hd;have hrd:r≠d:=fun e=>by rw[aY.2 e]at hrd;cases hrd
   have h1:=hi.ent r
   rw[hr]at h1;obtain⟨pl,S0,cs,hR⟩:=h1;obtain⟨_,_,b,rfl,hS0,hv,hsb⟩:=hR.box_inj;have hv:a.tmps.getD r undef= .pointer (some ⟨b,0,none⟩):=hv;obtain⟨q1,q2,row,T0,q3,q4,q5⟩:=hR.2.1;have hO:=hR.2.2;have hbb:=hi.sb r b hsb;have hlen:cs.length=1:=hO.len;have hset:=hi.setRoot (r:=r) (by rw[hr];rfl) (w':=w) (Sr:=fun k=>k=b) (E:= .box (.abs .hole) .shr ()) rfl rfl rfl rfl (Nat.le_refl _) (fun _ _ _=>rfl) (fun _ _=>rfl)
    (fun k hk=>by subst hk;exact⟨hbb.1,hbb.2.1,hbb.2.2,fun t ht h=>hi.sd t r ht k h hsb⟩)
    (by
     simp only[aF,if_true];refine⟨.mem b 0,fun k=>k=b/\k≠b,cs,.inr ⟨rfl,b,rfl,rfl,hv,rfl⟩,⟨fun h=>h.2 rfl,q2,row,T0,q3,q4,q5⟩,?_⟩
     match cs,hlen with
     | [v],_=>exact⟨v,rfl,hO.one v (by simp)⟩)
   have hS0d:∀k,S0 k->(w0.heap.size<=k∨H k)/\k<w.heap.size/\¬F k/\∀t,t≠d->¬(if t=r then(fun k=>k=b)else S t) k:=by
    intro k hk;rw[hS0]at hk;obtain⟨g1,g2,g3⟩:=hi.sb r k hk.1;refine⟨g1,g2,g3,fun t ht h=> ?_⟩
    by_cases htr:t=r
    ·simp only[htr,if_true]at h;exact hk.2 h
    ·simp only[htr,if_false]at h
     exact hi.sd t r htr k h hk.1
   have hput:=hset.put (d:=d) (e:= .own (.slice e) (.own me) xs) (v:=bH (.slice e) cs) (w':=w) (F':=F) (Sd:=S0) hd (RowKit.Below.refl _ _) (fun _ h=>h) hi.fb (fun k h1 h2=>absurd h1 h2) hS0d (by
    simp only[aF,if_true];refine⟨.val cs,S0,cs,.inl ⟨rfl,rfl,rfl,?_⟩,rfl,hO⟩;rw[Act.getD_put (by rw[hi.slots.size];exact hd.1),if_pos rfl])
   have hrun:(execOp a.eval o).run P w= .ok (.value (bH (.slice e) cs)) w:=by
    have hx:a.eval (.tmp r)= .pointer (some ⟨b,0,none⟩):=hv
    simp only[execOp,hop,hx];simp[Instr.loadAt,Instr.sureAddr,(hC.types T _ hT).loadVar q3 q4,q5]
   unfold Oper.wp;rw[hrun,Oper.upon_value,hod];exact hK _ _ ⟨F,_,hput⟩
  ·cases h
 ·cases h

theorem mvStore_ok(hC:aG P C)(hi:aJ P C.np w0 F0 H env a w F S){o:Oper}{c:Prop}{env':St}(h:yJ C env o=some (c,env')){K:Act->World->Prop}{Q:Exit->Act->World->Prop}
  (hK:∀a' w',Inv P C.np w0 F0 H env' a' w'->K a' w'):o.wp P a w K Q:=by
 unfold yJ at h
 split at h
 ·rename_i T r t hop hod
  split at h
  ·rename_i u e μ y hr ht
   cases hb:(!Nat.beq t r&&decide (look C.tys T=some (.slice e)))
   ·rw[hb]at h;cases h
   rw[hb]at h;simp only[cond_true,Option.some.injEq,Prod.mk.injEq]at h;obtain⟨_,rfl⟩:=h;simp only[Bool.and_eq_true,decide_eq_true_eq,Bool.not_eq_true']at hb;obtain⟨htr,hT⟩:=hb;have htr:t≠r:=fun e=>by rw[aY.2 e]at htr;cases htr
   have h1:=hi.ent r
   rw[hr]at h1;obtain⟨pl,S0,cs,hR⟩:=h1;obtain⟨_,_,b,rfl,hS0,hv,hsb⟩:=hR.box_inj;have hv:a.tmps.getD r undef= .pointer (some ⟨b,0,none⟩):=hv;obtain⟨q1,q2,row,T0,q3,q4,q5⟩:=hR.2.1;have hbb:=hi.sb r b hsb;have h2:=hi.ent t;rw[ht]at h2;obtain⟨pl2,S2,cs2,hR2⟩:=h2;obtain⟨_,_,hpl2,hS2,hV2⟩:=hR2.own_inj;have hO:=hR2.2.2;subst hS2;obtain⟨w',k1,k2,k3,k4,k5,k6,k7⟩:=(hC.types T _ hT).storeVar (P:=P) q3 (show 0+(Ty.slice e).size<=row.size from q4) hO.len hO.one;have hF:∀k,F k->w'.heap[k]? =w.heap[k]? :=fun k hk=>k3 k (fun e=>hbb.2.2 (e▸hk))
   have hSt:∀u,u≠r->∀k,S u k->w'.heap[k]? =w.heap[k]? :=fun u hu k hk=>k3 k (fun e=>hi.sd u r hu k hk (e▸hsb))
   have hO':Own F w' (.slice e) μ (S t) cs2 y:=hO.congr hF (hSt t htr)
   have hi2:=hi.drop t
   have hdr:Go.Lf.drop env t r=env r:=by
    unfold Go.Lf.drop;rw[bG _ _ (fun e=>htr e.symm)]
    unfold cV eY;rw[hr];rfl
   have hset2:=hi2.setRoot (r:=r) (by rw[hdr,hr];rfl) (w':=w') (Sr:=fun k=>k=b∨S t k) (E:= .box (.slice e) μ y) rfl
    k5 k6 k7 (by omega) (fun k hk hH=>k3 k (fun e=>by subst e;exact hbb.1.elim (fun h=>by omega) hH))
    (by
     rintro k (hk|⟨u,hu,hk⟩)
     ·exact hF k hk
     ·by_cases h:u=t
      ·simp[h]at hk;exact hk.elim
      ·simp only[h,if_false]at hk;exact hSt u hu k hk)
    (by
     intro k hk;have hk2:∃u,(u=r∨u=t)/\S u k:=by
      rcases hk with rfl|hk
      ·exact⟨r,.inl rfl,hsb⟩
      ·exact⟨t,.inr rfl,hk⟩
     obtain⟨u,hu,hk2⟩:=hk2;obtain⟨g1,g2,g3⟩:=hi.sb u k hk2;refine⟨g1,by omega,g3,fun v hv hk3=> ?_⟩
     by_cases h:v=t
     ·simp[h]at hk3;exact hk3
     ·simp only[h,if_false]at hk3
      exact hi.sd v u (fun e=>by rcases hu with rfl|rfl<;>contradiction) k hk3 hk2)
    (by
     simp only[aF,if_true];obtain⟨g1,row0,row1,T1,g2,g3,g4,g5⟩:=k2;rw[q3]at g2;injection g2 with g2;injection g2 with g2 _ _;subst g2;have hnb:¬S t b:=fun h=>hi.sd t r htr b h hsb
     have hsz:0+1<=row.size:=q4
     have hl1:row1.size=row.size:=by
      have:=congrArg List.length g5
      simp only[Array.length_toList,List.length_append,List.length_take,List.length_drop,g1,Ty.size]at this;omega
     refine⟨.mem b 0,S t,cs2,.inr ⟨rfl,b,rfl,?_,hv,.inl rfl⟩,⟨hnb,hbb.2.2,row1,T1,g3,by rw[hl1];exact q4,?_⟩,hO'⟩
     ·funext k
      by_cases hk:k=b
      ·subst hk;simp[hnb]
      ·simp[hk]
     ·rw[g5]
      unfold seg;rw[List.take_zero,List.nil_append,List.drop_zero,List.take_append,List.take_of_length_le (by rw[g1];exact Nat.le_refl _),g1,Nat.sub_self,List.take_zero,List.append_nil])
   unfold Oper.wp;have hx:a.eval (.tmp r)= .pointer (some ⟨b,0,none⟩):=hv;have hz:a.eval (.tmp t)=bH (.slice e) cs2:=hV2;have fin:(execOp a.eval o).run P w= .ok .skip w':=by
    simp[execOp,hop,Instr.storeAt,hx,hz,Instr.sureAddr,k1]
   rw[fin,Oper.upon_skip,hod];exact hK a w' ⟨F,_,hset2⟩
  ·cases h
 ·cases h

theorem knoC_ok(hC:aG P C)(hi:aJ P C.np w0 F0 H env a w F S){q:Call}{o:Oper}(ho:o.op= .call q){c:Prop}{env':St}(h:knoC C env o q=some (c,env'))(hc:c){K:Act->World->Prop}{Q:Exit->Act->World->Prop}
  (hK:∀a' w',Inv P C.np w0 F0 H env' a' w'->K a' w'):o.wp P a w K Q:=by
 obtain⟨callee,args,tys⟩:=q
 unfold knoC at h
 simp only at h
 split at h
 ·rename_i t d ts s h3 h4 h5
  cases hb:wrB C d
  ·rw[hb]at h;cases h
  rw[hb]at h;simp only[cond_true]at h;split at h
  ·rename_i z τ m x ht hs
   cases hf:decide (m=ts.m)
   ·rw[hf]at h;cases h
   rw[hf]at h;simp only[cond_true]at h;have hm:=of_decide_eq_true hf;split at h
   ·rename_i x1 y hx hy
    have:=aV hx
    injection this with e1 e2;subst e1;cases e2;split at h
    ·rename_i x' hx'
     have:=aV hx'
     injection this with _ e3;cases e3;simp only[Option.some.injEq,Prod.mk.injEq]at h;obtain⟨rfl,rfl⟩:=h;obtain⟨rfl,hpre⟩:=hc;have ht1:=hi.ent t;rw[ht]at ht1;obtain⟨cs1,hv1,caps,hcs,hcap⟩:=ht1;have hvt:a.tmps.getD t undef= .func (.func ts.f) #[] caps:=by
      have hv1:a.tmps.getD t undef=_:=hv1
      rw[hv1,hcs];rfl
     have hs1:=hi.ent s
     rw[hs]at hs1;obtain⟨pl,S0,cs,hr⟩:=hs1;obtain⟨_,_,b,rfl,hS0,hvs,hsb⟩:=hr.box_inj;have hvs:a.tmps.getD s undef= .pointer (some ⟨b,0,none⟩):=hvs;have hpin:=hi.slots.pin s h5;have hbb:b=C.q:=by
      rw[hvs]at hpin;injection hpin with hpin;injection hpin with hpin;injection hpin
     subst hbb;have hb':=hi.sb s _ hsb;have hsh:cD P F w ts.args (args.toList.map a.eval) y:=i9 hi (fS (f:=bR env) (fun z' _=>aX hi z')) hy
     obtain⟨k1,k2⟩:=hC.kno ts h4;have k2:=k2 w F S0 cs x1 caps _ y hb'.2.1 hi.fb (fun k hk=>by
      rw[hS0]at hk;exact⟨(hi.sb s k hk.1).2.1,(hi.sb s k hk.1).2.2⟩) hr.2.1 (by rw[<-hm];exact hr.2.2) hcap hsh hpre
     have hrun:(execOp a.eval o).run P w= .ok (.enter ts.f ((args.toList.map a.eval).toArray++caps)) w:=by
      simp only[execOp,ho,resolve,Sem.run_bind,Act.eval,hvt,Deferred.ofValue,Sem.run_pure,Result.andThen,invoke];have:=k1 ((args.toList.map a.eval).toArray++caps) w;rw[<-this]
      congr 1
      congr 1
      apply Array.ext'
      simp[Act.eval]
     unfold Oper.wp;rw[hrun,Oper.upon_enter];refine k2.mono ?_;intro e w' hpost;obtain⟨v,F2,S2,rfl,hh⟩:=hi.putPtr (C:=C) (s:=ts.p) (y:=y) (eA hb) hs hvs hS0 hsb (.inr hm) hpost;rw[h3];exact hK _ _ ⟨F2,S2,hi.restore rfl hh hs hvs (by rw[hs];rfl) (fun t ht=>by rw[Act.getD_put (by rw[hi.slots.size];exact(eA hb).1),if_neg ht])⟩
    ·cases h
   ·cases h
  ·cases h
 ·cases h

theorem cU(hC:aG P C):dM P C (hY C):=by
 intro w0 F0 H env env' a w o c hi h hc K Q hK
 unfold hY at h
 split at h
 ·rename_i r hr
  simp only[Option.some.injEq]at h;subst h;obtain⟨F,S,hi⟩:=hi;exact mvLoad_ok hC hi hr hK
 ·split at h
  ·rename_i r hr
   simp only[Option.some.injEq]at h;subst h;obtain⟨F,S,hi⟩:=hi;exact mvStore_ok hC hi hr hK
  ·split at h
   ·rename_i q hop
    split at h
    ·rename_i r hr
     simp only[Option.some.injEq]at h;subst h;obtain⟨F,S,hi⟩:=hi;exact knoC_ok hC hi hop hr hc hK
    ·exact stpR_ok hC hi h hc K Q hK
   ·exact stpR_ok hC hi h hc K Q hK
end
end Go.Lf
namespace Go.Lf

section
variable {P:Program} {C:Ctx} {N:NP} {w0:World} {F0 H:aA} {env:St} {a:Act} {w:World} {F:aA} {S:Nat->aA} {d:Nat}

end
end Go.Lf
namespace Go.Lf
theorem z1:∀(p:Prop),(True/\p)=p:=@true_and
theorem z2:∀(p:Prop),(p/\True)=p:=@and_true
theorem z3.{u_1}:∀ {α:Sort u_1} (a:α),(a=a)=True:=@eq_self
theorem z4.{u_1}:∀ {b:Prop} (α:Sort u_1) [i:Nonempty α],(∀(a:α),b)↔b:=@forall_const
theorem z5:∀ {p:Prop} [inst:Decidable p],(decide p=Bool.true)=p:=@decide_eq_true_eq
theorem z6:∀ {p:Prop} {x:Decidable p},decide p=Bool.false↔¬p:=@decide_eq_false_iff_not
theorem z7:∀ {a b:Int},¬a<b↔b<=a:=@Int.not_lt
theorem z8:∀ {a b:Int},¬a<=b↔b<a:=@Int.not_le
theorem z9:∀(a b:Bool),((a&&b)=Bool.true)=(a=Bool.true/\b=Bool.true):=@Bool.and_eq_true
theorem z10:∀(p:Prop),(True->p)=p:=@true_implies
theorem z11.{u_1}:∀(α:Sort u_1),(∀(a:α),True)=True:=@implies_true
theorem z12:∀(b:Bool),((!b)=Bool.true)=(b=Bool.false):=@Bool.not_eq_true'
theorem z13:∀(b:Bool),((!b)=Bool.false)=(b=Bool.true):=@Bool.not_eq_false'
theorem z14:∀(p:Prop),(False->p)=True:=@false_implies
theorem z15:(Bool.false=Bool.true)=False:=@Bool.false_eq_true
theorem z16:(Bool.true=Bool.false)=False:=@Bool.true_eq_false
theorem z17:∀(p:Prop),(p/\p)=p:=@and_self
theorem z18.{u_1}:∀ {α:Type u_1} [inst:BEq α] [LawfulBEq α] {a b:α},(a==b)=Bool.true↔a=b:=@beq_iff_eq
theorem z19.{u_1}:∀ {α:Type u_1} [inst:BEq α] [LawfulBEq α] {a b:α},(a==b)=Bool.false↔a≠b:=@beq_eq_false_iff_ne
theorem z20.{u_1}:∀ {α:Sort u_1} (a b:α),(a≠b)=¬a=b:=@ne_eq
theorem z21:∀(n:Nat),((n:Int)).toNat=n:=@Int.toNat_natCast
theorem z22:∀(c t:Bool),(bif c then t else Bool.false)=(c&&t):=@Bool.cond_false_right
theorem z23:∀(c f:Bool),(bif c then Bool.true else f)=(c||f):=@Bool.cond_true_left
theorem z24:∀ {b a:Prop},(∃_h:a,b)↔a/\b:=@exists_prop
theorem z25.{u_1}:∀ {α:Type u_1} [inst:LE α] {x y:α},x≥y↔y<=x:=@ge_iff_le
theorem z26.{u_1}:∀ {α:Type u_1} [inst:LT α] {x y:α},x>y↔y<x:=@gt_iff_lt
theorem z27.{u_1}:∀ {α:Type u_1} {a:α},[a].length=1:=@List.length_singleton
theorem z28.{u_1}:∀ {α:Type u_1},([]:List α).length=0:=@List.length_nil
theorem z29.{u_1}:∀ {α:Type u_1} (l0:List α),[]++l0=l0:=@List.nil_append
theorem z30.{u_1}:∀ {α:Type u_1} {l0 l1:List α},l0.append l1=l0++l1:=@List.append_eq
theorem z31:∀(c f:Bool),(bif c then Bool.false else f)=(!c&&f):=@Bool.cond_false_left
theorem z32:∀(c t:Bool),(bif c then t else Bool.true)=(!c||t):=@Bool.cond_true_right
theorem z33:∀(b:Bool),(b||Bool.false)=b:=@Bool.or_false
theorem z34:∀(b:Bool),(b&&Bool.true)=b:=@Bool.and_true
theorem z35:∀ {x y:Bool},(x||y)=Bool.false↔x=Bool.false/\y=Bool.false:=@Bool.or_eq_false_iff
theorem z36:∀(b:Bool),(¬b=Bool.true)=(b=Bool.false):=@Bool.not_eq_true
theorem z37.{u_1}:∀ {α:Type u_1} [inst:BEq α] [LawfulBEq α] {a b:α},(a !=b)=Bool.true↔a≠b:=@bne_iff_ne
theorem z38.{u_1}:∀ {α:Type u_1} [inst:BEq α] [LawfulBEq α] {a b:α},(a !=b)=Bool.false↔a=b:=@bne_eq_false_iff_eq
theorem zz:(∀(p:Prop),(True/\p)=p)/\(∀(p:Prop),(p/\True)=p)/\(∀ {p:Prop} [inst:Decidable p],(decide p=Bool.true)=p)/\(∀ {p:Prop} {x:Decidable p},decide p=Bool.false↔¬p)/\(∀ {a b:Int},¬a<b↔b<=a)/\(∀ {a b:Int},¬a<=b↔b<a)/\(∀(a b:Bool),((a&&b)=Bool.true)=(a=Bool.true/\b=Bool.true))/\(∀(p:Prop),(True->p)=p)/\(∀(b:Bool),((!b)=Bool.true)=(b=Bool.false))/\(∀(b:Bool),((!b)=Bool.false)=(b=Bool.true))/\(∀(p:Prop),(False->p)=True)/\((Bool.false=Bool.true)=False)/\((Bool.true=Bool.false)=False)/\(∀(p:Prop),(p/\p)=p)/\(∀(n:Nat),((n:Int)).toNat=n)/\(∀(c t:Bool),(bif c then t else Bool.false)=(c&&t))/\(∀(c f:Bool),(bif c then Bool.true else f)=(c||f))/\(∀ {b a:Prop},(∃_h:a,b)↔a/\b)/\(∀(c f:Bool),(bif c then Bool.false else f)=(!c&&f))/\(∀(c t:Bool),(bif c then t else Bool.true)=(!c||t))/\(∀(b:Bool),(b||Bool.false)=b)/\(∀(b:Bool),(b&&Bool.true)=b)/\(∀ {x y:Bool},(x||y)=Bool.false↔x=Bool.false/\y=Bool.false)/\(∀(b:Bool),(¬b=Bool.true)=(b=Bool.false)):=⟨z1,z2,z5,z6,z7,z8,z9,z10,z12,z13,z14,z15,z16,z17,z21,z22,z23,z24,z31,z32,z33,z34,z35,z36⟩
theorem zy.{u_1}:(∀ {α:Sort u_1} (a:α),(a=a)=True)/\(∀ {b:Prop} (α:Sort u_1) [i:Nonempty α],(∀(a:α),b)↔b)/\(∀(α:Sort u_1),(∀(a:α),True)=True)/\(∀ {α:Type u_1} [inst:BEq α] [LawfulBEq α] {a b:α},(a==b)=Bool.true↔a=b)/\(∀ {α:Type u_1} [inst:BEq α] [LawfulBEq α] {a b:α},(a==b)=Bool.false↔a≠b)/\(∀ {α:Sort u_1} (a b:α),(a≠b)=¬a=b)/\(∀ {α:Type u_1} [inst:LE α] {x y:α},x≥y↔y<=x)/\(∀ {α:Type u_1} [inst:LT α] {x y:α},x>y↔y<x)/\(∀ {α:Type u_1} {a:α},[a].length=1)/\(∀ {α:Type u_1},([]:List α).length=0)/\(∀ {α:Type u_1} (l0:List α),[]++l0=l0)/\(∀ {α:Type u_1} {l0 l1:List α},l0.append l1=l0++l1)/\(∀ {α:Type u_1} [inst:BEq α] [LawfulBEq α] {a b:α},(a !=b)=Bool.true↔a≠b)/\(∀ {α:Type u_1} [inst:BEq α] [LawfulBEq α] {a b:α},(a !=b)=Bool.false↔a=b):=⟨z3,z4,z11,z18,z19,z20,z25,z26,z27,z28,z29,z30,z37,z38⟩
end Go.Lf
namespace Sp
abbrev Opd:=Int×Int×Int×Unit
abbrev Inst:=Int×Int×Int×Opd×Opd×Opd×Opd×Unit
abbrev Term:=Int×Int×Opd×Opd×Opd×List Int×Unit
abbrev Block:=List Inst×Term×Unit
abbrev Arr:=List UInt8×Int×Int×Int×Unit
abbrev Loop:=Int×Int×Int×Unit
abbrev Code:=Int×Int×Int×Int×Int×List Arr×List Loop×List Block×Unit
abbrev Mk:=List Int×Int×Code×Unit
abbrev Uni:=List Bool×List Bool×Unit
abbrev Wk:=Code×List Bool×List Int×Unit
abbrev Pln:=Bool×List Bool×Int×Unit
abbrev Cpd:=List Inst×Int×List Int×Unit
end Sp
namespace Go.User
open Go.Lf Go.Proofs
abbrev tI:Ty:= .int .i64
abbrev tU8:Ty:= .int .u8
abbrev tRaw:Ty:= .prod (.slice tU8) .unit
abbrev aM:Ty:= .prod tI (.prod tI (.prod (.int .i32) .unit))
abbrev aC:Ty:= .prod tI (.prod tI (.prod tI (.prod aM (.prod aM (.prod aM (.prod aM .unit))))))
abbrev oV:Ty:= .prod tI (.prod tI (.prod aM (.prod aM (.prod aM (.prod (.arr 2 tI) .unit)))))
abbrev eW:Ty:= .prod (.slice aC) (.prod oV .unit)
abbrev cC:Ty:= .prod .str (.prod tI (.prod tI (.prod tI .unit)))
abbrev bC:Ty:= .prod tI (.prod tI (.prod tI .unit))
abbrev bF:Ty:= .prod tI (.prod tI (.prod tI (.prod tI (.prod tI (.prod (.slice cC) (.prod (.slice bC) (.prod (.slice eW) .unit)))))))
abbrev tMk:Ty:= .prod (.slice tU8) (.prod tI (.prod bF .unit))
abbrev gH:Ty:= .prod (.slice .bool) (.prod (.slice .bool) .unit)
abbrev jB:Ty:= .prod (.slice tI) .unit
abbrev tDn:Ty:= .prod bF (.prod jB .unit)
abbrev tWk:Ty:= .prod bF (.prod (.slice .bool) (.prod (.slice tI) .unit))
abbrev tPln:Ty:= .prod .bool (.prod (.arr 2 .bool) (.prod tI .unit))
abbrev qU:Ty:= .prod (.slice aC) (.prod tI (.prod (.slice tI) .unit))
abbrev tFrm:Ty:= .prod tI (.prod .str (.prod .bool (.prod .bool (.prod .bool (.prod tI .unit)))))
end Go.User
namespace Go.User
open Go.Lf Go.Proofs
def cS(q:Nat):List (TypeId×Ty):=[(2,tI),(3,tI),(4,.bool),(5,tU8),(9,.str),(21,.int .i32),(22,.slice tU8),(23,tRaw),(24,tRaw),(25,.arr 2 (.slice tU8)),(27,.slice cC),(28,.slice bC),(29,.slice eW),(30,bF),(31,bF),(33,.slice .bool),(34,gH),(35,gH),(37,.slice tI),(38,jB),(39,jB),(40,tDn),(41,tDn),(45,tI),(49,.arr 3 tU8),(51,.slice aC),(52,aM),(53,aM),(54,.arr 2 tI),(55,oV),(56,oV),(57,eW),(58,eW),(60,aC),(61,aC),(64,cC),(65,cC),(81,bC),(82,bC),(88,tMk),(89,tMk),(97,.abs .ptr),(101,tWk),(102,tWk),(104,.abs .map),(105,.arr 2 (.abs .map)),(118,.arr 2 .bool),(119,tPln),(120,tPln),(122,.slice tI),(123,qU),(124,qU),(125,.arr 2 qU),(133,.slice tFrm),(136,tFrm),(137,tFrm)]
def eqs:List TypeId:=[53,54,56,61,65,82]

theorem rows_all{P:Program}{tys0:List (TypeId×Ty)}:∀(l:List (TypeId×Ty)),(∀x∈l,bB P tys0 x.1 x.2)->∀T τ,Lf.look l T=some τ->bB P tys0 T τ
 | [],_,T,τ,h=>by cases h
 |x::l,h,T,τ,hl=>by
  simp only[Lf.look]at hl;cases hb:Nat.beq x.1 T
  ·rw[hb]at hl;exact rows_all l (fun y hy=>h y (by simp[hy])) T τ hl
  ·rw[hb]at hl
   have:=Nat.eq_of_beq_eq_true hb
   simp only[cond_true,Option.some.injEq]at hl;rw[<-this,<-hl];exact h x (by simp)
theorem jJ(q:Nat):bB Try.prog (cS q) 2 (tI):=⟨Try.t2,_,by kernel_rfl,Try.underlying2,by kernel_rfl,by decide,by kernel_rfl,by kernel_rfl⟩
theorem row3(q:Nat):bB Try.prog (cS q) 3 (tI):=⟨Try.t3,_,by kernel_rfl,Try.underlying3,by kernel_rfl,by decide,by kernel_rfl,by kernel_rfl⟩
theorem row4(q:Nat):bB Try.prog (cS q) 4 (.bool):=⟨Try.t4,_,by kernel_rfl,Try.underlying4,by kernel_rfl,by decide,by kernel_rfl,by kernel_rfl⟩
theorem row5(q:Nat):bB Try.prog (cS q) 5 (tU8):=⟨Try.t5,_,by kernel_rfl,Try.underlying5,by kernel_rfl,by decide,by kernel_rfl,by kernel_rfl⟩
theorem row9(q:Nat):bB Try.prog (cS q) 9 (.str):=⟨Try.t9,_,by kernel_rfl,Try.underlying9,by kernel_rfl,by decide,by kernel_rfl,by kernel_rfl⟩
theorem row21(q:Nat):bB Try.prog (cS q) 21 (.int .i32):=⟨Try.t21,_,by kernel_rfl,Try.underlying21,by kernel_rfl,by decide,by kernel_rfl,by kernel_rfl⟩
theorem row22(q:Nat):bB Try.prog (cS q) 22 (.slice tU8):=⟨Try.t22,_,by kernel_rfl,Try.underlying22,by kernel_rfl,by decide,by kernel_rfl,by kernel_rfl⟩
theorem row23(q:Nat):bB Try.prog (cS q) 23 (tRaw):=⟨Try.t23,_,by kernel_rfl,Try.underlying23,by kernel_rfl,by decide,by kernel_rfl,by kernel_rfl⟩
theorem row24(q:Nat):bB Try.prog (cS q) 24 (tRaw):=⟨Try.t24,_,by kernel_rfl,Try.underlying24,by kernel_rfl,by decide,by kernel_rfl,by kernel_rfl⟩
theorem row25(q:Nat):bB Try.prog (cS q) 25 (.arr 2 (.slice tU8)):=⟨Try.t25,_,by kernel_rfl,Try.underlying25,by kernel_rfl,by decide,by kernel_rfl,by kernel_rfl⟩
theorem row27(q:Nat):bB Try.prog (cS q) 27 (.slice cC):=⟨Try.t27,_,by kernel_rfl,Try.underlying27,by kernel_rfl,by decide,by kernel_rfl,by kernel_rfl⟩
theorem row28(q:Nat):bB Try.prog (cS q) 28 (.slice bC):=⟨Try.t28,_,by kernel_rfl,Try.underlying28,by kernel_rfl,by decide,by kernel_rfl,by kernel_rfl⟩
theorem row29(q:Nat):bB Try.prog (cS q) 29 (.slice eW):=⟨Try.t29,_,by kernel_rfl,Try.underlying29,by kernel_rfl,by decide,by kernel_rfl,by kernel_rfl⟩
theorem row30(q:Nat):bB Try.prog (cS q) 30 (bF):=⟨Try.t30,_,by kernel_rfl,Try.underlying30,by kernel_rfl,by decide,by kernel_rfl,by kernel_rfl⟩
theorem row31(q:Nat):bB Try.prog (cS q) 31 (bF):=⟨Try.t31,_,by kernel_rfl,Try.underlying31,by kernel_rfl,by decide,by kernel_rfl,by kernel_rfl⟩
theorem row33(q:Nat):bB Try.prog (cS q) 33 (.slice .bool):=⟨Try.t33,_,by kernel_rfl,Try.underlying33,by kernel_rfl,by decide,by kernel_rfl,by kernel_rfl⟩
theorem row34(q:Nat):bB Try.prog (cS q) 34 (gH):=⟨Try.t34,_,by kernel_rfl,Try.underlying34,by kernel_rfl,by decide,by kernel_rfl,by kernel_rfl⟩
theorem row35(q:Nat):bB Try.prog (cS q) 35 (gH):=⟨Try.t35,_,by kernel_rfl,Try.underlying35,by kernel_rfl,by decide,by kernel_rfl,by kernel_rfl⟩
theorem row37(q:Nat):bB Try.prog (cS q) 37 (.slice tI):=⟨Try.t37,_,by kernel_rfl,Try.underlying37,by kernel_rfl,by decide,by kernel_rfl,by kernel_rfl⟩
theorem row38(q:Nat):bB Try.prog (cS q) 38 (jB):=⟨Try.t38,_,by kernel_rfl,Try.underlying38,by kernel_rfl,by decide,by kernel_rfl,by kernel_rfl⟩
theorem row39(q:Nat):bB Try.prog (cS q) 39 (jB):=⟨Try.t39,_,by kernel_rfl,Try.underlying39,by kernel_rfl,by decide,by kernel_rfl,by kernel_rfl⟩
theorem row40(q:Nat):bB Try.prog (cS q) 40 (tDn):=⟨Try.t40,_,by kernel_rfl,Try.underlying40,by kernel_rfl,by decide,by kernel_rfl,by kernel_rfl⟩
theorem row41(q:Nat):bB Try.prog (cS q) 41 (tDn):=⟨Try.t41,_,by kernel_rfl,Try.underlying41,by kernel_rfl,by decide,by kernel_rfl,by kernel_rfl⟩
theorem row45(q:Nat):bB Try.prog (cS q) 45 (tI):=⟨Try.t45,_,by kernel_rfl,Try.underlying45,by kernel_rfl,by decide,by kernel_rfl,by kernel_rfl⟩
theorem row49(q:Nat):bB Try.prog (cS q) 49 (.arr 3 tU8):=⟨Try.t49,_,by kernel_rfl,Try.underlying49,by kernel_rfl,by decide,by kernel_rfl,by kernel_rfl⟩
theorem row51(q:Nat):bB Try.prog (cS q) 51 (.slice aC):=⟨Try.t51,_,by kernel_rfl,Try.underlying51,by kernel_rfl,by decide,by kernel_rfl,by kernel_rfl⟩
theorem row52(q:Nat):bB Try.prog (cS q) 52 (aM):=⟨Try.t52,_,by kernel_rfl,Try.underlying52,by kernel_rfl,by decide,by kernel_rfl,by kernel_rfl⟩
theorem row53(q:Nat):bB Try.prog (cS q) 53 (aM):=⟨Try.t53,_,by kernel_rfl,Try.underlying53,by kernel_rfl,by decide,by kernel_rfl,by kernel_rfl⟩
theorem row54(q:Nat):bB Try.prog (cS q) 54 (.arr 2 tI):=⟨Try.t54,_,by kernel_rfl,Try.underlying54,by kernel_rfl,by decide,by kernel_rfl,by kernel_rfl⟩
theorem row55(q:Nat):bB Try.prog (cS q) 55 (oV):=⟨Try.t55,_,by kernel_rfl,Try.underlying55,by kernel_rfl,by decide,by kernel_rfl,by kernel_rfl⟩
theorem row56(q:Nat):bB Try.prog (cS q) 56 (oV):=⟨Try.t56,_,by kernel_rfl,Try.underlying56,by kernel_rfl,by decide,by kernel_rfl,by kernel_rfl⟩
theorem row57(q:Nat):bB Try.prog (cS q) 57 (eW):=⟨Try.t57,_,by kernel_rfl,Try.underlying57,by kernel_rfl,by decide,by kernel_rfl,by kernel_rfl⟩
theorem row58(q:Nat):bB Try.prog (cS q) 58 (eW):=⟨Try.t58,_,by kernel_rfl,Try.underlying58,by kernel_rfl,by decide,by kernel_rfl,by kernel_rfl⟩
theorem row60(q:Nat):bB Try.prog (cS q) 60 (aC):=⟨Try.t60,_,by kernel_rfl,Try.underlying60,by kernel_rfl,by decide,by kernel_rfl,by kernel_rfl⟩
theorem row61(q:Nat):bB Try.prog (cS q) 61 (aC):=⟨Try.t61,_,by kernel_rfl,Try.underlying61,by kernel_rfl,by decide,by kernel_rfl,by kernel_rfl⟩
theorem row64(q:Nat):bB Try.prog (cS q) 64 (cC):=⟨Try.t64,_,by kernel_rfl,Try.underlying64,by kernel_rfl,by decide,by kernel_rfl,by kernel_rfl⟩
theorem row65(q:Nat):bB Try.prog (cS q) 65 (cC):=⟨Try.t65,_,by kernel_rfl,Try.underlying65,by kernel_rfl,by decide,by kernel_rfl,by kernel_rfl⟩
theorem row81(q:Nat):bB Try.prog (cS q) 81 (bC):=⟨Try.t81,_,by kernel_rfl,Try.underlying81,by kernel_rfl,by decide,by kernel_rfl,by kernel_rfl⟩
theorem row82(q:Nat):bB Try.prog (cS q) 82 (bC):=⟨Try.t82,_,by kernel_rfl,Try.underlying82,by kernel_rfl,by decide,by kernel_rfl,by kernel_rfl⟩
theorem row88(q:Nat):bB Try.prog (cS q) 88 (tMk):=⟨Try.t88,_,by kernel_rfl,Try.underlying88,by kernel_rfl,by decide,by kernel_rfl,by kernel_rfl⟩
theorem row89(q:Nat):bB Try.prog (cS q) 89 (tMk):=⟨Try.t89,_,by kernel_rfl,Try.underlying89,by kernel_rfl,by decide,by kernel_rfl,by kernel_rfl⟩
theorem row97(q:Nat):bB Try.prog (cS q) 97 (.abs .ptr):=⟨Try.t97,_,by kernel_rfl,Try.underlying97,by kernel_rfl,by decide,by kernel_rfl,by kernel_rfl⟩
theorem row101(q:Nat):bB Try.prog (cS q) 101 (tWk):=⟨Try.t101,_,by kernel_rfl,Try.underlying101,by kernel_rfl,by decide,by kernel_rfl,by kernel_rfl⟩
theorem row102(q:Nat):bB Try.prog (cS q) 102 (tWk):=⟨Try.t102,_,by kernel_rfl,Try.underlying102,by kernel_rfl,by decide,by kernel_rfl,by kernel_rfl⟩
theorem row104(q:Nat):bB Try.prog (cS q) 104 (.abs .map):=⟨Try.t104,_,by kernel_rfl,Try.underlying104,by kernel_rfl,by decide,by kernel_rfl,by kernel_rfl⟩
theorem row105(q:Nat):bB Try.prog (cS q) 105 (.arr 2 (.abs .map)):=⟨Try.t105,_,by kernel_rfl,Try.underlying105,by kernel_rfl,by decide,by kernel_rfl,by kernel_rfl⟩
theorem row118(q:Nat):bB Try.prog (cS q) 118 (.arr 2 .bool):=⟨Try.t118,_,by kernel_rfl,Try.underlying118,by kernel_rfl,by decide,by kernel_rfl,by kernel_rfl⟩
theorem row119(q:Nat):bB Try.prog (cS q) 119 (tPln):=⟨Try.t119,_,by kernel_rfl,Try.underlying119,by kernel_rfl,by decide,by kernel_rfl,by kernel_rfl⟩
theorem row120(q:Nat):bB Try.prog (cS q) 120 (tPln):=⟨Try.t120,_,by kernel_rfl,Try.underlying120,by kernel_rfl,by decide,by kernel_rfl,by kernel_rfl⟩
theorem row122(q:Nat):bB Try.prog (cS q) 122 (.slice tI):=⟨Try.t122,_,by kernel_rfl,Try.underlying122,by kernel_rfl,by decide,by kernel_rfl,by kernel_rfl⟩
theorem row123(q:Nat):bB Try.prog (cS q) 123 (qU):=⟨Try.t123,_,by kernel_rfl,Try.underlying123,by kernel_rfl,by decide,by kernel_rfl,by kernel_rfl⟩
theorem row124(q:Nat):bB Try.prog (cS q) 124 (qU):=⟨Try.t124,_,by kernel_rfl,Try.underlying124,by kernel_rfl,by decide,by kernel_rfl,by kernel_rfl⟩
theorem row125(q:Nat):bB Try.prog (cS q) 125 (.arr 2 qU):=⟨Try.t125,_,by kernel_rfl,Try.underlying125,by kernel_rfl,by decide,by kernel_rfl,by kernel_rfl⟩
theorem row133(q:Nat):bB Try.prog (cS q) 133 (.slice tFrm):=⟨Try.t133,_,by kernel_rfl,Try.underlying133,by kernel_rfl,by decide,by kernel_rfl,by kernel_rfl⟩
theorem row136(q:Nat):bB Try.prog (cS q) 136 (tFrm):=⟨Try.t136,_,by kernel_rfl,Try.underlying136,by kernel_rfl,by decide,by kernel_rfl,by kernel_rfl⟩
theorem row137(q:Nat):bB Try.prog (cS q) 137 (tFrm):=⟨Try.t137,_,by kernel_rfl,Try.underlying137,by kernel_rfl,by decide,by kernel_rfl,by kernel_rfl⟩
theorem tysQ_ok(q:Nat):∀T τ,Lf.look (cS q) T=some τ->bB Try.prog (cS q) T τ:=by
 refine rows_all (cS q) ?_
 intro x hx
 simp only[cS,List.mem_cons,List.not_mem_nil,or_false]at hx
 rcases hx with rfl|rfl|rfl|rfl|rfl|rfl|rfl|rfl|rfl|rfl|rfl|rfl|rfl|rfl|rfl|rfl|rfl|rfl|rfl|rfl|rfl|rfl|rfl|rfl|rfl|rfl|rfl|rfl|rfl|rfl|rfl|rfl|rfl|rfl|rfl|rfl|rfl|rfl|rfl|rfl|rfl|rfl|rfl|rfl|rfl|rfl|rfl|rfl|rfl|rfl|rfl|rfl|rfl|rfl|rfl|rfl
 ·exact jJ q
 ·exact row3 q
 ·exact row4 q
 ·exact row5 q
 ·exact row9 q
 ·exact row21 q
 ·exact row22 q
 ·exact row23 q
 ·exact row24 q
 ·exact row25 q
 ·exact row27 q
 ·exact row28 q
 ·exact row29 q
 ·exact row30 q
 ·exact row31 q
 ·exact row33 q
 ·exact row34 q
 ·exact row35 q
 ·exact row37 q
 ·exact row38 q
 ·exact row39 q
 ·exact row40 q
 ·exact row41 q
 ·exact row45 q
 ·exact row49 q
 ·exact row51 q
 ·exact row52 q
 ·exact row53 q
 ·exact row54 q
 ·exact row55 q
 ·exact row56 q
 ·exact row57 q
 ·exact row58 q
 ·exact row60 q
 ·exact row61 q
 ·exact row64 q
 ·exact row65 q
 ·exact row81 q
 ·exact row82 q
 ·exact row88 q
 ·exact row89 q
 ·exact row97 q
 ·exact row101 q
 ·exact row102 q
 ·exact row104 q
 ·exact row105 q
 ·exact row118 q
 ·exact row119 q
 ·exact row120 q
 ·exact row122 q
 ·exact row123 q
 ·exact row124 q
 ·exact row125 q
 ·exact row133 q
 ·exact row136 q
 ·exact row137 q
theorem look_flat(q:Nat){T:TypeId}{τ:Ty}(h:Lf.look (cS q) T=some τ)(h3:T=3∨T=9∨T=21):τ.isAgg=false:=by
 rcases h3 with rfl|rfl|rfl
 ·have e:Lf.look (cS q) 3=some (tI):=by kernel_rfl
  rw[e]at h;injection h with h;rw[<-h];rfl
 ·have e:Lf.look (cS q) 9=some (.str):=by kernel_rfl
  rw[e]at h;injection h with h;rw[<-h];rfl
 ·have e:Lf.look (cS q) 21=some (.int .i32):=by kernel_rfl
  rw[e]at h;injection h with h;rw[<-h];rfl
theorem eqs_ok(q:Nat):∀T,T∈eqs->EqRow Try.prog (cS q) eqs T:=by
 have key : ∀ fs : List Field, (∀ f ∈ fs, f.name ≠ "_" /\ ((f.type = 3 ∨ f.type = 9 ∨ f.type = 21) ∨ f.type ∈ eqs)) -> ∀ f ∈ fs, f.name ≠ "_" /\ ∀ τ, Lf.look (cS q) f.type = some τ -> τ.isAgg = true -> f.type ∈ eqs := by
  intro fs h f hf;refine⟨(h f hf).1,fun τ h1 h2=> ?_⟩
  rcases (h f hf).2 with h3|h3
  ·rw[look_flat q h1 h3]at h2;cases h2
  ·exact h3
 intro T hT
 simp only[eqs,List.mem_cons,List.not_mem_nil,or_false]at hT
 rcases hT with rfl|rfl|rfl|rfl|rfl|rfl
 ·refine⟨by kernel_rfl,by kernel_rfl,?_⟩
  rw[Try.underlying53];exact key _ (by decide)
 ·refine⟨by kernel_rfl,by kernel_rfl,?_⟩
  rw[Try.underlying54];exact key _ (by decide)
 ·refine⟨by kernel_rfl,by kernel_rfl,?_⟩
  rw[Try.underlying56];exact key _ (by decide)
 ·refine⟨by kernel_rfl,by kernel_rfl,?_⟩
  rw[Try.underlying61];exact key _ (by decide)
 ·refine⟨by kernel_rfl,by kernel_rfl,?_⟩
  rw[Try.underlying65];exact key _ (by decide)
 ·refine⟨by kernel_rfl,by kernel_rfl,?_⟩
  rw[Try.underlying82];exact key _ (by decide)
theorem mixed_ok:Try.prog.follows .mixedOrders=true:=by kernel_rfl
theorem ctx_okQ{C:Ctx}(q:Nat)(h1:C.tys=cS q)(h2:C.eqs=eqs)(h3:∀f s,Lf.look C.fns f=some s->FOk Try.prog f s)
  (h4:∀f s,Lf.look C.ptrs f=some s->∃o,POk Try.prog f s o/\∀q,o=some q->C.pin.isSome=true/\q=C.q) (h5:∀t,C.thk=some t->TOk Try.prog C.q t) (h6:∀t,C.clo=some t->ClOk Try.prog t)
  (h7:∀f s,Lf.look C.ins f=some s->IOk Try.prog f s) (h8:∀t,C.kno=some t->KnOK Try.prog C.q t):aG Try.prog C:=
 ⟨by rw[h1];exact tysQ_ok q,h3,mixed_ok,by rw[h1,h2];exact eqs_ok q,h4,h5,h6,h7,h8⟩
theorem ins_nil{P:Program}:∀f s,Lf.look ([]:List (FuncId×ISpec)) f=some s->IOk P f s:=fun _ _ h=>by cases h
theorem dW{P:Program}{C:Ctx}:∀f s,Lf.look ([]:List (FuncId×dF)) f=some s->∃o,POk P f s o/\∀q,o=some q->C.pin.isSome=true/\q=C.q:=fun _ _ h=>by cases h
theorem aS{P:Program}:∀f s,Lf.look ([]:List (FuncId×bD)) f=some s->FOk P f s:=fun _ _ h=>by cases h
theorem aE{P:Program}{g:FuncId}{t:bD}{l:List (FuncId×bD)}(h:FOk P g t)(hl:∀f s,Lf.look l f=some s->FOk P f s):∀f s,Lf.look ((g,t)::l) f=some s->FOk P f s:=by
 intro f s hs
 simp only[Lf.look]at hs
 cases hb:Nat.beq g f
 ·rw[hb]at hs;exact hl f s hs
 ·rw[hb]at hs
  have:=Nat.eq_of_beq_eq_true hb
  simp only[cond_true,Option.some.injEq]at hs;rw[<-this,<-hs];exact h
theorem cG{P:Program}{C:Ctx}{g:FuncId}{t:dF}{l:List (FuncId×dF)}(h:POk P g t)(hl:∀f s,Lf.look l f=some s->∃o,POk P f s o/\∀q,o=some q->C.pin.isSome=true/\q=C.q):
  ∀f s,Lf.look ((g,t)::l) f=some s->∃o,POk P f s o/\∀q,o=some q->C.pin.isSome=true/\q=C.q:=by
 intro f s hs
 simp only[Lf.look]at hs
 cases hb:Nat.beq g f
 ·rw[hb]at hs;exact hl f s hs
 ·rw[hb]at hs
  have:=Nat.eq_of_beq_eq_true hb
  simp only[cond_true,Option.some.injEq]at hs;rw[<-this,<-hs];exact⟨none,h,fun q hq=>by cases hq⟩
theorem okC{C:Ctx}(h:∀f s,Lf.look C.fns f=some s->FOk Try.prog f s)(h1:C.tys=cS 0)(h2:C.eqs=eqs)(h3:C.ptrs=[])(h4:C.thk=none)(h5:C.clo=none)(h6:C.ins=[])(h7:C.kno=none):aG Try.prog C:=
 ctx_okQ 0 h1 h2 h (by rw[h3];exact dW) (fun _ h=>by rw[h4]at h;cases h) (fun _ h=>by rw[h5]at h;cases h) (by rw[h6];exact ins_nil) (fun _ h=>by rw[h7]at h;cases h)
def mkC(n:Nat)(fns:List (FuncId×bD))(g:Nat:=0):Ctx:={N:=n,tys:=cS 0,fns:=fns,eqs:=eqs,glb:=g}
theorem okA{n g:Nat}{fns:List (FuncId×bD)}(h:∀f s,Lf.look fns f=some s->FOk Try.prog f s):aG Try.prog (mkC n fns g):=okC h rfl rfl rfl rfl rfl rfl rfl
theorem lim_eq:lim=140737488355328:=rfl
theorem lC:bJ=2147483648:=rfl
theorem yO{z:Int}(h1: -9223372036854775808<=z)(h2:z<=9223372036854775807):inK .i64 z:=⟨h1,h2⟩
theorem aQ{z:Int}(h0: -1000000000<=z)(h1:z<=1000000000):inK .i64 z:=yO (by omega) (by omega)
theorem d9{i n:Nat}(h:(i:Int)<(n:Int))(hn:n<=lim):inK .i64 ((i:Int)+1):=by rw[lim_eq]at hn;exact yO (by omega) (by omega)
theorem eZ{i n:Nat}(h:(i:Int)<(n:Int)):inN (i:Int) n:=⟨by omega,h⟩
end Go.User
namespace Go.Proofs.Ytagdgckmikcllaa
theorem Try.own:ownKnob Try.prog.godebug=none:=by kernel_rfl
theorem Try.laidOut:laidOutB Try.prog=true:=by kernel_rfl
end Go.Proofs.Ytagdgckmikcllaa
namespace Sp
def bM:Opd:=(0,0,0,())
def term0:Term:=(0,0,bM,bM,bM,[0,0],())
def bE:Block:=([],term0,())
def bK(n:Int):Opd:=(2,n,0,())
def fY(v:Int):Opd:=(1,0,v,())
def mX:List Arr:=[([97],1,1,8,()),([102],1,2,4,()),([115],2,1,8,()),([112],3,1,4,()),([98],2,3,4,())]
def nxM(s:Mk):Mk:=(s.1,s.2.1+1,s.2.2)
def nxV(s:Mk):Int:=if(List.length s.1:Int)<s.2.1+1 then 0 else s.1.getD s.2.1.toNat 0
def nG(c:Code)(B:List Block):Code:=(c.1,c.2.1,c.2.2.1,c.2.2.2.1,c.2.2.2.2.1,c.2.2.2.2.2.1,c.2.2.2.2.2.2.1,B,())
def cB(c:Code):List Block:=c.2.2.2.2.2.2.2.1
def cL(c:Code):List Loop:=c.2.2.2.2.2.2.1
def cA(c:Code):List Arr:=c.2.2.2.2.2.1
def wB(s:Mk)(B:List Block):Mk:=(s.1,s.2.1,nG s.2.2.1 B,())
def putB(B:List Block)(i:Inst):List Block:=B.set (B.length-1) ((B.getD (B.length-1) bE).1++[i],(B.getD (B.length-1) bE).2)
def eE(s:Mk)(i:Inst):Mk:=wB s (putB (cB s.2.2.1) i)
def fG(s:Mk):Mk:=wB s (cB s.2.2.1++[bE])
def d7(s:Mk):Opd:=bK (Int.tmod (nxV s) 6)
def eL(s:Mk):Opd:=if Int.tmod (nxV s) 3=0 then fY (Go.IntKind.wrap .i32 (Go.IntKind.wrap .i32 (Int.tdiv (nxV s) 3)-20))else bK (Int.tmod (Int.tdiv (nxV s) 3) 6)
structure aL(n:Nat)(s:Mk):Prop where
 at0:0<=s.2.1
 at1:s.2.1<=n
 arr:cA s.2.2.1=mX
 blk:(cB s.2.2.1).length<=n
 ins:∀b∈cB s.2.2.1,b.1.length<=n
 lps:(cL s.2.2.1).length<=n
def has(s:Mk):Prop:=0<(cB s.2.2.1).length
end Sp
namespace Go.User
open Go.Lf
abbrev mCode:Md:= .pair .shr (.pair .shr (.pair .shr (.pair .shr (.pair .shr (.pair .shr (.pair (.own .shr) (.pair (.own (.pair (.own .shr) .shr)) .shr)))))))
abbrev mMk:Md:= .pair .shr (.pair .shr (.pair mCode .shr))
def mkM(n q:Nat)(fns:List (FuncId×bD))(ptrs:List (FuncId×dF)):Ctx:={N:=n,tys:=cS q,fns:=fns,eqs:=eqs,pin:=some 0,q:=q,ptrs:=ptrs}
def S40:bD:={args:=[],multi:=false,res:= .slice cC,mode:= .shr,pre:=fun _=>True,fn:=fun _=>Sp.mX}
def C40:Ctx:={mkC 7 []with mds:=[(6,.shr)]}
def L40(x:aH S40.args):List aW:=[]
def S17:bD:={args:=[.val tI],multi:=false,res:=aM,mode:= .shr,pre:=fun _=>True,fn:=fun x=>Sp.bK x.1}
def C17:Ctx:=mkC 5 []
def L17(x:aH S17.args):List aW:=[]
def S19:bD:={args:=[.val (.int .i32)],multi:=false,res:=aM,mode:= .shr,pre:=fun _=>True,fn:=fun x=>Sp.fY x.1}
def C19:Ctx:=mkC 5 []
def L19(x:aH S19.args):List aW:=[]
def S39:dF:={τ:=tMk,m:=mMk,multi:=false,res:=tI,pre:=fun s _=>Sp.aL 5000 s,fn:=fun s _=>Sp.nxM s,out:=fun s _=>Sp.nxV s}
def C39(q:Nat):Ctx:=mkM 32 q [] []
def L39(q:Nat)(x:S39.τ.den)(y:aH S39.args):List aW:=[]
def S83:dF:={τ:=tMk,m:=mMk,args:=[.val aC],pre:=fun s _=>Sp.aL 5000 s/\Sp.has s,fn:=fun s y=>Sp.eE s y.1,out:=fun _ _=>()}
def C83(q:Nat):Ctx:=mkM 32 q [] []
def L83(q:Nat)(x:S83.τ.den)(y:aH S83.args):List aW:=[]
def S43:dF:={τ:=tMk,m:=mMk,pre:=fun s _=>Sp.aL 5000 s,fn:=fun s y=>Sp.fG s,out:=fun _ _=>()}
def C43(q:Nat):Ctx:={mkM 14 q [] []with mds:=[(8,.pair (.own .shr) .shr),(9,.own (.pair (.own .shr) .shr))]}
def L43(q:Nat)(x:S43.τ.den)(y:aH S43.args):List aW:=[]
def S44:dF:={τ:=tMk,m:=mMk,multi:=false,res:=aM,pre:=fun s _=>Sp.aL 5000 s,fn:=fun s _=>Sp.nxM s,out:=fun s _=>Sp.d7 s}
def C44(q:Nat):Ctx:=mkM 7 q [(17,S17)] [(39,S39)]
def L44(q:Nat)(x:S44.τ.den)(y:aH S44.args):List aW:=[]
def S45:dF:={τ:=tMk,m:=mMk,multi:=false,res:=aM,pre:=fun s _=>Sp.aL 5000 s,fn:=fun s _=>Sp.nxM s,out:=fun s _=>Sp.eL s}
def C45(q:Nat):Ctx:=mkM 18 q [(17,S17),(19,S19)] [(39,S39)]
def L45(q:Nat)(x:S45.τ.den)(y:aH S45.args):List aW:=[]
end Go.User
