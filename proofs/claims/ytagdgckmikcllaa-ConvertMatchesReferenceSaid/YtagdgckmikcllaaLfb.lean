/- Lengths, conversions, moves, choices: by value. -/
import Derived.Test.YtagdgckmikcllaaLfa
import Derived.Laws.StructEq
import Derived.ChangeKeysEq
set_option linter.unusedVariables false
set_option linter.unusedSimpArgs false
namespace Go.Lf

def Ty.eqOK:Ty->Bool
 | .int _=>true
 | .bool=>true
 | .unit=>true
 | .prod a b=>a.eqOK&&b.eqOK
 | .str=>true
 | .arr _ (.int _)=>true
 |_=>false

def Ty.ht:Ty->Nat
 | .prod a b=>max (a.ht+1) b.ht
 |_=>1

def eqD:(τ:Ty)->τ.den->τ.den->Bool
 | .int _,x,y=>decide ((x:Int)=(y:Int))
 | .bool,x,y=>x==y
 | .unit,_,_=>true
 | .prod a b,x,y=>eqD a x.1 y.1&&eqD b x.2 y.2
 | .str,x,y=>decide ((x:List UInt8)=(y:List UInt8))
 | .arr _ (.int _),x,y=>decide ((x:List Int)=(y:List Int))
 |_,_,_=>false

section
variable {P:Program} {tys:List (TypeId×Ty)} {eqs:List TypeId} {F:aA} {w:World}

theorem lU{T:TypeId}{τ:Ty}(h:bB P tys T τ){cs:List Value}{o:Nat}(ho:o+τ.size<=cs.length):
  (part T cs.toArray o).run P w= .ok (bH τ (seg cs o τ.size)) w:=by
 simp only[part,Sem.run_bind,h.run_isAgg,Result.andThen]
 cases ha:τ.isAgg
 ·have hs:τ.size=1:=by cases τ<;>first|rfl|cases ha
  rw[hs]at ho;simp only[Bool.false_eq_true,if_false,bH,ha,hs,List.getElem?_toArray];rw[List.getElem?_eq_getElem (by omega)];simp only[Sem.run_pure,seg];rw[List.drop_eq_getElem_cons (by omega)];rfl
 ·simp only[if_true,Sem.run_bind,h.run_size,Result.andThen,Sem.run_pure,bH,ha,seg,List.extract_toArray]
  congr 2
  simp[List.extract_eq_take_drop]

theorem mP{E:TypeId}{k:IntKind}{d:Nat}(hr:bB P tys E (.int k))(hu:P.underlying E=some (.int k)){xs ys:List Int}{cs ds:List Value}(h1:∀(i:Nat) (z:Int),xs[i]? =some z->cs[i]? =some (Value.int k z))
  (h2:∀(i:Nat) (z:Int),ys[i]? =some z->ds[i]? =some (Value.int k z)):∀is:List Nat,(∀i∈is,i<xs.length/\i<ys.length)->
  (Op.eqItems (d+1) E 1 cs.toArray ds.toArray is).run P w= .ok (is.all fun i=>xs.getD i 0==ys.getD i 0) w
 | [],_=>rfl
 |i::is,h=>by
  obtain⟨hx,hy⟩:=h i (by simp);have e1:=h1 i _ (List.getElem?_eq_getElem hx);have e2:=h2 i _ (List.getElem?_eq_getElem hy);have one:∀ {c:List Value} {z:Int},c[i]? =some (Value.int k z)->(part E c.toArray (i*1)).run P w= .ok (.int k z) w:=by
   intro c z hc;obtain⟨hlt,hv⟩:=List.getElem?_eq_some_iff.1 hc;rw[Nat.mul_one,lU hr (cs:=c) (o:=i) (by show i+1<=_;omega)];show Result.ok (bH (.int k) (seg c i 1)) w=_;have:seg c i 1=[.int k z]:=by
    simp only[seg];rw[List.drop_eq_getElem_cons hlt,hv]
    rfl
   rw[this]
   rfl
  have ih:=mP (d:=d) hr hu h1 h2 is fun j hj=>h j (by simp[hj])
  simp only[Op.eqItems,Sem.run_bind,one e1,one e2,Result.andThen];rw[run_equalIn_int w d _ _ k _ _ hu];have g1:xs.getD i 0=xs[i]:=by simp[List.getD,List.getElem?_eq_getElem hx]
  have g2:ys.getD i 0=ys[i]:=by simp[List.getD,List.getElem?_eq_getElem hy]
  rw[List.all_cons,g1,g2];cases hb:(xs[i]==ys[i])
  ·simp[Sem.run_ite,Sem.run_pure]
  ·simp only[Bool.not_true,Bool.false_eq_true,if_false,Bool.true_and]
   exact ih
theorem zC{n:Nat}{xs ys:List Int}(h1:xs.length=n)(h2:ys.length=n):((List.range n).all fun i=>xs.getD i 0==ys.getD i 0)=decide (xs=ys):=by
 rw[Bool.eq_iff_iff,List.all_eq_true,decide_eq_true_eq]
 constructor
 ·intro h
  refine List.ext_getElem (by omega) fun i hi hj=> ?_
  have:=h i (List.mem_range.2 (by omega))
  simpa[List.getD,List.getElem?_eq_getElem hi,List.getElem?_eq_getElem hj]using this
 ·rintro rfl i _
  simp
theorem nW(hT:∀T τ,look tys T=some τ->bB P tys T τ)(hE:∀T,T∈eqs->EqRow P tys eqs T):
  ∀(σ:Ty) (fs:List Field) (off d:Nat) (cs ds:List Value) (S S':aA) (x y:σ.den),σ.eqOK=true->σ.ht<=d->cH tys fs off σ=true->
   (∀ f ∈ fs, f.name ≠ "_" /\ ∀ τ, look tys f.type = some τ -> τ.isAgg = true -> f.type ∈ eqs) ->
   off+σ.size<=cs.length->off+σ.size<=ds.length->Own F w σ .shr S (seg cs off σ.size) x->Own F w σ .shr S' (seg ds off σ.size) y->
   (Op.eqFields d cs.toArray ds.toArray fs).run P w= .ok (eqD σ x y) w
 | .unit,fs,off,d,cs,ds,S,S',x,y,_,_,hf,_,_,_,_,_=>by
  cases fs with
  |nil=>rfl
  |cons f fs=>simp[cH]at hf
 | .prod a b,fs,off,d,cs,ds,S,S',x,y,hq,hd,hf,hn,h1,h2,ox,oy=>by
  cases fs with
  |nil=>simp[cH]at hf
  |cons f fs=>
   simp only[cH,Bool.and_eq_true,decide_eq_true_eq]at hf;obtain⟨⟨⟨f1,f2⟩,f3⟩,f4⟩:=hf;have f1:=Nat.eq_of_beq_eq_true f1;simp only[Ty.eqOK,Bool.and_eq_true]at hq;simp only[Ty.ht]at hd;simp only[Ty.size]at h1 h2 ox oy;obtain⟨c1,c2,S1,S2,e1,_,_,_,o1,o2⟩:=ox;obtain⟨d1,d2,T1,T2,e2,_,_,_,p1,p2⟩:=oy;have l1:=o1.len;have l2:=p1.len;have g1:seg cs off a.size=c1:=by
    have:=congrArg (List.take a.size) e1
    rw[List.take_left' l1]at this;rw[<-this];simp only[seg,List.take_take];congr 1;omega
   have g2:seg ds off a.size=d1:=by
    have:=congrArg (List.take a.size) e2
    rw[List.take_left' l2]at this;rw[<-this];simp only[seg,List.take_take];congr 1;omega
   have g3:seg cs (off+a.size) b.size=c2:=by
    have:=congrArg (List.drop a.size) e1
    rw[List.drop_left' l1]at this;rw[<-this];simp only[seg,List.drop_take,List.drop_drop];congr 1;omega
   have g4:seg ds (off+a.size) b.size=d2:=by
    have:=congrArg (List.drop a.size) e2
    rw[List.drop_left' l2]at this;rw[<-this];simp only[seg,List.drop_take,List.drop_drop];congr 1;omega
   have hrow:=hT _ _ f2
   have q1:=lU (w:=w) hrow (cs:=cs) (o:=off) (by omega)
   have q2:=lU (w:=w) hrow (cs:=ds) (o:=off) (by omega)
   have ih:=nW hT hE b fs (off+a.size) d cs ds S2 T2 x.2 y.2 hq.2 (by omega) f4 (fun g hg=>hn g (by simp[hg])) (by omega) (by omega) (g3▸o2) (g4▸p2)
   have heq:(Op.equalIn d f.type (bH a (seg cs off a.size)) (bH a (seg ds off a.size))).run P w= .ok (eqD a x.1 y.1) w:=by
    obtain⟨d',rfl⟩:∃d',d=d'+1:=⟨d-1,by omega⟩
    rw[g1,g2];cases a with
    |int k=>
     have o1:c1=[.int k x.1]/\_:=o1
     have p1:d1=[.int k y.1]/\_:=p1
     rw[o1.1,p1.1];obtain⟨i,dd,h3,h4,h5,h6,h7,h8⟩:=hrow;have hu:P.underlying f.type=some (.int k):=by
      cases dd<;>simp only[iF,Bool.false_eq_true,decide_eq_true_eq]at h8
      subst h8;exact h4
     show(Op.equalIn (d'+1) f.type (.int k x.1) (.int k y.1)).run P w=_
     rw[run_equalIn_int w d' _ _ k _ _ hu]
     rfl
    |bool=>
     have o1:c1=[.bool x.1]:=o1
     have p1:d1=[.bool y.1]:=p1
     rw[o1,p1];obtain⟨i,dd,h3,h4,h5,h6,h7,h8⟩:=hrow;have hu:P.underlying f.type=some .bool:=by
      cases dd<;>first|exact h4|simp[iF]at h8
     exact run_equalIn_bool' w d' _ _ _ hu
    |unit=>simp[Ty.size,Nat.beq]at f3
    |prod a1 a2=>
     have hin:=(hn f (by simp)).2 _ f2 rfl
     obtain⟨k1,k2,k3⟩:=hE _ hin;obtain⟨i,dd,h3,h4,h5,h6,h7,h8⟩:=hrow;cases dd with
     |struct gs=>
      rw[h4]at k3;have hfo:P.fieldsOf f.type=gs:=by simp[Program.fieldsOf,h4]
      show(Op.equalIn (d'+1) f.type (.agg c1.toArray) (.agg d1.toArray)).run P w=_
      rw[run_equalIn_agg w d' f.type _ _ (by rw[hfo];exact h4) k1,hfo];have e3:seg c1 0 (Ty.prod a1 a2).size=c1:=by simp[seg,<-l1]
      have e4:seg d1 0 (Ty.prod a1 a2).size=d1:=by simp[seg,<-l2]
      have hd0:(Ty.prod a1 a2).ht+1<=d'+1:=by omega
      exact nW hT hE (.prod a1 a2) gs.toList 0 d' c1 d1 S1 T1 x.1 y.1 hq.1 (by omega) h8 k3 (by omega) (by omega) (by rw[e3];exact o1) (by rw[e4];exact p1)
     |_=>simp[iF]at h8
    |str=>
     have o1:c1=[.string ⟨(x.1:List UInt8).toArray⟩]/\_:=o1
     have p1:d1=[.string ⟨(y.1:List UInt8).toArray⟩]/\_:=p1
     rw[o1.1,p1.1];obtain⟨i,dd,h3,h4,h5,h6,h7,h8⟩:=hrow;have hu:P.underlying f.type=some .string:=by
      cases dd<;>first|exact h4|simp[iF]at h8
     show(Op.equalIn (d'+1) f.type (.string _) (.string _)).run P w=_
     rw[run_equalIn_string w d' _ _ _ hu,ByteArray.toList_eq,ByteArray.toList_eq];show Result.ok ((x.1:List UInt8)==(y.1:List UInt8)) w=Result.ok (decide ((x.1:List UInt8)=(y.1:List UInt8))) w
     congr 1
     rw[Bool.eq_iff_iff]
     simp
    |arr n e=>
     cases e with
     |int k=>
      obtain⟨n1,a1,Si,s1,s2,he1⟩:=o1;obtain⟨n2,a2,Sj,t1,t2,he2⟩:=p1;obtain⟨i,dd,h3,h4,h5,h6,h7,h8⟩:=hrow;cases dd with
      |array n' E=>
       simp only[iF,Bool.and_eq_true,decide_eq_true_eq]at h8;obtain⟨⟨hn',hE'⟩,_⟩:=h8;have hn':=Nat.eq_of_beq_eq_true hn';subst hn';have hrE:=hT _ _ hE';obtain⟨iE,dE,k3,k4,k5,k6,k7,k8⟩:=hrE;have huE:P.underlying E=some (.int k):=by
        cases dE<;>simp only[iF,Bool.false_eq_true,decide_eq_true_eq]at k8
        subst k8;exact k4
       have hcE:P.cellsOf E=1:=by
        have:P.cellsOf E=iE.size:=by simp[Program.cellsOf,k3]
        rw[this,k5];rfl
       show(Op.equalIn (d'+1) f.type (.agg c1.toArray) (.agg d1.toArray)).run P w=_
       rw[run_equalIn_array w d' _ _ h4 k3,hcE];obtain⟨d2',rfl⟩:∃q,d'=q+1:=⟨d'-1,by have:(Ty.arr n (.int k)).ht=1:=rfl;omega⟩
       have cell:∀ {c:List Value} {xs:List Int} {m:Md} {T:Nat->aA},(∀(i:Nat) (x:Int),xs[i]? =some x->Own F w (.int k) m (T i) (seg c (i*1) 1) x)->∀(i:Nat) (z:Int),xs[i]? =some z->c[i]? =some (Value.int k z):=by
        intro c xs m T h i z hz;have h9:seg c (i*1) 1=[.int k z]:=(h i z hz).1;have h10:(seg c (i*1) 1)[0]? =some (.int k z):=by rw[h9];rfl
        simp only[seg,Nat.mul_one]at h10;rw[List.getElem?_take_of_lt (by omega),List.getElem?_drop]at h10;exact h10
       rw[mP (hT _ _ hE') huE (cell he1) (cell he2) (List.range n) (fun i hi=>by rw[List.mem_range]at hi;omega)]
       show Result.ok _ w=Result.ok (decide ((x.1:List Int)=(y.1:List Int))) w
       congr 1
       exact zC n1 n2
      |_=>simp[iF]at h8
     |_=>simp[Ty.eqOK]at hq
    |_=>simp[Ty.eqOK]at hq
   simp only[Op.eqFields];rw[if_pos (hn f (by simp)).1];simp only[f1,Sem.run_bind,q1,q2,Result.andThen,heq,eqD];cases hc:eqD a x.1 y.1
   ·simp[Sem.run_ite,Sem.run_pure]
   ·simp only[Bool.not_true,Bool.false_eq_true,if_false,Bool.true_and]
    exact ih
 | .int _,fs,off,d,cs,ds,S,S',x,y,_,_,hf,_,_,_,_,_=>by cases fs<;>simp[cH]at hf
 | .bool,fs,off,d,cs,ds,S,S',x,y,_,_,hf,_,_,_,_,_=>by cases fs<;>simp[cH]at hf
 | .str,fs,off,d,cs,ds,S,S',x,y,_,_,hf,_,_,_,_,_=>by cases fs<;>simp[cH]at hf
 | .abs _,fs,off,d,cs,ds,S,S',x,y,hq,_,_,_,_,_,_,_=>by simp[Ty.eqOK]at hq
 | .slice _,fs,off,d,cs,ds,S,S',x,y,hq,_,_,_,_,_,_,_=>by simp[Ty.eqOK]at hq
 | .arr _ _,fs,off,d,cs,ds,S,S',x,y,_,_,hf,_,_,_,_,_=>by cases fs<;>simp[cH]at hf

theorem vX(hT:∀T τ,look tys T=some τ->bB P tys T τ)(hE:∀T,T∈eqs->EqRow P tys eqs T){T:TypeId}{a b:Ty}(ht:look tys T=some (.prod a b))(hm:T∈eqs)
  (hq:(Ty.prod a b).eqOK=true) (hh:(Ty.prod a b).ht<=9999) {v v':Value} {S S':aA} {x y:(Ty.prod a b).den} (h1:aT F w (.prod a b) .shr S v x) (h2:aT F w (.prod a b) .shr S' v' y):
  (∀op z z',(eqGuard op T z z' v v').run P w= .ok () w)/\(binOp .eql T v v').run P w= .ok (.bool (eqD (.prod a b) x y)) w/\(binOp .neq T v v').run P w= .ok (.bool (!eqD (.prod a b) x y)) w:=by
 obtain⟨cs,rfl,o1⟩:=h1
 obtain⟨ds,rfl,o2⟩:=h2
 obtain⟨k1,k2,k3⟩:=hE _ hm
 obtain⟨i,dd,h3,h4,h5,h6,h7,h8⟩:=hT _ _ ht
 cases dd with
 |struct gs=>
  rw[h4]at k3;have hfo:P.fieldsOf T=gs:=by simp[Program.fieldsOf,h4]
  have l1:=o1.len
  have l2:=o2.len
  have hrun:(Op.equalIn 10000 T (.agg cs.toArray) (.agg ds.toArray)).run P w= .ok (eqD (.prod a b) x y) w:=by
   rw[run_equalIn_agg w 9999 T _ _ (by rw[hfo];exact h4) k1,hfo];exact nW hT hE (.prod a b) gs.toList 0 9999 cs ds S S' x y hq hh h8 k3 (by omega) (by omega) (by simpa[seg,<-l1]using o1) (by simpa[seg,<-l2]using o2)
  have e1:bH (.prod a b) cs= .agg cs.toArray:=rfl
  have e2:bH (.prod a b) ds= .agg ds.toArray:=rfl
  rw[e1,e2];refine⟨fun op z z'=>run_eqGuard_agg w op T z z' _ _ k2,?_,?_⟩
  ·rw[run_eql_struct,hrun];rfl
  ·rw[run_neq_struct,hrun];rfl
 |_=>simp[iF]at h8
end
end Go.Lf
namespace Go.Lf

def eD:List Nat->Nat->Bool
 | [],_=>false
 |k::l,n=>bif Nat.beq k n then true else eD l n

def k64:IntKind->Bool
 | .i64=>true
 |_=>false
def uns:IntKind->Bool
 | .u8=>true
 | .u16=>true
 | .u32=>true
 | .u64=>true
 |_=>false

def isWrap(C:Ctx)(d:Nat)(k:IntKind):Bool:=eD C.wrp d|| !k64 k

def inK(k:IntKind)(z:Int):Prop:=k.min<=z/\z<=k.max

theorem iW(k:IntKind)(z:Int):inK k (k.wrap z):=by
 unfold inK
 cases k<;>simp[IntKind.min,IntKind.max,IntKind.wrap,IntKind.signed,IntKind.bits]<;>(try split)<;>omega
theorem dH{k:IntKind}{z:Int}(h:inK k z):k.wrap z=z:=by
 unfold inK at h
 cases k<;>simp[IntKind.min,IntKind.max,IntKind.wrap,IntKind.signed,IntKind.bits]at h⊢ <;>(try split)<;>omega
theorem inK_i64(z:Int):inK .i64 z↔ -9223372036854775808<=z/\z<=9223372036854775807:=by
 simp[inK,IntKind.min,IntKind.max,IntKind.signed,IntKind.bits]

abbrev Res:=Option (Prop×Ent)

def pO(C:Ctx)(d:Nat)(k:IntKind)(z:Int):Res:=
 bif isWrap C d k then some (True,.shr (.int k) (k.wrap z))else some (inK k z,.shr (.int k) z)

def iG(b:Bool):Res:=some (True,.shr .bool b)

def iJ(k:IntKind)(y:Int):Nat:=min y.toNat k.bits

def intE(C:Ctx)(d:Nat)(op:BinOp)(k:IntKind)(x y:Int):Res:=
 match op with
 | .add=>pO C d k (x+y)
 | .sub=>pO C d k (x-y)
 | .mul=>pO C d k (x*y)
 | .quo=>bif uns k then some (y≠0,.shr (.int k) (x/y))else match pO C d k (x.tdiv y)with
  |some (c,e)=>some (y≠0/\c,e)
  |none=>none
 | .rem=>some (y≠0,.shr (.int k) (bif uns k then x%y else x.tmod y))
 | .and=>some (True,.shr (.int k) (k.wrap (BitVec.ofInt k.bits x&&&BitVec.ofInt k.bits y).toNat))
 | .or=>some (True,.shr (.int k) (k.wrap (BitVec.ofInt k.bits x|||BitVec.ofInt k.bits y).toNat))
 | .xor=>some (True,.shr (.int k) (k.wrap (BitVec.ofInt k.bits x^^^BitVec.ofInt k.bits y).toNat))
 | .andNot=>some (True,.shr (.int k) (k.wrap (BitVec.ofInt k.bits x&&& ~~~ BitVec.ofInt k.bits y).toNat))
 | .eql=>iG (x==y)
 | .neq=>iG (x !=y)
 | .lss=>iG (decide (x<y))
 | .leq=>iG (decide (x<=y))
 | .gtr=>iG (decide (x>y))
 | .geq=>iG (decide (x≥y))
 |_=>none

def strE(op:BinOp)(x y:List UInt8):Res:=
 match op with
 | .add=>some (x.length+y.length<=lim,.shr .str (x++y))
 | .eql=>iG (x==y)
 | .neq=>iG (!(x==y))
 | .lss=>iG (Op.bytesLess x y)
 | .leq=>iG (Op.bytesLess x y||x==y)
 | .gtr=>iG (!(Op.bytesLess x y||x==y))
 | .geq=>iG (!(Op.bytesLess x y))
 |_=>none

def y9(C:Ctx)(d:Nat)(op:BinOp)(k:IntKind)(x:Int)(k':IntKind)(y:Int):Res:=
 match op with
 | .shl=>some (0<=y,.shr (.int k) (k.wrap (x*2^iJ k y)))
 | .shr=>some (0<=y,.shr (.int k) (x/2^iJ k y))
 |op=>bif decide (k=k')then intE C d op k x y else none

theorem memN_in{l:List Nat}{n:Nat}(h:eD l n=true):n∈l:=by
 induction l with
 |nil=>cases h
 |cons k l ih=>
  simp only[eD]at h;cases hk:Nat.beq k n
  ·rw[hk]at h;exact List.mem_cons_of_mem _ (ih h)
  ·rw[Nat.eq_of_beq_eq_true hk];exact List.mem_cons_self

def eqStE(C:Ctx)(op:BinOp)(T:TypeId){a b a' b':Ty}(x:(Ty.prod a b).den)(y:(Ty.prod a' b').den):Res:=
 if h:Ty.prod a' b'=Ty.prod a b then
  bif decide (look C.tys T=some (.prod a b))&&eD C.eqs T&&(Ty.prod a b).eqOK&&Nat.ble (Ty.prod a b).ht 9999 then(match op with
   | .eql=>iG (eqD (.prod a b) x (h▸y:(Ty.prod a b).den))
   | .neq=>iG (!eqD (.prod a b) x (h▸y:(Ty.prod a b).den))
   |_=>none)else none
 else none

def yH(C:Ctx)(op:BinOp)(T:TypeId)(vx vy:aP):Res:=
 match vy.e,vx.val with
 | .nilS,some ⟨.slice e,xs⟩=>bif decide (look C.tys T=some (.slice e))then(match op with
  | .eql=>some (True,.nb (xs=[]) True)
  | .neq=>some (True,.nb True (xs=[]))
  |_=>none)else none
 |_,_=>none
def binE(C:Ctx)(d:Nat)(op:BinOp)(T:TypeId)(vx vy:aP):Res:=
 match vx.val,vy.val with
 |some ⟨.int k,x⟩,some ⟨.int k',y⟩=>y9 C d op k x k' y
 |some ⟨.bool,x⟩,some ⟨.bool,y⟩=>bif decide (look C.tys T=some .bool)then(match op with
  | .eql=>iG (x==y)
  | .neq=>iG (x !=y)
  |_=>none)else none
 |some ⟨.str,x⟩,some ⟨.str,y⟩=>strE op x y
 |some ⟨.prod a b,x⟩,some ⟨.prod a' b',y⟩=>eqStE C op T x y
 |_,_=>yH C op T vx vy

section
variable {P:Program} {C:Ctx} {F:aA} {w:World} {env:St} {V:Nat->Value} {S:Nat->aA} {d:Nat}

def c8(P:Program)(F:aA)(w:World)(env:St)(V:Nat->Value)(S:Nat->aA)(d:Nat)(s:Sem Next)(e:Ent):Prop:=
 ∃v,s.run P w= .ok (.value v) w/\e.isOwner=false/\(e.root≠some d->aF P F w env (fun s=>if s=d then v else V s) S d e)

theorem c8.int{s:Sem Next}{k:IntKind}{n:Int}(h:s.run P w= .ok (.value (.int k n)) w)(h1:inK k n):c8 P F w env V S d s (.shr (.int k) n):=
 ⟨_,h,rfl,fun _=>by simp only[aF,if_true];exact .mk_int _ _ _ _ h1.1 h1.2⟩
theorem c8.bool{s:Sem Next}{b:Bool}(h:s.run P w= .ok (.value (.bool b)) w):c8 P F w env V S d s (.shr .bool b):=
 ⟨_,h,rfl,fun _=>by simp only[aF,if_true];exact .mk_bool _ _ _ _ b⟩
theorem c8.str{s:Sem Next}{b:List UInt8}(h:s.run P w= .ok (.value (.string ⟨b.toArray⟩)) w)(hl:b.length<=lim):c8 P F w env V S d s (.shr .str b):=
 ⟨_,h,rfl,fun _=>by simp only[aF,if_true];exact⟨[.string ⟨b.toArray⟩],rfl,rfl,hl⟩⟩

theorem lN{k:IntKind}{z:Int}{c:Prop}{e:Ent}(h:pO C d k z=some (c,e))(hc:c){s:Sem Next}(hs:s.run P w= .ok (.value (.int k (k.wrap z))) w):
  c8 P F w env V S d s e:=by
 unfold pO at h
 cases hw:isWrap C d k
 ·simp only[hw,cond_false,Option.some.injEq,Prod.mk.injEq]at h
  obtain⟨rfl,rfl⟩:=h;rw[dH hc]at hs;exact .int hs hc
 ·simp only[hw,cond_true,Option.some.injEq,Prod.mk.injEq]at h
  obtain⟨rfl,rfl⟩:=h;exact .int hs (iW k z)

theorem dS{b:Bool}{c:Prop}{e:Ent}(h:iG b=some (c,e)){s:Sem Next}(hs:s.run P w= .ok (.value (.bool b)) w):c8 P F w env V S d s e:=by
 simp only[iG,Option.some.injEq,Prod.mk.injEq]at h
 obtain⟨_,rfl⟩:=h
 exact .bool hs

theorem tmod_le(n:Int){m:Int}(h:0<=m):m.tmod n<=m:=by
 obtain⟨a,rfl⟩:=Int.eq_ofNat_of_zero_le h
 cases n with
 |ofNat b=>
  show((a%b:Nat):Int)<=a
  have:=Nat.mod_le a b;omega
 |negSucc b=>
  show((a%(b+1):Nat):Int)<=a
  have:=Nat.mod_le a (b+1);omega
theorem uns_min{k:IntKind}(h:uns k=true):k.min=0:=by cases k<;>first|rfl|cases h

theorem sR(op:BinOp)(T:TypeId)(x y:Operand)(k k':IntKind)(m n:Int):(eqGuard op T x y (.int k m) (.int k' n)).run P w= .ok () w:=by
 cases op<;>simp[eqGuard]
theorem qZ(op:BinOp)(T:TypeId)(x y:Operand)(m n:Bool):(eqGuard op T x y (.bool m) (.bool n)).run P w= .ok () w:=by
 cases op<;>simp[eqGuard]
theorem sQ(op:BinOp)(T:TypeId)(x y:Operand)(m n:ByteArray):(eqGuard op T x y (.string m) (.string n)).run P w= .ok () w:=by
 cases op<;>simp[eqGuard]

theorem binIntE_ok{op:BinOp}{T:TypeId}{k k':IntKind}{m n:Int}(r1:k.min<=m/\m<=k.max)(r2:k'.min<=n/\n<=k'.max)
  {c:Prop} {e:Ent} (h:y9 C d op k m k' n=some (c,e)) (hc:c) {s:Sem Next}
  (hrun:∀(v:Value),(binOp op T (.int k m) (.int k' n)).run P w= .ok v w->s.run P w= .ok (.value v) w):c8 P F w env V S d s e:=by
 unfold y9 at h
 split at h
 ·simp only[Option.some.injEq,Prod.mk.injEq]at h
  obtain⟨rfl,rfl⟩:=h;refine .int (hrun _ ?_) (iW _ _);have:¬n<0:=by omega
  simp[binOp,Op.shift,this,iJ]
 ·simp only[Option.some.injEq,Prod.mk.injEq]at h
  obtain⟨rfl,rfl⟩:=h;have hp:(0:Int)<2^iJ k n:=Int.pow_pos (by omega);refine .int (hrun _ ?_) ?_
  ·have:¬n<0:=by omega
   rw[<-Int.fdiv_eq_ediv_of_nonneg m (Int.le_of_lt hp)];simp[binOp,Op.shift,this,iJ]
  ·have hb:=r1
   have h0:k.min<=0:=by cases k<;>decide
   have h9:0<=k.max:=by cases k<;>decide
   unfold inK;by_cases hm:0<=m
   ·have q1:0<=m/2^iJ k n:=Int.ediv_nonneg hm (Int.le_of_lt hp)
    have q2:m/2^iJ k n<=m:=Int.ediv_le_self _ hm
    omega
   ·have q1:m/2^iJ k n<0:=Int.ediv_neg_of_neg_of_pos (by omega) hp
    have q2:m<=m/2^iJ k n:=by
     have:m<=m/2^iJ k n:=by
      rw[Int.le_ediv_iff_mul_le hp];have:m*2^iJ k n<=m*1:=Int.mul_le_mul_of_nonpos_left (by omega) (by omega);omega
     exact this
    omega
 ·rename_i hs1 hs2
  cases hk:decide (k=k')
  ·rw[hk]at h;cases h
  ·rw[hk]at h
   have hk:=of_decide_eq_true hk
   subst hk;simp only[cond_true]at h;cases op<;>simp only[intE]at h
   case add=>exact lN h hc (hrun _ (by simp[binOp,Op.intArith]))
   case sub=>exact lN h hc (hrun _ (by simp[binOp,Op.intArith]))
   case mul=>exact lN h hc (hrun _ (by simp[binOp,Op.intArith]))
   case quo=>
    cases hu:uns k
    ·simp only[hu,cond_false]at h
     split at h
     ·rename_i c' e' h'
      simp only[Option.some.injEq,Prod.mk.injEq]at h;obtain⟨rfl,rfl⟩:=h;exact lN h' hc.2 (hrun _ (by simp[binOp,Op.intDiv,hc.1]))
     ·cases h
    ·simp only[hu,cond_true,Option.some.injEq,Prod.mk.injEq]at h
     obtain⟨rfl,rfl⟩:=h;have h0:=uns_min hu;rw[h0]at r1 r2;have q1:0<=m/n:=Int.ediv_nonneg r1.1 r2.1;have q2:m/n<=m:=Int.ediv_le_self _ r1.1;have hin:inK k (m/n):=⟨by omega,by omega⟩
     refine .int (hrun _ ?_) hin
     have hq:k.wrap (m.tdiv n)=m/n:=by rw[Int.tdiv_eq_ediv_of_nonneg r1.1];exact dH hin
     simp[binOp,Op.intDiv,hc,hq]
   case rem=>
    simp only[Option.some.injEq,Prod.mk.injEq]at h;obtain⟨rfl,rfl⟩:=h;have hin:inK k (m.tmod n):=by
     have h0:k.min<=0:=by cases k<;>decide
     have h9:0<=k.max:=by cases k<;>decide
     by_cases hm:0<=m
     ·have q1:=Int.tmod_nonneg n hm
      have q2:m.tmod n<=m:=tmod_le n hm
      exact⟨by omega,by omega⟩
     ·have q1:=Int.tmod_nonneg n (a:= -m) (by omega)
      have q2:(-m).tmod n<= -m:=tmod_le n (by omega)
      rw[Int.neg_tmod]at q1 q2;exact⟨by omega,by omega⟩
    have hv:(bif uns k then m%n else m.tmod n)=m.tmod n:=by
     cases hu:uns k
     ·rfl
     ·have h0:=uns_min hu
      simp[Int.tmod_eq_emod_of_nonneg (show 0<=m by omega)]
    rw[hv];exact .int (hrun _ (by simp[binOp,Op.intDiv,hc])) hin
   case and=>
    simp only[Option.some.injEq,Prod.mk.injEq]at h;obtain⟨rfl,rfl⟩:=h;exact .int (hrun _ (by simp[binOp,Op.intBits])) (iW _ _)
   case or=>
    simp only[Option.some.injEq,Prod.mk.injEq]at h;obtain⟨rfl,rfl⟩:=h;exact .int (hrun _ (by simp[binOp,Op.intBits])) (iW _ _)
   case xor=>
    simp only[Option.some.injEq,Prod.mk.injEq]at h;obtain⟨rfl,rfl⟩:=h;exact .int (hrun _ (by simp[binOp,Op.intBits])) (iW _ _)
   case andNot=>
    simp only[Option.some.injEq,Prod.mk.injEq]at h;obtain⟨rfl,rfl⟩:=h;exact .int (hrun _ (by simp[binOp,Op.intBits])) (iW _ _)
   case eql=>exact dS h (hrun _ (by simp[binOp,Op.intCmp]))
   case neq=>exact dS h (hrun _ (by simp[binOp,Op.intCmp]))
   case lss=>exact dS h (hrun _ (by simp[binOp,Op.intCmp]))
   case leq=>exact dS h (hrun _ (by simp[binOp,Op.intCmp]))
   case gtr=>exact dS h (hrun _ (by simp[binOp,Op.intCmp]))
   case geq=>exact dS h (hrun _ (by simp[binOp,Op.intCmp]))
   all_goals cases h

theorem wF(l:List UInt8):(⟨l.toArray⟩:ByteArray).toList=l:=by
 rw[ByteArray.toList_eq]
theorem strE_ok{op:BinOp}{T:TypeId}{m n:List UInt8}{c:Prop}{e:Ent}(h:strE op m n=some (c,e))(hc:c){s:Sem Next}
  (hrun:∀(v:Value),(binOp op T (.string ⟨m.toArray⟩) (.string ⟨n.toArray⟩)).run P w= .ok v w->s.run P w= .ok (.value v) w):c8 P F w env V S d s e:=by
 have hb:binOp op T (.string ⟨m.toArray⟩) (.string ⟨n.toArray⟩)=Op.stringOp op ⟨m.toArray⟩ ⟨n.toArray⟩:=by cases op<;>rfl
 rw[hb]at hrun
 have t1:=wF m
 have t2:=wF n
 cases op<;>simp only[strE]at h
 case add=>
  simp only[Option.some.injEq,Prod.mk.injEq]at h;obtain⟨rfl,rfl⟩:=h;refine .str (hrun _ ?_) (by simpa using hc);have hsz:(⟨m.toArray⟩:ByteArray).size=m.length:=by simp[ByteArray.size]
  have hsz2:(⟨n.toArray⟩:ByteArray).size=n.length:=by simp[ByteArray.size]
  have hmax:IntKind.i64.max=9223372036854775807:=by decide
  have:¬(((⟨m.toArray⟩:ByteArray).size+(⟨n.toArray⟩:ByteArray).size:Nat):Int)>IntKind.i64.max:=by
   rw[hsz,hsz2,hmax];unfold lim at hc;omega
  simp only[Op.stringOp,this,if_false];have:(⟨m.toArray⟩:ByteArray)++⟨n.toArray⟩=⟨(m++n).toArray⟩:=by
   apply ByteArray.ext;simp
  rw[this];rfl
 case eql=>exact dS h (hrun _ (by simp[Op.stringOp,t1,t2]))
 case neq=>exact dS h (hrun _ (by simp[Op.stringOp,t1,t2]))
 case lss=>exact dS h (hrun _ (by simp[Op.stringOp,t1,t2]))
 case leq=>exact dS h (hrun _ (by simp[Op.stringOp,t1,t2]))
 case gtr=>exact dS h (hrun _ (by simp[Op.stringOp,t1,t2]))
 case geq=>exact dS h (hrun _ (by simp[Op.stringOp,t1,t2]))
 all_goals cases h

theorem nilCmpE_ok{N:NP}{w0:World}{F0 H:aA}{a:Act}(hC:aG P C)(hi:aJ P N w0 F0 H env a w F S){op:BinOp}{T:TypeId}{x y:Operand}
  {vx vy:aP} (hx:aU P F w env (fun t=>a.tmps.getD t undef) S (a.eval x) vx) (hy:aU P F w env (fun t=>a.tmps.getD t undef) S (a.eval y) vy)
  {c:Prop} {e:Ent} (h:yH C op T vx vy=some (c,e)) {s:Sem Next}
  (hrun:∀(v:Value),(do eqGuard op T x y (a.eval x) (a.eval y);binOp op T (a.eval x) (a.eval y):Sem Value).run P w= .ok v w->s.run P w= .ok (.value v) w):c8 P F w env (fun t=>a.tmps.getD t undef) S d s e:=by
 unfold yH at h
 split at h
 ·rename_i e0 xs hn hxv
  have hy0:=hy.ent (by rw[hn];rfl) 0 (by rw[hn];simp[Ent.root])
  rw[hn]at hy0;simp only[aF,if_true]at hy0;have hxo:=aP.val_ok hi hx hxv;obtain⟨cs,hv,ao,cap,rfl,h1,h2,h3⟩:=hxo;have hv:a.eval x= .slice ao (List.length xs) cap:=hv;have h3:ao.isNone=true->xs=[]:=by
   intro hz;rcases h3 with h3|⟨b,off,row,T0,fr,h4,_⟩
   ·exact h3
   ·rw[h4]at hz;cases hz
  cases hd:decide (look C.tys T=some (.slice e0))
  ·rw[hd]at h;cases h
  rw[hd]at h;have hd:=of_decide_eq_true hd;obtain⟨i,dd,g3,g4,g5,g6,g7,g8⟩:=hC.types T _ hd;obtain⟨E,hu⟩:∃E,P.underlying T=some (.slice E):=by
   cases dd<;>first|exact⟨_,g4⟩|simp[iF]at g8
  rw[hv,hy0]at hrun;have hg:∀op:BinOp,(eqGuard op T x y (.slice ao (List.length xs) cap) (.slice none 0 0)).run P w= .ok () w:=by
   intro op;cases op<;>simp[eqGuard]
  have heq:(Op.equal T (.slice ao (List.length xs) cap) (.slice none 0 0)).run P w= .ok ao.isNone w:=by
   have e1:Op.equal T (.slice ao (List.length xs) cap) (.slice none 0 0)=Op.equalIn (9999+1) T (.slice ao (List.length xs) cap) (.slice none 0 0):=rfl
   rw[e1,Op.equalIn];cases ao<;>simp only[Sem.run_bind,run_underlying hu,Result.andThen]<;>rfl
  simp only[cond_true]at h;split at h
  ·simp only[Option.some.injEq,Prod.mk.injEq]at h
   obtain⟨_,rfl⟩:=h;refine⟨.bool ao.isNone,hrun _ ?_,rfl,fun _=> ?_⟩
   ·simp only[Sem.run_bind,hg,Result.andThen,binOp,heq,Sem.run_pure]
   ·exact⟨ao.isNone,if_pos rfl,h3,fun _=>trivial⟩
  ·simp only[Option.some.injEq,Prod.mk.injEq]at h
   obtain⟨_,rfl⟩:=h;refine⟨.bool (!ao.isNone),hrun _ ?_,rfl,fun _=> ?_⟩
   ·simp only[Sem.run_bind,hg,Result.andThen,binOp,heq,Sem.run_pure]
   ·exact⟨!ao.isNone,if_pos rfl,fun _=>trivial,fun hb=>h3 (by simpa using hb)⟩
  ·cases h
 ·cases h

theorem binE_ok{N:NP}{w0:World}{F0 H:aA}{a:Act}(hC:aG P C)(hi:aJ P N w0 F0 H env a w F S){op:BinOp}{T:TypeId}{x y:Operand}{yT:TypeId}{o:Oper}
  (ho:o.op= .binOp op T x y yT) {vx vy:aP} (hx:aU P F w env (fun t=>a.tmps.getD t undef) S (a.eval x) vx) (hy:aU P F w env (fun t=>a.tmps.getD t undef) S (a.eval y) vy)
  {c:Prop} {e:Ent} (h:binE C d op T vx vy=some (c,e)) (hc:c):c8 P F w env (fun t=>a.tmps.getD t undef) S d (execOp a.eval o) e:=by
 unfold binE at h
 have hrun:∀(v:Value),(do eqGuard op T x y (a.eval x) (a.eval y);binOp op T (a.eval x) (a.eval y):Sem Value).run P w= .ok v w->(execOp a.eval o).run P w= .ok (.value v) w:=by
  intro v hv;simp only[execOp,ho];rw[Sem.run_bind,hv];rfl
 split at h
 ·rename_i k m k' n h1 h2
  obtain⟨e1,r1⟩:=(aP.val_ok hi hx h1).int_eq;obtain⟨e2,r2⟩:=(aP.val_ok hi hy h2).int_eq;simp only[e1,e2,Sem.run_bind,sR,Result.andThen]at hrun;exact binIntE_ok r1 r2 h hc hrun
 ·rename_i m n h1 h2
  have e1:=(aP.val_ok hi hx h1).bool_eq
  have e2:=(aP.val_ok hi hy h2).bool_eq
  simp only[e1,e2,Sem.run_bind,qZ,Result.andThen]at hrun;cases hd:decide (look C.tys T=some .bool)
  ·rw[hd]at h;cases h
  ·rw[hd]at h
   have hd:=of_decide_eq_true hd
   obtain⟨i,dd,h3,h4,h5,h6,h7,h8⟩:=hC.types T _ hd;have hu:P.underlying T=some .bool:=by
    cases dd<;>first|exact h4|simp[iF]at h8
   simp only[cond_true]at h;split at h
   ·exact dS h (hrun _ (run_eql_bool w T m n hu))
   ·exact dS h (hrun _ (run_neq_bool w T m n hu))
   ·cases h
 ·rename_i m n h1 h2
  obtain⟨e1,_⟩:=(aP.val_ok hi hx h1).str_eq;obtain⟨e2,_⟩:=(aP.val_ok hi hy h2).str_eq;simp only[e1,e2,Sem.run_bind,sQ,Result.andThen]at hrun;exact strE_ok h hc hrun
 ·rename_i a b m a' b' n h1 h2
  have o1:=aP.val_ok hi hx h1
  have o2:=aP.val_ok hi hy h2
  unfold eqStE at h;split at h
  ·rename_i heq
   injection heq with i1 i2;subst i1;subst i2;cases hb:(decide (look C.tys T=some (.prod a' b'))&&eD C.eqs T&&(Ty.prod a' b').eqOK&&Nat.ble (Ty.prod a' b').ht 9999)
   ·rw[hb]at h;cases h
   rw[hb]at h;simp only[cond_true]at h;simp only[Bool.and_eq_true,decide_eq_true_eq]at hb;obtain⟨⟨⟨b1,b2⟩,b3⟩,b4⟩:=hb;obtain⟨q1,q2,q3⟩:=vX hC.types hC.eqs b1 (memN_in b2) b3 (Nat.le_of_ble_eq_true b4) o1 o2;have hrun':∀(v:Value),(binOp op T (a.eval x) (a.eval y)).run P w= .ok v w->(execOp a.eval o).run P w= .ok (.value v) w:=by
    intro v hv;refine hrun v ?_;rw[Sem.run_bind,q1];exact hv
   split at h
   ·exact dS h (hrun' _ q2)
   ·exact dS h (hrun' _ q3)
   ·cases h
  ·cases h
 ·exact nilCmpE_ok hC hi hx hy h hrun
end

end Go.Lf
namespace Go.Lf

theorem gR:∀(p q:cM) (τ:Ty) (x:τ.den),aN (p++q) τ x=(aN p τ x).bind fun y=>aN q y.1 y.2
 | [],_,_,_=>rfl
 | .fst::p,q,.prod a b,x=>gR p q a x.1
 | .snd::p,q,.prod a b,x=>gR p q b x.2
 | .idx i::p,q,.slice e,x=>gR p q e _
 | .idx i::p,q,.arr n e,x=>gR p q e _
 | .fst::_,_,.int _,_=>rfl
 | .fst::_,_,.bool,_=>rfl
 | .fst::_,_,.str,_=>rfl
 | .fst::_,_,.abs _,_=>rfl
 | .fst::_,_,.unit,_=>rfl
 | .fst::_,_,.slice _,_=>rfl
 | .fst::_,_,.arr _ _,_=>rfl
 | .snd::_,_,.int _,_=>rfl
 | .snd::_,_,.bool,_=>rfl
 | .snd::_,_,.str,_=>rfl
 | .snd::_,_,.abs _,_=>rfl
 | .snd::_,_,.unit,_=>rfl
 | .snd::_,_,.slice _,_=>rfl
 | .snd::_,_,.arr _ _,_=>rfl
 | .idx _::_,_,.int _,_=>rfl
 | .idx _::_,_,.bool,_=>rfl
 | .idx _::_,_,.str,_=>rfl
 | .idx _::_,_,.abs _,_=>rfl
 | .idx _::_,_,.unit,_=>rfl
 | .idx _::_,_,.prod _ _,_=>rfl

theorem gT:∀(p q:cM) (τ:Ty) (m:Md) (x:τ.den) {σ:Ty} {y:σ.den} {μ:Md},aN p τ x=some ⟨σ,y⟩->bI p τ m=some μ->bI (p++q) τ m=bI q σ μ
 | [],q,τ,m,x,σ,y,μ,h,hm=>by
  simp only[aN,Option.some.injEq,Sigma.mk.injEq]at h;obtain⟨rfl,_⟩:=h;simp only[bI,Option.some.injEq]at hm;subst hm;rfl
 | .fst::p,q,.prod a b,m,x,_,_,_,h,hm=>gT p q a _ x.1 h hm
 | .snd::p,q,.prod a b,m,x,_,_,_,h,hm=>gT p q b _ x.2 h hm
 | .idx i::p,q,.slice e,.own me,x,_,_,_,h,hm=>gT p q e me _ h hm
 | .idx i::p,q,.arr n e,m,x,_,_,_,h,hm=>gT p q e m.elem _ h hm
 | .idx i::p,q,.slice e,.shr,x,_,_,_,h,hm=>by simp[bI]at hm
 | .idx i::p,q,.slice e,.pair _ _,x,_,_,_,h,hm=>by simp[bI]at hm
 | .fst::_,_,.int _,_,_,_,_,_,h,_=>by simp[aN]at h
 | .fst::_,_,.bool,_,_,_,_,_,h,_=>by simp[aN]at h
 | .fst::_,_,.str,_,_,_,_,_,h,_=>by simp[aN]at h
 | .fst::_,_,.abs _,_,_,_,_,_,h,_=>by simp[aN]at h
 | .fst::_,_,.unit,_,_,_,_,_,h,_=>by simp[aN]at h
 | .fst::_,_,.slice _,_,_,_,_,_,h,_=>by simp[aN]at h
 | .fst::_,_,.arr _ _,_,_,_,_,_,h,_=>by simp[aN]at h
 | .snd::_,_,.int _,_,_,_,_,_,h,_=>by simp[aN]at h
 | .snd::_,_,.bool,_,_,_,_,_,h,_=>by simp[aN]at h
 | .snd::_,_,.str,_,_,_,_,_,h,_=>by simp[aN]at h
 | .snd::_,_,.abs _,_,_,_,_,_,h,_=>by simp[aN]at h
 | .snd::_,_,.unit,_,_,_,_,_,h,_=>by simp[aN]at h
 | .snd::_,_,.slice _,_,_,_,_,_,h,_=>by simp[aN]at h
 | .snd::_,_,.arr _ _,_,_,_,_,_,h,_=>by simp[aN]at h
 | .idx _::_,_,.int _,_,_,_,_,_,h,_=>by simp[aN]at h
 | .idx _::_,_,.bool,_,_,_,_,_,h,_=>by simp[aN]at h
 | .idx _::_,_,.str,_,_,_,_,_,h,_=>by simp[aN]at h
 | .idx _::_,_,.abs _,_,_,_,_,_,h,_=>by simp[aN]at h
 | .idx _::_,_,.unit,_,_,_,_,_,h,_=>by simp[aN]at h
 | .idx _::_,_,.prod _ _,_,_,_,_,_,h,_=>by simp[aN]at h

theorem j5:∀(p q:cM) (τ:Ty) (x:τ.den) {σ:Ty} {y:σ.den},aN p τ x=some ⟨σ,y⟩->inR p τ x->inR q σ y->inR (p++q) τ x
 | [],q,τ,x,σ,y,h,_,h2=>by
  simp only[aN,Option.some.injEq,Sigma.mk.injEq]at h;obtain⟨rfl,h⟩:=h;cases h;exact h2
 | .fst::p,q,.prod a b,x,_,_,h,h1,h2=>j5 p q a x.1 h h1 h2
 | .snd::p,q,.prod a b,x,_,_,h,h1,h2=>j5 p q b x.2 h h1 h2
 | .idx i::p,q,.slice e,x,_,_,h,h1,h2=>⟨h1.1,j5 p q e _ h h1.2 h2⟩
 | .idx i::p,q,.arr n e,x,_,_,h,h1,h2=>⟨h1.1,j5 p q e _ h h1.2 h2⟩
 | .fst::_,_,.int _,_,_,_,h,_,_=>by simp[aN]at h
 | .fst::_,_,.bool,_,_,_,h,_,_=>by simp[aN]at h
 | .fst::_,_,.str,_,_,_,h,_,_=>by simp[aN]at h
 | .fst::_,_,.abs _,_,_,_,h,_,_=>by simp[aN]at h
 | .fst::_,_,.unit,_,_,_,h,_,_=>by simp[aN]at h
 | .fst::_,_,.slice _,_,_,_,h,_,_=>by simp[aN]at h
 | .fst::_,_,.arr _ _,_,_,_,h,_,_=>by simp[aN]at h
 | .snd::_,_,.int _,_,_,_,h,_,_=>by simp[aN]at h
 | .snd::_,_,.bool,_,_,_,h,_,_=>by simp[aN]at h
 | .snd::_,_,.str,_,_,_,h,_,_=>by simp[aN]at h
 | .snd::_,_,.abs _,_,_,_,h,_,_=>by simp[aN]at h
 | .snd::_,_,.unit,_,_,_,h,_,_=>by simp[aN]at h
 | .snd::_,_,.slice _,_,_,_,h,_,_=>by simp[aN]at h
 | .snd::_,_,.arr _ _,_,_,_,h,_,_=>by simp[aN]at h
 | .idx _::_,_,.int _,_,_,_,h,_,_=>by simp[aN]at h
 | .idx _::_,_,.bool,_,_,_,h,_,_=>by simp[aN]at h
 | .idx _::_,_,.str,_,_,_,h,_,_=>by simp[aN]at h
 | .idx _::_,_,.abs _,_,_,_,h,_,_=>by simp[aN]at h
 | .idx _::_,_,.unit,_,_,_,h,_,_=>by simp[aN]at h
 | .idx _::_,_,.prod _ _,_,_,_,h,_,_=>by simp[aN]at h

theorem iL(w:World):∀(p q:cM) (τ:Ty) (pl:aK),loc w (p++q) τ pl=(loc w p τ pl).bind fun y=>loc w q y.1 y.2
 | [],_,_,_=>rfl
 | .fst::p,q,.prod a b,pl=>iL w p q a _
 | .snd::p,q,.prod a b,pl=>iL w p q b _
 | .idx i::p,q,.slice e,pl=>by
  simp only[List.cons_append,loc];split
  ·split
   ·exact iL w p q e _
   ·rfl
  ·rfl
 | .idx i::p,q,.arr n e,pl=>by
  simp only[List.cons_append,loc];split
  ·exact iL w p q e _
  ·rfl
 | .fst::_,_,.int _,_=>rfl
 | .fst::_,_,.bool,_=>rfl
 | .fst::_,_,.str,_=>rfl
 | .fst::_,_,.abs _,_=>rfl
 | .fst::_,_,.unit,_=>rfl
 | .fst::_,_,.slice _,_=>rfl
 | .fst::_,_,.arr _ _,_=>rfl
 | .snd::_,_,.int _,_=>rfl
 | .snd::_,_,.bool,_=>rfl
 | .snd::_,_,.str,_=>rfl
 | .snd::_,_,.abs _,_=>rfl
 | .snd::_,_,.unit,_=>rfl
 | .snd::_,_,.slice _,_=>rfl
 | .snd::_,_,.arr _ _,_=>rfl
 | .idx _::_,_,.int _,_=>rfl
 | .idx _::_,_,.bool,_=>rfl
 | .idx _::_,_,.str,_=>rfl
 | .idx _::_,_,.abs _,_=>rfl
 | .idx _::_,_,.unit,_=>rfl
 | .idx _::_,_,.prod _ _,_=>rfl

structure Al where
 r:Nat
 p:cM
 τ:Ty
 m:Md
 x:τ.den

def mkAl(r:Nat)(p:cM):Option (Bool×(Σ τ:Ty,Md×τ.den))->Option Al
 |some (_,⟨τ,m,x⟩)=>some ⟨r,p,τ,m,x⟩
 |none=>none

def aP.sub?(v:aP):Option Al:=
 match v.e with
 | .own τ m x=>match v.s with
  |some t=>some ⟨t,[],τ,m,x⟩
  |none=>none
 | .sub r p=>mkAl r p (ownerOf v.r)
 |_=>none
def aP.addr?(v:aP):Option Al:=
 match v.e with
 | .box τ m x=>match v.s with
  |some t=>some ⟨t,[],τ,m,x⟩
  |none=>none
 | .addr r p=>mkAl r p (ownerOf v.r)
 |_=>none

section
variable {P:Program} {C:Ctx} {N:NP} {w0:World} {F0 H:aA} {env:St} {a:Act} {w:World} {F:aA} {S:Nat->aA} {d:Nat}

structure qQ(F:aA)(w:World)(env:St)(V:Nat->Value)(S:Nat->aA)(l:Al)(σ:Ty)(y:σ.den)(μ:Md)(pl:aK)(S0:aA)(cs:List Value)(pl':aK):Prop where
 root:fH F w (S l.r) (V l.r) (env l.r) l.τ l.m l.x pl S0 cs
 loc:loc w l.p l.τ pl=some (σ,pl')
 get:aN l.p l.τ l.x=some ⟨σ,y⟩
 mode:bI l.p l.τ l.m=some μ
 inr:inR l.p l.τ l.x

theorem qQ.focus{V:Nat->Value}{l:Al}{σ:Ty}{y:σ.den}{μ:Md}{pl:aK}{S0:aA}{cs:List Value}{pl':aK}
  (h:qQ F w env V S l σ y μ pl S0 cs pl') (hd:∀b,S l.r b->¬F b):∃cs' S',vU F w l.τ l.m S0 pl l.x l.p σ y μ pl' cs' S':=by
 obtain⟨pl2,cs2,S2,f⟩:=Go.Lf.focus l.p (fun b hb=>hd b (h.root.sub b hb)) h.root.2.2 h.root.2.1 h.get h.mode h.inr
 have e:=f.loc.symm.trans h.loc
 simp only[Option.some.injEq,Prod.mk.injEq,true_and]at e
 subst e
 exact⟨cs2,S2,f⟩

theorem rM{r:Nat}{p:cM}{o:Option (Bool×(Σ τ:Ty,Md×τ.den))}{l:Al}(h:mkAl r p o=some l):l.r=r/\l.p=p/\∃b,o=some (b,⟨l.τ,l.m,l.x⟩):=by
 unfold mkAl at h
 split at h
 ·injection h with h;subst h;exact⟨rfl,rfl,_,rfl⟩
 ·cases h

theorem kD(hi:aJ P N w0 F0 H env a w F S){v:Value}{vw:aP}(hv:aU P F w env (fun t=>a.tmps.getD t undef) S v vw){l:Al}(h:vw.sub? =some l):
  ∃σ y μ pl S0 cs pl' cs',qQ F w env (fun t=>a.tmps.getD t undef) S l σ y μ pl S0 cs pl'/\pl'.read w σ.size=some cs'/\v=bH σ cs':=by
 obtain⟨e,r,s⟩:=vw
 have hroot:=hv.root
 unfold aP.sub? at h
 split at h
 ·rename_i τ m x he
  simp only at he;subst he;split at h
  ·rename_i t ht
   simp only at ht;subst ht;injection h with h;subst h;obtain⟨t',h1,h2,rfl⟩:=hv.own rfl;injection h1 with h1;subst h1;have h3:=hi.ent t;rw[h2]at h3;obtain⟨pl,S0,cs,h3⟩:=h3;obtain⟨_,_,h4,h5,h6⟩:=h3.own_inj;subst h4;refine⟨τ,x,m,.val cs,S0,cs,.val cs,cs,⟨by rw[h2];exact h3,rfl,rfl,rfl,trivial⟩,rfl,h6⟩
  ·cases h
 ·rename_i q p he
  simp only at he;subst he;obtain⟨e1,e2,b,e3⟩:=rM h;obtain⟨lr,lp,lτ,lm,lx⟩:=l;simp only at e1 e2 e3;subst e1;subst e2;have h1:=hv.ent rfl (lr+1) (by simp[Ent.root]);simp only[aF,if_true]at h1;obtain⟨τ0,m0,x0,pl,S0,cs,σ,μ,pl',cs',g1,g2,g3,g4,g5,g6,g7⟩:=h1;simp only[show ¬(lr=lr+1)from by omega,if_false]at g1
  simp only[mQ,Ent.root]at hroot;rw[hroot]at e3;obtain⟨b',h'⟩:=g1.ownerOf;have hh:=h'.symm.trans e3;simp only[Option.some.injEq,Prod.mk.injEq,Sigma.mk.injEq]at hh;obtain⟨_,rfl,hh⟩:=hh;have hh:=eq_of_heq hh;simp only[Prod.mk.injEq]at hh;obtain⟨rfl,rfl⟩:=hh;obtain⟨⟨σ0,y0⟩,hg⟩:=Option.isSome_iff_exists.1 g5;obtain⟨pl2,cs2,S2,f⟩:=Go.Lf.focus lp (fun b hb=>(hi.sb lr b (g1.sub b hb)).2.2) g1.2.2 g1.2.1 hg g6 g7
  have e:=f.loc.symm.trans g2
  simp only[Option.some.injEq,Prod.mk.injEq]at e;obtain⟨rfl,rfl⟩:=e;exact⟨σ0,y0,μ,pl,S0,cs,pl2,cs',⟨g1,g2,hg,g6,g7⟩,g3,g4⟩
 ·cases h

theorem gK(hi:aJ P N w0 F0 H env a w F S){v:Value}{vw:aP}(hv:aU P F w env (fun t=>a.tmps.getD t undef) S v vw){l:Al}(h:vw.addr? =some l):
  ∃σ y μ pl S0 cs b off,qQ F w env (fun t=>a.tmps.getD t undef) S l σ y μ pl S0 cs (.mem b off)/\v= .pointer (some ⟨b,off,none⟩):=by
 obtain⟨e,r,s⟩:=vw
 have hroot:=hv.root
 unfold aP.addr? at h
 split at h
 ·rename_i τ m x he
  simp only at he;subst he;split at h
  ·rename_i t ht
   simp only at ht;subst ht;injection h with h;subst h;obtain⟨t',h1,h2,rfl⟩:=hv.own rfl;injection h1 with h1;subst h1;have h3:=hi.ent t;rw[h2]at h3;obtain⟨pl,S0,cs,h3⟩:=h3;obtain⟨_,_,b,h4,h5,h6,_⟩:=h3.box_inj;subst h4;refine⟨τ,x,m,.mem b 0,S0,cs,b,0,⟨by rw[h2];exact h3,rfl,rfl,rfl,trivial⟩,h6⟩
  ·cases h
 ·rename_i q p he
  simp only at he;subst he;obtain⟨e1,e2,b,e3⟩:=rM h;obtain⟨lr,lp,lτ,lm,lx⟩:=l;simp only at e1 e2 e3;subst e1;subst e2;have h1:=hv.ent rfl (lr+1) (by simp[Ent.root]);simp only[aF,if_true]at h1;obtain⟨τ0,m0,x0,pl,S0,cs,σ,μ,b1,off,g1,g2,g4,g5,g6,g7⟩:=h1;simp only[show ¬(lr=lr+1)from by omega,if_false]at g1
  simp only[mQ,Ent.root]at hroot;rw[hroot]at e3;obtain⟨b',h'⟩:=g1.ownerOf;have hh:=h'.symm.trans e3;simp only[Option.some.injEq,Prod.mk.injEq,Sigma.mk.injEq]at hh;obtain⟨_,rfl,hh⟩:=hh;have hh:=eq_of_heq hh;simp only[Prod.mk.injEq]at hh;obtain⟨rfl,rfl⟩:=hh;obtain⟨⟨σ0,y0⟩,hg⟩:=Option.isSome_iff_exists.1 g5;obtain⟨pl2,cs2,S2,f⟩:=Go.Lf.focus lp (fun b hb=>(hi.sb lr b (g1.sub b hb)).2.2) g1.2.2 g1.2.1 hg g6 g7
  have e:=f.loc.symm.trans g2
  simp only[Option.some.injEq,Prod.mk.injEq]at e;obtain⟨rfl,rfl⟩:=e;exact⟨σ0,y0,μ,pl,S0,cs,b1,off,⟨g1,g2,hg,g6,g7⟩,g4⟩
 ·cases h

theorem qQ.down{V:Nat->Value}{l:Al}{σ:Ty}{y:σ.den}{μ:Md}{pl:aK}{S0:aA}{cs:List Value}{pl':aK}
  (h:qQ F w env V S l σ y μ pl S0 cs pl') {q:cM} {σ':Ty} {y':σ'.den} {μ':Md} {pl2:aK} (h1:Go.Lf.loc w q σ pl'=some (σ',pl2)) (h2:aN q σ y=some ⟨σ',y'⟩)
  (h3:bI q σ μ=some μ') (h4:inR q σ y):qQ F w env V S {l with p:=l.p++q} σ' y' μ' pl S0 cs pl2:=by
 refine⟨h.root,?_,?_,?_,j5 _ _ _ _ h.get h.inr h4⟩
 ·rw[iL,h.loc];exact h1
 ·rw[gR,h.get];exact h2
 ·exact(gT _ _ _ _ _ h.get h.mode).trans h3

theorem qQ.addr{V:Nat->Value}{l:Al}{σ:Ty}{y:σ.den}{μ:Md}{pl:aK}{S0:aA}{cs:List Value}{b off:Nat}
  (h:qQ F w env V S l σ y μ pl S0 cs (.mem b off)) (hd:l.r≠d):aF P F w env (fun s=>if s=d then .pointer (some ⟨b,off,none⟩)else V s) S d (.addr l.r l.p):=by
 refine⟨l.τ,l.m,l.x,pl,S0,cs,σ,μ,b,off,?_,h.loc,by simp,by rw[h.get];rfl,h.mode,h.inr⟩
 simp only[hd,if_false]
 exact h.root

theorem qQ.sub{V:Nat->Value}{l:Al}{σ:Ty}{y:σ.den}{μ:Md}{pl:aK}{S0:aA}{cs:List Value}{pl':aK}{cs':List Value}
  (h:qQ F w env V S l σ y μ pl S0 cs pl') (hr:pl'.read w σ.size=some cs') (hd:l.r≠d):
  aF P F w env (fun s=>if s=d then bH σ cs' else V s) S d (.sub l.r l.p):=by
 refine⟨l.τ,l.m,l.x,pl,S0,cs,σ,μ,pl',cs',?_,h.loc,hr,by simp,by rw[h.get];rfl,h.mode,h.inr⟩
 simp only[hd,if_false]
 exact h.root

end
end Go.Lf
namespace Go.Lf

def inN(i:Int)(n:Nat):Prop:=0<=i/\i<n

def yN(C:Ctx)(T:TypeId)(vx vi:aP):Res:=
 match vi.val with
 |some ⟨.int _,i⟩=>match vx.sub? with
  |some l=>match aN l.p l.τ l.x,bI l.p l.τ l.m with
   |some ⟨.slice e,xs⟩,some (.own _)=>bif decide (look C.tys T=some (.slice e))then some (inN i xs.length,.addr l.r (l.p++[.idx (Int.toNat i)]))else none
   |_,_=>none
  |none=>match vx.addr? with
   |some l=>match aN l.p l.τ l.x,bI l.p l.τ l.m with
    |some ⟨.arr n e,xs⟩,some _=>bif decide (look C.tys T=some (.arr n e))then some (inN i n,.addr l.r (l.p++[.idx (Int.toNat i)]))else none
    |_,_=>none
   |none=>match vx.e with
    | .shr (.slice e) xs=>bif decide (look C.tys T=some (.slice e))then some (inN i xs.length,.saddr e (xs.getD (Int.toNat i) e.dflt))else none
    | .full e xs=>bif decide (look C.tys T=some (.slice e))then some (inN i xs.length,.saddr e (xs.getD (Int.toNat i) e.dflt))else none
    | .rd r (.slice e) xs=>bif decide (look C.tys T=some (.slice e))then some (inN i xs.length,.raddr r e (xs.getD (Int.toNat i) e.dflt))else none
    | .pend r _ e _ xs=>bif decide (look C.tys T=some (.slice e))then some (inN i xs.length,.raddr r e (xs.getD (Int.toNat i) e.dflt))else none
    | .saddr (.arr n e) xs=>bif decide (look C.tys T=some (.arr n e))then some (inN i n,.saddr e (xs.getD (Int.toNat i) e.dflt))else none
    | .raddr r (.arr n e) xs=>bif decide (look C.tys T=some (.arr n e))then some (inN i n,.raddr r e (xs.getD (Int.toNat i) e.dflt))else none
    |_=>none
 |_=>none

def aZ:Nat->cM
 |0=>[.fst]
 |k+1=> .snd::aZ k

def tD(C:Ctx)(T:TypeId)(vx:aP)(k:Nat):Res:=
 match vx.addr? with
 |some l=>match aN l.p l.τ l.x,bI l.p l.τ l.m with
  |some ⟨τ,y⟩,some m=>match aN (aZ k) τ y with
   |some _=>bif decide (look C.tys T=some τ)then some (True,.addr l.r (l.p++aZ k))else none
   |none=>none
  |_,_=>none
 |none=>match vx.e with
  | .saddr τ x=>match aN (aZ k) τ x with
   |some ⟨σ,y⟩=>bif decide (look C.tys T=some τ)then some (True,.saddr σ y)else none
   |none=>none
  | .raddr r τ x=>match aN (aZ k) τ x with
   |some ⟨σ,y⟩=>bif decide (look C.tys T=some τ)then some (True,.raddr r σ y)else none
   |none=>none
  |_=>none

def dO:Md->Bool
 | .shr=>true
 |_=>false

def readE(l:Al):Res:=
 match aN l.p l.τ l.x,bI l.p l.τ l.m with
 |some ⟨σ,y⟩,some m=>some (True,bif σ.flat||dO m then .shr σ y else .sub l.r l.p)
 |_,_=>none

def loadE(C:Ctx)(T:TypeId)(va:aP):Res:=
 match va.addr? with
 |some l=>match aN l.p l.τ l.x with
  |some ⟨σ,y⟩=>bif decide (look C.tys T=some σ)then readE l else none
  |none=>none
 |none=>match va.e with
  | .saddr σ y=>bif decide (look C.tys T=some σ)then some (True,.shr σ y)else none
  | .raddr r σ y=>bif decide (look C.tys T=some σ)then some (True,bif σ.flat then .shr σ y else .rd r σ y)else none
  | .pp r=>(match look C.tys T with
   |some (.abs .ptr)=>some (True,.addr r [])
   |_=>none)
  |_=>none

section
variable {P:Program} {C:Ctx} {N:NP} {w0:World} {F0 H:aA} {env:St} {a:Act} {w:World} {F:aA} {S:Nat->aA} {d:Nat}

theorem kT(b off n:Nat):(⟨b,off,none⟩:Addr).add n=⟨b,off+n,none⟩:=by unfold Addr.add;split<;>simp_all

theorem bB.slice{tys:List (TypeId×Ty)}{T:TypeId}{e:Ty}(h:bB P tys T (.slice e)):∃E,P.underlying T=some (.slice E)/\look tys E=some e/\e.size≠0:=by
 obtain⟨i,d,h1,h2,h3,h4,h5,h6⟩:=h
 cases d<;>simp only[iF,Bool.false_eq_true]at h6
 simp only[Bool.and_eq_true,decide_eq_true_eq,Bool.not_eq_true']at h6
 exact⟨_,h2,h6.1,fun h=>by rw[h]at h6;simp at h6⟩
theorem bB.arr{tys:List (TypeId×Ty)}{T:TypeId}{n:Nat}{e:Ty}(h:bB P tys T (.arr n e)):∃E,P.underlying T=some (.array n E)/\look tys E=some e/\e.size≠0:=by
 obtain⟨i,d,h1,h2,h3,h4,h5,h6⟩:=h
 cases d<;>simp only[iF,Bool.false_eq_true]at h6
 simp only[Bool.and_eq_true,decide_eq_true_eq,Bool.not_eq_true']at h6
 obtain⟨⟨e1,e2⟩,e3⟩:=h6
 have:=Nat.eq_of_beq_eq_true e1
 subst this
 exact⟨_,h2,e2,fun h=>by rw[h]at e3;simp at e3⟩

theorem eO(hC:aG P C){T:TypeId}{e:Ty}(hT:look C.tys T=some (.slice e))(b off len cap:Nat)(k:IntKind)(i:Int)(hi:inN i len):
  (Instr.indexAt T (.slice (some ⟨b,off,none⟩) len cap) (.int k i)).run P w= .ok (.pointer (some ⟨b,off+i.toNat*e.size,none⟩)) w:=by
 obtain⟨E,h1,h2,_⟩:=(hC.types T _ hT).slice
 have h3:=(hC.types E _ h2).run_size w
 have h4:0<=i/\i<(len:Int):=hi
 simp[Instr.indexAt,asIntOf,run_underlying h1,h4,h3,kT]
theorem jD(hC:aG P C){T:TypeId}{n:Nat}{e:Ty}(hT:look C.tys T=some (.arr n e))(b off:Nat)(k:IntKind)(i:Int)(hi:inN i n):
  (Instr.indexAt T (.pointer (some ⟨b,off,none⟩)) (.int k i)).run P w= .ok (.pointer (some ⟨b,off+i.toNat*e.size,none⟩)) w:=by
 obtain⟨E,h1,h2,_⟩:=(hC.types T _ hT).arr
 have h3:=(hC.types E _ h2).run_size w
 have h4:0<=i/\i<(n:Int):=hi
 simp[Instr.indexAt,asIntOf,run_underlying h1,h4,h3,kT,Instr.sureAddr]

theorem aT.elem{e:Ty}{G:aA}{v:Value}{xs:List e.den}(h:aT G w (.slice e) .shr none' v xs){i:Int}(hi:inN i xs.length):
  ∃b off cap,v= .slice (some ⟨b,off,none⟩) xs.length cap/\gV G w (.pointer (some ⟨b,off+i.toNat*e.size,none⟩)) e (xs.getD i.toNat e.dflt):=by
 obtain⟨cs,rfl,ao,cap,rfl,h1,h2,h3⟩:=h
 obtain⟨hi0,hi1⟩:=hi
 rcases h3 with h3|⟨b,off,row,T,fr,rfl,hb,hr,ho,he⟩
 ·subst h3;simp at hi1;omega
 ·have hin:(i.toNat+1)*e.size<=xs.length*e.size:=Nat.mul_le_mul_right _ (by omega)
  rw[Nat.add_mul,Nat.one_mul]at hin;exact⟨b,off,cap,rfl,b,_,row,T,fr,rfl,hb,hr,by omega,Own.list_get (Si:=fun _=>none') he (by omega)⟩

theorem gV.elem{n:Nat}{e:Ty}{G:aA}{v:Value}{xs:List e.den}(h:gV G w v (.arr n e) xs){i:Int}(hi:inN i n):
  ∃b off,v= .pointer (some ⟨b,off,none⟩)/\gV G w (.pointer (some ⟨b,off+i.toNat*e.size,none⟩)) e (xs.getD i.toNat e.dflt):=by
 obtain⟨b,off,row,T,fr,rfl,hb,hr,ho,h1,h2,Si,s,dd,he⟩:=h
 obtain⟨hi0,hi1⟩:=hi
 have hin:(i.toNat+1)*e.size<=n*e.size:=Nat.mul_le_mul_right _ (by omega)
 rw[Nat.add_mul,Nat.one_mul]at hin
 simp only[Ty.size]at ho
 refine⟨b,off,rfl,b,_,row,T,fr,rfl,hb,hr,by omega,?_⟩
 have:=Own.list_get he (i:=i.toNat) (by omega)
 rw[dV _ _ _ _ _ (by simpa[Ty.size]using hin)]at this
 exact Own.shr this

theorem aF.mk_saddr{V:Nat->Value}{v:Value}{τ:Ty}{x:τ.den}(h:gV F w v τ x):aF P F w env (fun s=>if s=d then v else V s) S d (.saddr τ x):=by
 simp only[aF,if_true];exact h
theorem aF.mk_raddr{V:Nat->Value}{v:Value}{r:Nat}{τ:Ty}{x:τ.den}(ho:(env r).isOwner=true)(h:gV (fun b=>F b∨S r b) w v τ x):
  aF P F w env (fun s=>if s=d then v else V s) S d (.raddr r τ x):=by
 simp only[aF,if_true];exact⟨ho,h⟩

theorem wY(hC:aG P C)(hi:aJ P N w0 F0 H env a w F S){T:TypeId}{x y:Operand}{o:Oper}(ho:o.op= .indexAddr T x y){vx vy:aP}
  (hx:aU P F w env (fun t=>a.tmps.getD t undef) S (a.eval x) vx) (hy:aU P F w env (fun t=>a.tmps.getD t undef) S (a.eval y) vy)
  {c:Prop} {e:Ent} (h:yN C T vx vy=some (c,e)) (hc:c):c8 P F w env (fun t=>a.tmps.getD t undef) S d (execOp a.eval o) e:=by
 have hrun:∀(v:Value),(Instr.indexAt T (a.eval x) (a.eval y)).run P w= .ok v w->(execOp a.eval o).run P w= .ok (.value v) w:=by
  intro v hv;simp only[execOp,ho];rw[Sem.run_bind,hv];rfl
 unfold yN at h
 split at h
 rotate_left
 ·cases h
 rename_i k i hval
 obtain⟨e2,_⟩:=(aP.val_ok hi hy hval).int_eq
 rw[e2]at hrun
 split at h
 ·rename_i l hl
  obtain⟨σ,z,μ,pl,S0,cs,pl',cs',hA,hrd,hv⟩:=kD hi hx hl;split at h
  ·rename_i e' xs me hg hm
   cases hT:decide (look C.tys T=some (.slice e'))
   ·rw[hT]at h;cases h
   have hT':=of_decide_eq_true hT
   simp only[hT,cond_true,Option.some.injEq,Prod.mk.injEq]at h;obtain⟨rfl,rfl⟩:=h;have e3:=hA.get.symm.trans hg;simp only[Option.some.injEq,Sigma.mk.injEq]at e3;obtain⟨rfl,e3⟩:=e3;cases e3;have e4:=hA.mode.symm.trans hm;simp only[Option.some.injEq]at e4;subst e4;obtain⟨cs2,S2,f⟩:=hA.focus (fun b hb=>(hi.sb _ b hb).2.2)
   have e5:=f.ok.read.symm.trans hrd
   simp only[Option.some.injEq]at e5;subst e5;obtain⟨ao,cap,rfl,q1,q2,q3⟩:=f.own;have hin:Int.toNat i<xs.length:=by have:=hc.1;have:=hc.2;omega
   rcases q3 with⟨_,q3⟩|⟨b,off,row,T0,Si,rfl,hb,hr,hsz,s,nb,dd,he⟩
   ·omega
   have e6:a.eval x= .slice (some ⟨b,off,none⟩) xs.length cap:=hv
   rw[e6]at hrun;refine⟨_,hrun _ (eO hC hT' b off xs.length cap k i hc),rfl,fun hne=> ?_⟩
   have hd:=hA.down (q:=[.idx (Int.toNat i)]) (σ':=e') (y':=xs.getD (Int.toNat i) e'.dflt) (μ':=me) (pl2:= .mem b (off+Int.toNat i*e'.size))
    (by simp only[loc];rw[show pl'.read w 1=_ from hrd];simp only[];rw[if_pos hin]) rfl rfl ⟨hin,trivial⟩
   exact hd.addr (by simpa[Ent.root]using hne)
  ·cases h
 ·rename_i hnone
  split at h
  ·rename_i l hl
   obtain⟨σ,z,μ,pl,S0,cs,b,off,hA,hv⟩:=gK hi hx hl;split at h
   ·rename_i n e' xs me hg hm
    cases hT:decide (look C.tys T=some (.arr n e'))
    ·rw[hT]at h;cases h
    have hT':=of_decide_eq_true hT
    simp only[hT,cond_true,Option.some.injEq,Prod.mk.injEq]at h;obtain⟨rfl,rfl⟩:=h;have e3:=hA.get.symm.trans hg;simp only[Option.some.injEq,Sigma.mk.injEq]at e3;obtain⟨rfl,e3⟩:=e3;cases e3;obtain⟨cs2,S2,f⟩:=hA.focus (fun b hb=>(hi.sb _ b hb).2.2)
    have hlen:=f.own.1
    have hin:Int.toNat i<n:=by have:=hc.1;have:=hc.2;omega
    rw[hv]at hrun;refine⟨_,hrun _ (jD hC hT' b off k i hc),rfl,fun hne=> ?_⟩
    have hd:=hA.down (q:=[.idx (Int.toNat i)]) (σ':=e') (y':=xs.getD (Int.toNat i) e'.dflt) (μ':=μ.elem) (pl2:= .mem b (off+Int.toNat i*e'.size))
     (by simp only[loc];rw[if_pos hin];rfl) rfl rfl ⟨by rw[hlen];exact hin,trivial⟩
    exact hd.addr (by simpa[Ent.root]using hne)
   ·cases h
  ·split at h
   ·rename_i e' xs he
    cases hT:decide (look C.tys T=some (.slice e'))
    ·rw[hT]at h;cases h
    have hT':=of_decide_eq_true hT
    simp only[hT,cond_true,Option.some.injEq,Prod.mk.injEq]at h;obtain⟨rfl,rfl⟩:=h;have hsh:=hx.ent (by rw[he];rfl) 0 (by rw[he];simp[Ent.root]);rw[he]at hsh;simp only[aF,if_true]at hsh;obtain⟨b,off,cap,e6,hS⟩:=hsh.elem hc;rw[e6]at hrun;exact⟨_,hrun _ (eO hC hT' b off xs.length cap k i hc),rfl,fun _=> .mk_saddr hS⟩
   ·rename_i e' xs he
    cases hT:decide (look C.tys T=some (.slice e'))
    ·rw[hT]at h;cases h
    have hT':=of_decide_eq_true hT
    simp only[hT,cond_true,Option.some.injEq,Prod.mk.injEq]at h;obtain⟨rfl,rfl⟩:=h;have hsh:=hx.ent (by rw[he];rfl) 0 (by rw[he];simp[Ent.root]);rw[he]at hsh;simp only[aF,if_true]at hsh;obtain⟨_,_,hsh⟩:=hsh;obtain⟨b,off,cap,e6,hS⟩:=hsh.elem hc;rw[e6]at hrun;exact⟨_,hrun _ (eO hC hT' b off xs.length cap k i hc),rfl,fun _=> .mk_saddr hS⟩
   ·rename_i r e' xs he
    cases hT:decide (look C.tys T=some (.slice e'))
    ·rw[hT]at h;cases h
    have hT':=of_decide_eq_true hT
    simp only[hT,cond_true,Option.some.injEq,Prod.mk.injEq]at h;obtain⟨rfl,rfl⟩:=h;have hsh:=hx.ent (by rw[he];rfl) (r+1) (by rw[he];simp[Ent.root]);rw[he]at hsh;simp only[aF,if_true]at hsh;obtain⟨how,hsh⟩:=hsh;obtain⟨b,off,cap,e6,hS⟩:=hsh.elem hc;rw[e6]at hrun;exact⟨_,hrun _ (eO hC hT' b off xs.length cap k i hc),rfl,fun _=> .mk_raddr how hS⟩
   ·rename_i r p e' me xs he
    cases hT:decide (look C.tys T=some (.slice e'))
    ·rw[hT]at h;cases h
    have hT':=of_decide_eq_true hT
    simp only[hT,cond_true,Option.some.injEq,Prod.mk.injEq]at h;obtain⟨rfl,rfl⟩:=h;have hsh:=hx.ent (by rw[he];rfl) (r+1) (by rw[he];simp[Ent.root]);rw[he]at hsh;have how:=hsh.root_owner rfl;simp only[aF,if_true]at hsh;obtain⟨τ0,m0,x0,pl,S0,cs,y,pl',S',Sp,cp,g1,g2,g3,g4,g5,g6,g7,g8,g9⟩:=hsh;have hsh:aT (fun b=>F b∨S r b) w (.slice e') .shr none' (a.eval x) xs:=aT.freeze ⟨cp,g6,g7⟩ (fun b hb=>hb.imp id (g8 b))
    obtain⟨b,off,cap,e6,hS⟩:=hsh.elem hc;rw[e6]at hrun;exact⟨_,hrun _ (eO hC hT' b off xs.length cap k i hc),rfl,fun _=> .mk_raddr how hS⟩
   ·rename_i n e' xs he
    cases hT:decide (look C.tys T=some (.arr n e'))
    ·rw[hT]at h;cases h
    have hT':=of_decide_eq_true hT
    simp only[hT,cond_true,Option.some.injEq,Prod.mk.injEq]at h;obtain⟨rfl,rfl⟩:=h;have hsh:=hx.ent (by rw[he];rfl) 0 (by rw[he];simp[Ent.root]);rw[he]at hsh;simp only[aF,if_true]at hsh;obtain⟨b,off,e6,hS⟩:=gV.elem hsh hc;rw[e6]at hrun;exact⟨_,hrun _ (jD hC hT' b off k i hc),rfl,fun _=> .mk_saddr hS⟩
   ·rename_i r n e' xs he
    cases hT:decide (look C.tys T=some (.arr n e'))
    ·rw[hT]at h;cases h
    have hT':=of_decide_eq_true hT
    simp only[hT,cond_true,Option.some.injEq,Prod.mk.injEq]at h;obtain⟨rfl,rfl⟩:=h;have hsh:=hx.ent (by rw[he];rfl) (r+1) (by rw[he];simp[Ent.root]);rw[he]at hsh;simp only[aF,if_true]at hsh;obtain⟨how,hsh⟩:=hsh;obtain⟨b,off,e6,hS⟩:=gV.elem hsh hc;rw[e6]at hrun;exact⟨_,hrun _ (jD hC hT' b off k i hc),rfl,fun _=> .mk_raddr how hS⟩
   ·cases h

end
end Go.Lf
namespace Go.Lf

def fieldE(C:Ctx)(T:TypeId)(vx:aP)(k:Nat):Res:=
 match vx.sub? with
 |some l=>match aN l.p l.τ l.x with
  |some ⟨τ,y⟩=>match aN (aZ k) τ y with
   |some _=>bif decide (look C.tys T=some τ)then readE {l with p:=l.p++aZ k} else none
   |none=>none
  |none=>none
 |none=>match vx.e with
  | .shr τ x=>match aN (aZ k) τ x with
   |some ⟨σ,y⟩=>bif decide (look C.tys T=some τ)then some (True,.shr σ y)else none
   |none=>none
  | .rd r τ x=>match aN (aZ k) τ x with
   |some ⟨σ,y⟩=>bif decide (look C.tys T=some τ)then some (True,bif σ.flat then .shr σ y else .rd r σ y)else none
   |none=>none
  |_=>none

def pJ(d:Option Int):Option aP->Option (Option Int)
 |none=>some d
 |some v=>match v.val with
  |some ⟨.int _,i⟩=>some (some i)
  |_=>none

def vW(lo hi:Int)(n:Nat):Prop:=0<=lo/\lo<=hi/\hi<=n
def win{α:Type}(lo hi:Int)(xs:List α):List α:=(xs.take hi.toNat).drop lo.toNat

def sliceE(C:Ctx)(T:TypeId)(vx:aP)(lo hi mx:Option aP):Res:=
 match pJ (some 0) lo,pJ none hi,pJ none mx with
 |some (some l),some h,some m=>match vx.e,vx.val with
  | .shr (.slice e) xs,_=>bif decide (look C.tys T=some (.slice e))then
    (match m with
    |none=>some (vW l (h.getD xs.length) xs.length,.shr (.slice e) (win l (h.getD xs.length) xs))
    |some m=>match h with
     |some h=>some (vW l h xs.length/\m=h,.full e (win l h xs))
     |none=>none)else none
  |_,some ⟨.slice e,xs⟩=>match m,vx.sub?,vx.e with
   |none,some al,_=>bif decide (look C.tys T=some (.slice e))then some (vW l (h.getD xs.length) xs.length,.rd al.r (.slice e) (win l (h.getD xs.length) xs))else none
   |none,none,.rd r _ _=>bif decide (look C.tys T=some (.slice e))then some (vW l (h.getD xs.length) xs.length,.rd r (.slice e) (win l (h.getD xs.length) xs))else none
   |none,none,.pend r _ _ _ _=>bif decide (look C.tys T=some (.slice e))then some (vW l (h.getD xs.length) xs.length,.rd r (.slice e) (win l (h.getD xs.length) xs))else none
   |_,_,_=>none
  |_,some ⟨.str,s⟩=>match m with
   |none=>bif decide (look C.tys T=some .str)then some (vW l (h.getD (List.length s)) (List.length s),.shr .str (win l (h.getD (List.length s)) s))else none
   |some _=>none
  |_,_=>none
 |_,_,_=>none

section
variable {P:Program} {C:Ctx} {N:NP} {w0:World} {F0 H:aA} {env:St} {a:Act} {w:World} {F:aA} {S:Nat->aA} {d:Nat}

theorem rW{tys:List (TypeId×Ty)}:∀(k:Nat) (fs:List Field) (off:Nat) (τ:Ty) (y:τ.den) {σ:Ty} {z:σ.den},cH tys fs off τ=true->aN (aZ k) τ y=some ⟨σ,z⟩->
  ∃f o,fs[k]? =some f/\look tys f.type=some σ/\σ.size≠0/\f.offset=off+o/\o+σ.size<=τ.size/\
   (∀w b off',loc w (aZ k) τ (.mem b off')=some (σ,.mem b (off'+o)))/\(∀w cs,loc w (aZ k) τ (.val cs)=some (σ,.val (seg cs o σ.size))∨τ.size≠cs.length)/\
   (∀m,∃μ,bI (aZ k) τ m=some μ/\(dO m=true->μ= .shr))/\inR (aZ k) τ y/\
   ∀G w cs,Own G w τ .shr none' cs y->Own G w σ .shr none' (seg cs o σ.size) z
 |0,f::fs,off,.prod A B,y,σ,z,h,hg=>by
  simp only[cH,Bool.and_eq_true,decide_eq_true_eq,Bool.not_eq_true']at h;obtain⟨⟨⟨h1,h2⟩,h3⟩,h4⟩:=h;simp only[aZ,aN,Option.some.injEq,Sigma.mk.injEq]at hg;obtain⟨rfl,hg⟩:=hg;cases hg;refine⟨f,0,rfl,h2,fun h=>by rw[h]at h3;simp at h3,Nat.eq_of_beq_eq_true h1,by simp[Ty.size],fun _ _ _=>rfl,fun w cs=> .inl (by simp[aZ,loc,aK.part]),?_,trivial,?_⟩
  ·intro m;exact⟨m.fst,rfl,fun h=>by cases m<;>first|rfl|cases h⟩
  ·intro G w cs h
   obtain⟨c1,c2,S1,S2,rfl,_,_,_,q1,q2⟩:=h;rw[bP _ _ _ q1.len];exact Own.shr q1
 |k+1,f::fs,off,.prod A B,y,σ,z,h,hg=>by
  simp only[cH,Bool.and_eq_true,decide_eq_true_eq,Bool.not_eq_true']at h;obtain⟨⟨⟨h1,h2⟩,h3⟩,h4⟩:=h;obtain⟨f',o,g1,g2,g3,g4,g5,g6,g7,g8,g9,g10⟩:=rW k fs (off+A.size) B y.2 h4 hg;refine⟨f',A.size+o,g1,g2,g3,by omega,by simp[Ty.size];omega,?_,?_,?_,g9,?_⟩
  ·intro w b off'
   simp only[aZ,loc,aK.part];rw[g6];simp[Nat.add_assoc]
  ·intro w cs
   by_cases hl:(Ty.prod A B).size=cs.length
   ·left
    simp only[aZ,loc,aK.part];simp only[Ty.size]at hl;rcases g7 w (seg cs A.size B.size)with h|h
    ·rw[h,dV _ _ _ _ _ g5]
    ·exact absurd (lT cs A.size B.size (by omega)).symm h
   ·exact .inr hl
  ·intro m
   obtain⟨μ,q1,q2⟩:=g8 m.snd;exact⟨μ,q1,fun h=>q2 (by cases m<;>first|rfl|cases h)⟩
  ·intro G w cs h
   obtain⟨c1,c2,S1,S2,rfl,_,_,_,q1,q2⟩:=h;have:=g10 G w c2 (Own.shr q2);have e1:=bL c1 c2 _ _ q1.len q2.len;rw[<-e1,dV _ _ _ _ _ g5]at this;exact this
 |0,[],_,.prod _ _,_,_,_,h,_=>by simp[cH]at h
 |_+1,[],_,.prod _ _,_,_,_,h,_=>by simp[cH]at h
 |0,_,_,.int _,_,_,_,_,hg=>by simp[aZ,aN]at hg
 |0,_,_,.bool,_,_,_,_,hg=>by simp[aZ,aN]at hg
 |0,_,_,.str,_,_,_,_,hg=>by simp[aZ,aN]at hg
 |0,_,_,.abs _,_,_,_,_,hg=>by simp[aZ,aN]at hg
 |0,_,_,.unit,_,_,_,_,hg=>by simp[aZ,aN]at hg
 |0,_,_,.slice _,_,_,_,_,hg=>by simp[aZ,aN]at hg
 |0,_,_,.arr _ _,_,_,_,_,hg=>by simp[aZ,aN]at hg
 |_+1,_,_,.int _,_,_,_,_,hg=>by simp[aZ,aN]at hg
 |_+1,_,_,.bool,_,_,_,_,hg=>by simp[aZ,aN]at hg
 |_+1,_,_,.str,_,_,_,_,hg=>by simp[aZ,aN]at hg
 |_+1,_,_,.abs _,_,_,_,_,hg=>by simp[aZ,aN]at hg
 |_+1,_,_,.unit,_,_,_,_,hg=>by simp[aZ,aN]at hg
 |_+1,_,_,.slice _,_,_,_,_,hg=>by simp[aZ,aN]at hg
 |_+1,_,_,.arr _ _,_,_,_,_,hg=>by simp[aZ,aN]at hg

theorem bB.struct{tys:List (TypeId×Ty)}{T:TypeId}{τ:Ty}(h:bB P tys T τ){k:Nat}{y:τ.den}{q:Σ σ:Ty,σ.den}(hg:aN (aZ k) τ y=some q):
  ∃fs,P.underlying T=some (.struct fs)/\cH tys fs.toList 0 τ=true:=by
 obtain⟨i,d,h1,h2,h3,h4,h5,h6⟩:=h
 cases τ<;>first|(cases k<;>simp[aZ,aN]at hg;done)|skip
 rename_i A B
 cases d<;>simp only[iF,Bool.false_eq_true]at h6
 exact⟨_,h2,h6⟩

theorem nH(hC:aG P C){T:TypeId}{τ:Ty}(hT:look C.tys T=some τ){k:Nat}{y:τ.den}{σ:Ty}{z:σ.den}(hg:aN (aZ k) τ y=some ⟨σ,z⟩):
  ∃o,(∀b off,(Instr.fieldAt T (.pointer (some ⟨b,off,none⟩)) k).run P w= .ok (.pointer (some ⟨b,off+o,none⟩)) w)/\o+σ.size<=τ.size/\
   (∀w b off',loc w (aZ k) τ (.mem b off')=some (σ,.mem b (off'+o)))/\
   (∀m,∃μ,bI (aZ k) τ m=some μ/\(dO m=true->μ= .shr))/\inR (aZ k) τ y/\
   ∀G w cs,Own G w τ .shr none' cs y->Own G w σ .shr none' (seg cs o σ.size) z:=by
 obtain⟨fs,h1,h2⟩:=(hC.types T _ hT).struct hg
 obtain⟨f,o,g1,g2,g3,g4,g5,g6,g7,g8,g9,g10⟩:=rW k fs.toList 0 τ y h2 hg
 refine⟨o,fun b off=> ?_,g5,g6,g8,g9,g10⟩
 have hs:=(hC.types f.type _ g2).run_size w
 have hf:fs[k]? =some f:=by simpa using g1
 simp[Instr.fieldAt,run_underlying h1,hf,Instr.sureAddr,fieldPlace,hs,g3,g4,kT]

theorem vD(hC:aG P C)(hi:aJ P N w0 F0 H env a w F S){T:TypeId}{x:Operand}{k:Nat}{o:Oper}(ho:o.op= .fieldAddr T x k){vx:aP}
  (hx:aU P F w env (fun t=>a.tmps.getD t undef) S (a.eval x) vx)
  {c:Prop} {e:Ent} (h:tD C T vx k=some (c,e)) (hc:c):c8 P F w env (fun t=>a.tmps.getD t undef) S d (execOp a.eval o) e:=by
 have hrun:∀(v:Value),(Instr.fieldAt T (a.eval x) k).run P w= .ok v w->(execOp a.eval o).run P w= .ok (.value v) w:=by
  intro v hv;simp only[execOp,ho];rw[Sem.run_bind,hv];rfl
 unfold tD at h
 split at h
 ·rename_i l hl
  obtain⟨σ,z,μ,pl,S0,cs,b,off,hA,hv⟩:=gK hi hx hl;split at h
  ·rename_i τ y m hg hm
   split at h
   ·rename_i q hq
    cases hT:decide (look C.tys T=some τ)
    ·rw[hT]at h;cases h
    have hT':=of_decide_eq_true hT
    simp only[hT,cond_true,Option.some.injEq,Prod.mk.injEq]at h;obtain⟨rfl,rfl⟩:=h;have e3:=hA.get.symm.trans hg;simp only[Option.some.injEq,Sigma.mk.injEq]at e3;obtain⟨rfl,e3⟩:=e3;cases e3;obtain⟨σ',z'⟩:=q;obtain⟨o',r1,r2,r3,r4,r5,r6⟩:=nH (w:=w) hC hT' hq;rw[hv]at hrun;obtain⟨μ',m1,m2⟩:=r4 μ;refine⟨_,hrun _ (r1 b off),rfl,fun hne=> ?_⟩
    exact(hA.down (r3 w b off) hq m1 r5).addr (by simpa[Ent.root]using hne)
   ·cases h
  ·cases h
 ·split at h
  ·rename_i τ y he
   split at h
   ·rename_i σ z hq
    cases hT:decide (look C.tys T=some τ)
    ·rw[hT]at h;cases h
    have hT':=of_decide_eq_true hT
    simp only[hT,cond_true,Option.some.injEq,Prod.mk.injEq]at h;obtain⟨rfl,rfl⟩:=h;have hsh:=hx.ent (by rw[he];rfl) 0 (by rw[he];simp[Ent.root]);rw[he]at hsh;simp only[aF,if_true]at hsh;obtain⟨b,off,row,T0,fr,hv,q1,q2,q3,q4⟩:=hsh;obtain⟨o',r1,r2,r3,r4,r5,r6⟩:=nH (w:=w) hC hT' hq;rw[hv]at hrun;refine⟨_,hrun _ (r1 b off),rfl,fun _=> .mk_saddr ⟨b,off+o',row,T0,fr,rfl,q1,q2,by omega,?_⟩⟩
    have:=r6 _ _ _ q4
    rwa [dV _ _ _ _ _ r2]at this
   ·cases h
  ·rename_i r τ y he
   split at h
   ·rename_i σ z hq
    cases hT:decide (look C.tys T=some τ)
    ·rw[hT]at h;cases h
    have hT':=of_decide_eq_true hT
    simp only[hT,cond_true,Option.some.injEq,Prod.mk.injEq]at h;obtain⟨rfl,rfl⟩:=h;have hsh:=hx.ent (by rw[he];rfl) (r+1) (by rw[he];simp[Ent.root]);rw[he]at hsh;simp only[aF,if_true]at hsh;obtain⟨how,b,off,row,T0,fr,hv,q1,q2,q3,q4⟩:=hsh;obtain⟨o',r1,r2,r3,r4,r5,r6⟩:=nH (w:=w) hC hT' hq;rw[hv]at hrun;refine⟨_,hrun _ (r1 b off),rfl,fun _=> .mk_raddr how ⟨b,off+o',row,T0,fr,rfl,q1,q2,by omega,?_⟩⟩
    have:=r6 _ _ _ q4
    rwa [dV _ _ _ _ _ r2]at this
   ·cases h
  ·cases h

theorem aF.mk_shr{V:Nat->Value}{v:Value}{τ:Ty}{x:τ.den}(h:aT F w τ .shr none' v x):aF P F w env (fun s=>if s=d then v else V s) S d (.shr τ x):=by
 simp only[aF,if_true];exact h
theorem aF.mk_rd{V:Nat->Value}{v:Value}{r:Nat}{τ:Ty}{x:τ.den}(ho:(env r).isOwner=true)(h:aT (fun b=>F b∨S r b) w τ .shr none' v x):
  aF P F w env (fun s=>if s=d then v else V s) S d (.rd r τ x):=by
 simp only[aF,if_true];exact⟨ho,h⟩

theorem readE_ok(hi:aJ P N w0 F0 H env a w F S){l:Al}{σ:Ty}{y:σ.den}{μ:Md}{pl:aK}{S0:aA}{cs:List Value}{pl':aK}
  (hA:qQ F w env (fun t=>a.tmps.getD t undef) S l σ y μ pl S0 cs pl') {cs':List Value} (hr:pl'.read w σ.size=some cs') {c:Prop} {e:Ent} (h:readE l=some (c,e)):
  e.isOwner=false/\(e.root≠some d->aF P F w env (fun s=>if s=d then bH σ cs' else a.tmps.getD s undef) S d e):=by
 unfold readE at h
 rw[hA.get,hA.mode]at h
 simp only[Option.some.injEq,Prod.mk.injEq]at h
 obtain⟨_,rfl⟩:=h
 obtain⟨cs2,S2,f⟩:=hA.focus (fun b hb=>(hi.sb _ b hb).2.2)
 have e5:=f.ok.read.symm.trans hr
 simp only[Option.some.injEq]at e5;subst e5
 cases hf:σ.flat
 ·cases hm:dO μ
  ·exact⟨rfl,fun hne=>hA.sub hr (by simpa[Ent.root,hf,hm]using hne)⟩
  ·have:μ= .shr:=by cases μ<;>first|rfl|cases hm
   subst this;exact⟨rfl,fun _=> .mk_shr ⟨_,rfl,Own.shr f.own⟩⟩
 ·exact⟨rfl,fun _=> .mk_shr ⟨_,rfl,Own.flat hf f.own⟩⟩

theorem loadE_ok(hC:aG P C)(hi:aJ P N w0 F0 H env a w F S){T:TypeId}{x:Operand}{o:Oper}(ho:o.op= .load T x){vx:aP}
  (hx:aU P F w env (fun t=>a.tmps.getD t undef) S (a.eval x) vx)
  {c:Prop} {e:Ent} (h:loadE C T vx=some (c,e)) (hc:c):c8 P F w env (fun t=>a.tmps.getD t undef) S d (execOp a.eval o) e:=by
 have hrun:∀(v:Value) b off,a.eval x= .pointer (some ⟨b,off,none⟩)->(loadVar T ⟨b,off,none⟩).run P w= .ok v w->(execOp a.eval o).run P w= .ok (.value v) w:=by
  intro v b off hv hl;simp only[execOp,ho,hv];simp[Instr.loadAt,Instr.sureAddr,hl]
 unfold loadE at h
 split at h
 ·rename_i l hl
  obtain⟨σ,z,μ,pl,S0,cs,b,off,hA,hv⟩:=gK hi hx hl;rw[hA.get]at h;simp only[]at h;cases hT:decide (look C.tys T=some σ)
  ·rw[hT]at h;cases h
  have hT':=of_decide_eq_true hT
  simp only[hT,cond_true]at h;obtain⟨cs2,S2,f⟩:=hA.focus (fun b hb=>(hi.sb _ b hb).2.2)
  obtain⟨q1,q2,row,T0,q3,q4,q5⟩:=f.ok;obtain⟨r1,r2⟩:=readE_ok (d:=d) hi hA f.ok.read h;exact⟨_,hrun _ b off hv (by rw[(hC.types T _ hT').loadVar q3 q4,q5]),r1,r2⟩
 ·split at h
  ·rename_i σ y he
   cases hT:decide (look C.tys T=some σ)
   ·rw[hT]at h;cases h
   have hT':=of_decide_eq_true hT
   simp only[hT,cond_true,Option.some.injEq,Prod.mk.injEq]at h;obtain⟨rfl,rfl⟩:=h;have hsh:=hx.ent (by rw[he];rfl) 0 (by rw[he];simp[Ent.root]);rw[he]at hsh;simp only[aF,if_true]at hsh;obtain⟨b,off,row,T0,fr,hv,q1,q2,q3,q4⟩:=hsh;exact⟨_,hrun _ b off hv ((hC.types T _ hT').loadVar q2 q3),rfl,fun _=> .mk_shr ⟨_,rfl,q4⟩⟩
  ·rename_i r σ y he
   cases hT:decide (look C.tys T=some σ)
   ·rw[hT]at h;cases h
   have hT':=of_decide_eq_true hT
   simp only[hT,cond_true,Option.some.injEq,Prod.mk.injEq]at h;obtain⟨rfl,rfl⟩:=h;have hsh:=hx.ent (by rw[he];rfl) (r+1) (by rw[he];simp[Ent.root]);rw[he]at hsh;simp only[aF,if_true]at hsh;obtain⟨how,b,off,row,T0,fr,hv,q1,q2,q3,q4⟩:=hsh;refine⟨_,hrun _ b off hv ((hC.types T _ hT').loadVar q2 q3),by cases σ.flat<;>rfl,?_⟩
   cases hf:σ.flat
   ·exact fun _=> .mk_rd how ⟨_,rfl,q4⟩
   ·exact fun _=> .mk_shr ⟨_,rfl,Own.flat hf q4⟩
  ·rename_i r he
   split at h
   ·rename_i hT
    simp only[Option.some.injEq,Prod.mk.injEq]at h;obtain⟨rfl,rfl⟩:=h;have hsh:=hx.ent (by rw[he];rfl) (r+1) (by rw[he];simp[Ent.root]);rw[he]at hsh;simp only[aF,if_true]at hsh;obtain⟨τ,m,z,q,S0,cs,hr,b,off,row,T0,fr,hv,q1,q2,q3⟩:=hsh;have hlt:off<row.size:=by
     rcases Nat.lt_or_ge off row.size with h|h
     ·exact h
     ·rw[Array.getElem?_eq_none h]at q3;cases q3
    have hl:=(hC.types T _ hT).loadVar q2 (show off+1<=row.size from hlt)
    have e1:bH (.abs .ptr) (seg row.toList off 1)= .pointer (some ⟨q,0,none⟩):=by
     have hlt':off<row.toList.length:=by simpa using hlt
     unfold seg;rw[List.drop_eq_getElem_cons hlt'];show row.toList[off]=_;rw[Array.getElem?_eq_getElem hlt]at q3;injection q3 with q3
    refine⟨_,hrun _ b off hv hl,rfl,fun hd=> ?_⟩
    have hrd:r≠d:=fun e=>hd (by rw[e];rfl)
    simp only[aF,if_true];rw[if_neg (show ¬r=r+1 by omega)]at hr
    refine⟨τ,m,z,.mem q 0,S0,cs,τ,m,q,0,?_,rfl,e1,rfl,rfl,trivial⟩
    rw[if_neg hrd];exact hr
   ·cases h
  ·cases h

theorem qY(hC:aG P C){T:TypeId}{τ:Ty}(hT:look C.tys T=some τ){k:Nat}{y:τ.den}{σ:Ty}{z:σ.den}(hg:aN (aZ k) τ y=some ⟨σ,z⟩){cs:List Value}(hl:cs.length=τ.size):
  ∃o,(Instr.field T (bH τ cs) k).run P w= .ok (bH σ (seg cs o σ.size)) w/\o+σ.size<=τ.size/\
   loc w (aZ k) τ (.val cs)=some (σ,.val (seg cs o σ.size))/\(∀w b off',loc w (aZ k) τ (.mem b off')=some (σ,.mem b (off'+o)))/\
   (∀m,∃μ,bI (aZ k) τ m=some μ/\(dO m=true->μ= .shr))/\inR (aZ k) τ y/\
   ∀G w cs,Own G w τ .shr none' cs y->Own G w σ .shr none' (seg cs o σ.size) z:=by
 obtain⟨fs,h1,h2⟩:=(hC.types T _ hT).struct hg
 obtain⟨f,o,g1,g2,g3,g4,g5,g6,g7,g8,g9,g10⟩:=rW k fs.toList 0 τ y h2 hg
 refine⟨o,?_,g5,(g7 w cs).resolve_right (by omega),g6,g8,g9,g10⟩
 have hs:=(hC.types f.type _ g2).run_size w
 have ha:=(hC.types f.type _ g2).run_isAgg w
 have hf:fs[k]? =some f:=by simpa using g1
 have hagg:τ.isAgg=true:=by cases τ<;>first|rfl|(cases k<;>simp[aZ,aN]at hg)
 have e1:bH τ cs= .agg cs.toArray:=by simp[bH,hagg]
 have hlen:(seg cs o σ.size).length=σ.size:=lT _ _ _ (by omega)
 simp only[Instr.field,Sem.run_bind,run_underlying h1,Result.andThen,hf,e1,asAgg,Sem.run_pure,Go.part,ha,g4,Nat.zero_add]
 cases hσ:σ.isAgg
 ·have hs1:σ.size=1:=by cases σ<;>first|rfl|cases hσ
  have hoc:o<cs.length:=by omega
  simp only[Bool.false_eq_true,if_false];have:cs.toArray[o]? =some cs[o]:=by simp[hoc]
  rw[this];simp only[Sem.run_pure,bH,hσ,Bool.false_eq_true,if_false,hs1]
  congr 1
  unfold seg;rw[List.drop_eq_getElem_cons hoc]
  rfl
 ·simp only[if_true,Sem.run_bind,hs,Result.andThen,Sem.run_pure,bH,hσ]
  congr 2
  apply Array.ext'
  simp[seg,Array.toList_extract,List.extract_eq_take_drop]

theorem fieldE_ok(hC:aG P C)(hi:aJ P N w0 F0 H env a w F S){T:TypeId}{x:Operand}{k:Nat}{o:Oper}(ho:o.op= .field T x k){vx:aP}
  (hx:aU P F w env (fun t=>a.tmps.getD t undef) S (a.eval x) vx)
  {c:Prop} {e:Ent} (h:fieldE C T vx k=some (c,e)) (hc:c):c8 P F w env (fun t=>a.tmps.getD t undef) S d (execOp a.eval o) e:=by
 have hrun:∀(v:Value),(Instr.field T (a.eval x) k).run P w= .ok v w->(execOp a.eval o).run P w= .ok (.value v) w:=by
  intro v hv;simp only[execOp,ho];rw[Sem.run_bind,hv];rfl
 unfold fieldE at h
 split at h
 ·rename_i l hl
  obtain⟨σ,z,μ,pl,S0,cs,pl',cs',hA,hrd,hv⟩:=kD hi hx hl;rw[hA.get]at h;simp only[]at h;split at h
  ·rename_i q hq
   cases hT:decide (look C.tys T=some σ)
   ·rw[hT]at h;cases h
   have hT':=of_decide_eq_true hT
   simp only[hT,cond_true]at h;obtain⟨σ',z'⟩:=q;obtain⟨cs2,S2,f⟩:=hA.focus (fun b hb=>(hi.sb _ b hb).2.2)
   have e5:=f.ok.read.symm.trans hrd
   simp only[Option.some.injEq]at e5;subst e5;obtain⟨o',r1,r2,r3,r3',r4,r5,r6⟩:=qY (w:=w) hC hT' hq f.own.len;obtain⟨μ',m1,m2⟩:=r4 μ;rw[hv]at hrun;have hloc:loc w (aZ k) σ pl'=some (σ',pl'.part o' σ'.size):=by
    cases pl' with
    |val c0=>
     have:c0=cs2:=f.ok
     subst this;exact r3
    |mem b off=>exact r3' w b off
   have hA2:=hA.down hloc hq m1 r5
   obtain⟨g1,g2⟩:=readE_ok (d:=d) hi hA2 (aK.read_part hrd r2) h;exact⟨_,hrun _ r1,g1,g2⟩
  ·cases h
 ·split at h
  ·rename_i τ y he
   split at h
   ·rename_i σ z hq
    cases hT:decide (look C.tys T=some τ)
    ·rw[hT]at h;cases h
    have hT':=of_decide_eq_true hT
    simp only[hT,cond_true,Option.some.injEq,Prod.mk.injEq]at h;obtain⟨rfl,rfl⟩:=h;have hsh:=hx.ent (by rw[he];rfl) 0 (by rw[he];simp[Ent.root]);rw[he]at hsh;simp only[aF,if_true]at hsh;obtain⟨cs,hv,hown⟩:=hsh;obtain⟨o',r1,r2,r3,r3',r4,r5,r6⟩:=qY (w:=w) hC hT' hq hown.len;rw[hv]at hrun;exact⟨_,hrun _ r1,rfl,fun _=> .mk_shr ⟨_,rfl,r6 _ _ _ hown⟩⟩
   ·cases h
  ·rename_i r τ y he
   split at h
   ·rename_i σ z hq
    cases hT:decide (look C.tys T=some τ)
    ·rw[hT]at h;cases h
    have hT':=of_decide_eq_true hT
    simp only[hT,cond_true,Option.some.injEq,Prod.mk.injEq]at h;obtain⟨rfl,rfl⟩:=h;have hsh:=hx.ent (by rw[he];rfl) (r+1) (by rw[he];simp[Ent.root]);rw[he]at hsh;simp only[aF,if_true]at hsh;obtain⟨how,cs,hv,hown⟩:=hsh;obtain⟨o',r1,r2,r3,r3',r4,r5,r6⟩:=qY (w:=w) hC hT' hq hown.len;rw[hv]at hrun;refine⟨_,hrun _ r1,by cases σ.flat<;>rfl,?_⟩
    cases hf:σ.flat
    ·exact fun _=> .mk_rd how ⟨_,rfl,r6 _ _ _ hown⟩
    ·exact fun _=> .mk_shr ⟨_,rfl,Own.flat hf (r6 _ _ _ hown)⟩
   ·cases h
  ·cases h

end
end Go.Lf
namespace Go.Lf

def convE(C:Ctx)(src dst:TypeId)(v:aP):Res:=
 match look C.tys src,look C.tys dst,v.val with
 |some (.int _),some (.int k),some ⟨.int k',n⟩=>
  bif decide (k.min<=k'.min)&&decide (k'.max<=k.max)then some (True,.shr (.int k) n)else some (True,.shr (.int k) (k.wrap n))
 |some .str,some .str,some ⟨.str,s⟩=>some (True,.shr .str s)
 |_,_,_=>none

def unE(C:Ctx)(d:Nat)(op:UnOp)(v:aP):Res:=
 match op,v.val with
 | .not,some ⟨.bool,b⟩=>iG (!b)
 | .neg,some ⟨.int k,n⟩=>pO C d k (0-n)
 | .xor,some ⟨.int k,n⟩=>some (True,.shr (.int k) (k.wrap (BitVec.ofInt k.bits (bif k.signed then-1 else k.max)^^^BitVec.ofInt k.bits n).toNat))
 |_,_=>none

def kH(v:aP):Res:=
 match v.e,v.s with
 | .own _ _ _,some t=>some (True,.sub t [])
 | .box _ _ _,some t=>some (True,.addr t [])
 | .own _ _ _,none=>none
 | .box _ _ _,none=>none
 | .tup _ _ _,_=>none
 | .dead,_=>none
 |e,_=>some (True,e)

def idxE(C:Ctx)(T:TypeId)(vx vi:aP):Res:=
 match vi.val,vx.val with
 |some ⟨.int _,i⟩,some ⟨.str,s⟩=>bif decide (look C.tys T=some .str)then some (inN i (List.length s),.shr (.int .u8) ((List.getD s (Int.toNat i) 0).toNat:Int))else none
 |some ⟨.int _,i⟩,some ⟨.arr n e,xs⟩=>match vx.e with
  | .shr _ _=>bif decide (look C.tys T=some (.arr n e))then some (inN i n,.shr e (List.getD xs (Int.toNat i) e.dflt))else none
  |_=>bif decide (look C.tys T=some (.arr n e))&&e.flat then some (inN i n,.shr e (List.getD xs (Int.toNat i) e.dflt))else none
 |_,_=>none

def s9(mx:Bool)(vx vy:aP):Res:=
 match vx.val,vy.val with
 |some ⟨.int k,x⟩,some ⟨.int k',y⟩=>bif decide (k=k')then some (True,.shr (.int k) (bif mx then max x y else min x y))else none
 |_,_=>none

section
variable {P:Program} {C:Ctx} {N:NP} {w0:World} {F0 H:aA} {env:St} {a:Act} {w:World} {F:aA} {S:Nat->aA} {d:Nat}

theorem jC(n cap:Nat)(lo hi mx:Option Value)(l h m:Int)(hl:lo=none/\l=0∨∃k,lo=some (.int k l))(hh:hi=none/\mx=none/\h=n∨∃k,hi=some (.int k h))
  (hm:mx=none/\m=cap∨∃k,mx=some (.int k m)) (h0:0<=l) (h1:l<=h) (h2:h<=m) (h3:m<=cap):
  (Instr.sliceBounds true n cap lo hi mx).run P w= .ok (l.toNat,h.toNat,m.toNat) w:=by
 have e1:((h.toNat:Nat):Int)=h:=Int.toNat_of_nonneg (by omega)
 have e2:((m.toNat:Nat):Int)=m:=Int.toNat_of_nonneg (by omega)
 have e3:0<=h:=by omega
 have e4:0<=m:=by omega
 rcases hl with⟨rfl,rfl⟩|⟨k,rfl⟩<;>rcases hm with⟨rfl,rfl⟩|⟨k2,rfl⟩<;>rcases hh with⟨rfl,hq,rfl⟩|⟨k3,rfl⟩
 all_goals first|(cases hq;done)|skip
 all_goals simp[Instr.sliceBounds,run_sliceBound, *]

theorem aT.window{G:aA}{e:Ty}{v:Value}{xs:List e.den}(h:aT G w (.slice e) .shr none' v xs)(hC:aG P C){T:TypeId}(hT:look C.tys T=some (.slice e))
  {lo hi mx:Option Value} {l hh m:Int} (hl:lo=none/\l=0∨∃k,lo=some (.int k l)) (hhi:hi=none/\mx=none/\hh=xs.length∨∃k,hi=some (.int k hh))
  (hm:mx=none∨(∃k,mx=some (.int k m))/\m=hh) (hw:vW l hh xs.length):
  ∃ao cap',(Instr.sliceAt T v lo hi mx).run P w= .ok (.slice ao (win l hh xs).length cap') w/\aT G w (.slice e) .shr none' (.slice ao (win l hh xs).length cap') (win l hh xs)/\
   (mx.isSome=true->cap'=(win l hh xs).length):=by
 obtain⟨cs,rfl,ao,cap,rfl,h1,h2,h3⟩:=h
 obtain⟨w1,w2,w3⟩:=hw
 obtain⟨E,t1,t2,t3⟩:=(hC.types T _ hT).slice
 have hs:=(hC.types E _ t2).run_size w
 have hwl:(win l hh xs).length=hh.toNat-l.toNat:=by simp[win];omega
 have hm':∃m':Int,(mx=none/\m'=cap∨∃k,mx=some (.int k m'))/\hh<=m'/\m'<=cap/\(mx.isSome=true->m'=hh):=by
  rcases hm with rfl|⟨⟨k,rfl⟩,rfl⟩
  ·exact⟨cap,.inl ⟨rfl,rfl⟩,by omega,by omega,fun h=>by cases h⟩
  ·exact⟨m,.inr ⟨k,rfl⟩,by omega,by omega,fun _=>rfl⟩
 obtain⟨m',hm1,hm2,hm3,hm4⟩:=hm'
 have hb:=jC (P:=P) (w:=w) xs.length cap lo hi mx l hh m' hl hhi hm1 w1 w2 hm2 hm3
 refine⟨if m'.toNat=l.toNat then ao else ao.map (·.add (l.toNat*e.size)),m'.toNat-l.toNat,?_,?_,?_⟩
 ·show(Instr.sliceAt T (.slice ao xs.length cap) lo hi mx).run P w=_
  simp[Instr.sliceAt,Instr.slice,run_underlying t1,hb,hs,hwl]
 ·have q1:(win l hh xs).length<=m'.toNat-l.toNat:=by omega
  have q2:(win l hh xs).length<=lim:=by omega
  refine⟨_,rfl,_,_,rfl,q1,q2,?_⟩
  by_cases hnil:win l hh xs=[]
  ·exact .inl hnil
  ·right
   have hpos:0<(win l hh xs).length:=List.length_pos_iff.2 hnil
   rcases h3 with h3|⟨b,off,row,T0,fr,rfl,q1,q2,q3,q4⟩
   ·exfalso;subst h3;simp only[List.length_nil]at w3;omega
   ·refine⟨b,off+l.toNat*e.size,row,T0,fr,?_,q1,q2,?_,?_⟩
    ·rw[if_neg (by omega)];simp[kT]
    ·have:(l.toNat+(win l hh xs).length)*e.size<=xs.length*e.size:=Nat.mul_le_mul_right _ (by omega)
     rw[Nat.add_mul]at this;omega
    ·intro i x hx
     have:xs[l.toNat+i]? =some x:=by
      simp only[win,List.getElem?_drop,List.getElem?_take]at hx;split at hx
      ·exact hx
      ·cases hx
     have:=q4 _ _ this
     rw[Nat.add_mul]at this;rw[Nat.add_assoc];exact this
 ·intro h;have:=hm4 h;omega

theorem sM{l0:Option Int}{o:Option aP}{r:Option Int}(h:pJ l0 o=some r):(o=none/\r=l0)∨∃v k i,o=some v/\v.val=some ⟨.int k,i⟩/\r=some i:=by
 unfold pJ at h
 split at h
 ·injection h with h;exact .inl ⟨rfl,h.symm⟩
 ·rename_i v
  split at h
  ·rename_i k i hv
   injection h with h;exact .inr ⟨v,k,i,rfl,hv,h.symm⟩
  ·cases h

theorem sub?_val{vw:aP}{l:Al}(h:vw.sub? =some l){q:Σ τ:Ty,τ.den}(hv:vw.val=some q):aN l.p l.τ l.x=some q:=by
 obtain⟨e,r,s⟩:=vw
 cases e<;>simp only[aP.sub?,reduceCtorEq]at h
 ·rename_i τ m x
  cases s with
  |none=>cases h
  |some t=>
   injection h with h;subst h;exact hv
 ·rename_i q' p
  simp only[aP.val]at hv;obtain⟨e1,e2,b,e3⟩:=rM h;obtain⟨lr,lp,lτ,lm,lx⟩:=l;simp only at e2 e3;subst e2;cases r<;>simp only[reduceCtorEq]at hv
  all_goals
   simp only[ownerOf,Option.some.injEq,Prod.mk.injEq,Sigma.mk.injEq]at e3;obtain⟨_,e4,e5⟩:=e3;subst e4;have e5:=eq_of_heq e5;simp only[Prod.mk.injEq]at e5;obtain⟨rfl,rfl⟩:=e5;exact hv

theorem sliceE_ok(hC:aG P C)(hi:aJ P N w0 F0 H env a w F S){T:TypeId}{x:Operand}{lo hig mx:Option Operand}{o:Oper}(ho:o.op= .slice T x lo hig mx){f:Operand->aP}
  (hf:∀z∈o.op.operands,aU P F w env (fun t=>a.tmps.getD t undef) S (a.eval z) (f z))
  {c:Prop} {e:Ent} (h:sliceE C T (f x) (lo.map f) (hig.map f) (mx.map f)=some (c,e)) (hc:c):c8 P F w env (fun t=>a.tmps.getD t undef) S d (execOp a.eval o) e:=by
 have hrun:∀(v:Value),(Instr.sliceAt T (a.eval x) (lo.map a.eval) (hig.map a.eval) (mx.map a.eval)).run P w= .ok v w->(execOp a.eval o).run P w= .ok (.value v) w:=by
  intro v hv;simp only[execOp,ho];rw[Sem.run_bind,hv];rfl
 have hx:aU P F w env (fun t=>a.tmps.getD t undef) S (a.eval x) (f x):=hf x (by rw[ho];simp[Op.operands])
 have hbv:∀ {l0:Option Int} {q:Option Operand} {r:Option Int},(∀z∈q,z∈o.op.operands)->pJ l0 (q.map f)=some r->(q=none/\r=l0)∨∃k i,q.map a.eval=some (.int k i)/\r=some i:=by
  intro l0 q r hq h;rcases sM h with⟨h1,h2⟩|⟨v,k,i,h1,h2,h3⟩
  ·left;cases q with
   |none=>exact⟨rfl,h2⟩
   |some z=>cases h1
  ·right
   cases q with
   |none=>cases h1
   |some z=>
    simp only[Option.map_some,Option.some.injEq]at h1;subst h1;obtain⟨e1,_⟩:=(aP.val_ok hi (hf z (hq z rfl)) h2).int_eq;exact⟨k,i,by simp[e1],h3⟩
 unfold sliceE at h
 split at h
 rotate_left
 ·cases h
 rename_i l hh m h1 h2 h3
 have b1:=hbv (q:=lo) (by intro z hz;cases hz;rw[ho];simp[Op.operands]) h1
 have b2:=hbv (q:=hig) (by intro z hz;cases hz;rw[ho];simp[Op.operands]) h2
 have b3:=hbv (q:=mx) (by intro z hz;cases hz;rw[ho];simp[Op.operands]) h3
 have c1:(lo.map a.eval)=none/\l=0∨∃k,lo.map a.eval=some (.int k l):=by
  rcases b1 with⟨g1,g2⟩|⟨k,i,g1,g2⟩
  ·left;subst g1;injection g2 with g2;exact⟨rfl,g2⟩
  ·right;injection g2 with g2;subst g2;exact⟨k,g1⟩
 have c2:∀n:Nat,(hig.map a.eval)=none/\hh.getD (n:Int)=n∨∃k,hig.map a.eval=some (.int k (hh.getD (n:Int))):=by
  intro n;rcases b2 with⟨g1,g2⟩|⟨k,i,g1,g2⟩
  ·left;subst g1;subst g2;exact⟨rfl,rfl⟩
  ·right;subst g2;exact⟨k,g1⟩
 have plain:∀ {G:aA} {e':Ty} {xs:List e'.den},aT G w (.slice e') .shr none' (a.eval x) xs->look C.tys T=some (.slice e')->m=none->vW l (hh.getD (xs.length:Int)) xs.length->
   ∃v,(execOp a.eval o).run P w= .ok (.value v) w/\aT G w (.slice e') .shr none' v (win l (hh.getD (xs.length:Int)) xs):=by
  intro G e' xs hO hT hm hw;subst hm;have hmx:mx=none:=by
   rcases b3 with⟨g1,g2⟩|⟨k,i,g1,g2⟩
   ·exact g1
   ·cases g2
  subst hmx;obtain⟨ao,cap',r1,r2,_⟩:=hO.window (m:=0) hC hT c1 ((c2 xs.length).imp (fun g=>⟨g.1,rfl,g.2⟩) id) (.inl rfl) hw
  exact⟨_,hrun _ r1,r2⟩
 split at h
 ·rename_i q e' xs he
  cases hT:decide (look C.tys T=some (.slice e'))
  ·rw[hT]at h;cases h
  have hT':=of_decide_eq_true hT
  simp only[hT,cond_true]at h;have hsh:=hx.ent (by rw[he];rfl) 0 (by rw[he];simp[Ent.root]);rw[he]at hsh;simp only[aF,if_true]at hsh;split at h
  ·simp only[Option.some.injEq,Prod.mk.injEq]at h
   obtain⟨rfl,rfl⟩:=h;obtain⟨v,r1,r2⟩:=plain hsh hT' rfl hc;exact⟨v,r1,rfl,fun _=> .mk_shr r2⟩
  ·rename_i m'
   split at h
   ·rename_i h'
    simp only[Option.some.injEq,Prod.mk.injEq]at h;obtain⟨rfl,rfl⟩:=h;have b3':∃k,mx.map a.eval=some (.int k m'):=by
     rcases b3 with⟨g1,g2⟩|⟨k,i,g1,g2⟩
     ·cases g2
     ·injection g2 with g2;subst g2;exact⟨k,g1⟩
    have b2':∃k,hig.map a.eval=some (.int k h'):=by
     rcases b2 with⟨g1,g2⟩|⟨k,i,g1,g2⟩
     ·cases g2
     ·injection g2 with g2;subst g2;exact⟨k,g1⟩
    obtain⟨ao,cap',r1,r2,r3⟩:=hsh.window (m:=m') hC hT' c1 (.inr b2') (.inr ⟨b3',hc.2⟩) hc.1;refine⟨_,hrun _ r1,rfl,fun _=> ?_⟩
    have hcap:=r3 (by obtain⟨k,hk⟩:=b3';rw[hk];rfl)
    subst hcap;simp only[aF,if_true];exact⟨ao,rfl,r2⟩
   ·cases h
 ·rename_i e' xs hv hne
  have hO:=aP.val_ok hi hx hv
  split at h
  ·rename_i al hal
   cases hT:decide (look C.tys T=some (.slice e'))
   ·rw[hT]at h;cases h
   have hT':=of_decide_eq_true hT
   simp only[hT,cond_true,Option.some.injEq,Prod.mk.injEq]at h;obtain⟨rfl,rfl⟩:=h;obtain⟨σ,z,μ,pl,S0,cs,pl',cs',hA,hrd,hva⟩:=kD hi hx hal;obtain⟨cs2,S2,fo⟩:=hA.focus (fun b hb=>(hi.sb _ b hb).2.2)
   have e5:=fo.ok.read.symm.trans hrd
   simp only[Option.some.injEq]at e5;subst e5;have hg:=sub?_val hal hv;have e3:=hA.get.symm.trans hg;simp only[Option.some.injEq,Sigma.mk.injEq]at e3;obtain⟨rfl,e3⟩:=e3;cases e3;have hO2:aT (fun b=>F b∨S al.r b) w (.slice e') .shr none' (a.eval x) xs:=aT.freeze ⟨cs2,hva,fo.own⟩ (fun b hb=>hb.imp id fun hb=>hA.root.sub b (fo.sub b hb))
   obtain⟨v,r1,r2⟩:=plain hO2 hT' rfl hc;exact⟨v,r1,rfl,fun _=> .mk_rd hA.root.isOwner r2⟩
  ·rename_i r τ' x' hsn he
   cases hT:decide (look C.tys T=some (.slice e'))
   ·rw[hT]at h;cases h
   have hT':=of_decide_eq_true hT
   simp only[hT,cond_true,Option.some.injEq,Prod.mk.injEq]at h;obtain⟨rfl,rfl⟩:=h;have hsh:=hx.ent (by rw[he];rfl) (r+1) (by rw[he];simp[Ent.root]);rw[he]at hsh;simp only[aF,if_true]at hsh;simp only[aP.val,he,Option.some.injEq,Sigma.mk.injEq]at hv;obtain⟨rfl,hv⟩:=hv;cases hv;obtain⟨v,r1,r2⟩:=plain hsh.2 hT' rfl hc;exact⟨v,r1,rfl,fun _=> .mk_rd hsh.1 r2⟩
  ·rename_i r p e0 me x' hsn he
   cases hT:decide (look C.tys T=some (.slice e'))
   ·rw[hT]at h;cases h
   have hT':=of_decide_eq_true hT
   simp only[hT,cond_true,Option.some.injEq,Prod.mk.injEq]at h;obtain⟨rfl,rfl⟩:=h;have hsh:=hx.ent (by rw[he];rfl) (r+1) (by rw[he];simp[Ent.root]);rw[he]at hsh;have how:=hsh.root_owner rfl;simp only[aF,if_true]at hsh;obtain⟨τ0,m0,x0,pl,S0,cs,y,pl',S',Sp,cp,g1,g2,g3,g4,g5,g6,g7,g8,g9⟩:=hsh;simp only[aP.val,he,Option.some.injEq,Sigma.mk.injEq,Ty.slice.injEq]at hv;obtain⟨rfl,hv⟩:=hv;cases hv;have hsh:aT (fun b=>F b∨S r b) w (.slice e0) .shr none' (a.eval x) x':=aT.freeze ⟨cp,g6,g7⟩ (fun b hb=>hb.imp id (g8 b))
   obtain⟨v,r1,r2⟩:=plain hsh hT' rfl hc;exact⟨v,r1,rfl,fun _=> .mk_rd how r2⟩
  ·cases h
 ·rename_i s hv hne
  split at h
  ·cases hT:decide (look C.tys T=some .str)
   ·rw[hT]at h;cases h
   have hT':=of_decide_eq_true hT
   simp only[hT,cond_true,Option.some.injEq,Prod.mk.injEq]at h;obtain⟨rfl,rfl⟩:=h;have hO:=aP.val_ok hi hx hv;obtain⟨e6,hlen⟩:=hO.str_eq;obtain⟨i,dd,t1,t2,t3,t4,t5,t6⟩:=hC.types T _ hT';have hu:P.underlying T=some .string:=by cases dd<;>first|exact t2|simp[iF]at t6
   have hmx:mx=none:=by
    rcases b3 with⟨g1,g2⟩|⟨k,i,g1,g2⟩
    ·exact g1
    ·cases g2
   subst hmx;obtain⟨w1,w2,w3⟩:=hc;have hsz:(⟨s.toArray⟩:ByteArray).size=s.length:=by simp[ByteArray.size]
   have hb:=jC (P:=P) (w:=w) s.length s.length (lo.map a.eval) (hig.map a.eval) none l (hh.getD (s.length:Int)) s.length c1 ((c2 s.length).imp (fun g=>⟨g.1,rfl,g.2⟩) id) (.inl ⟨rfl,rfl⟩) w1 w2 w3 (by omega)
   have hb2:(Instr.sliceBounds false s.length s.length (lo.map a.eval) (hig.map a.eval) none).run P w= .ok (l.toNat,(hh.getD (s.length:Int)).toNat,s.length) w:=by
    have e1:(((hh.getD (s.length:Int)).toNat:Nat):Int)=hh.getD (s.length:Int):=Int.toNat_of_nonneg (by omega)
    have hle:(l.toNat:Nat)<=(hh.getD (s.length:Int)).toNat:=by omega
    rcases c1 with⟨g1,rfl⟩|⟨k,g1⟩<;>rcases c2 s.length with⟨g2,g3⟩|⟨k2,g2⟩<;>rw[g1,g2]
    ·rw[g3];simp[Instr.sliceBounds]
    ·simp[Instr.sliceBounds,run_sliceBound,e1,w3,(by omega:0<=hh.getD (s.length:Int))]
    ·rw[g3]at w2⊢;simp[Instr.sliceBounds,run_sliceBound,w1,w2]
    ·simp[Instr.sliceBounds,run_sliceBound,e1,w1,w2,w3,(by omega:0<=hh.getD (s.length:Int))]
   rw[e6]at hrun;have hex:(⟨s.toArray⟩:ByteArray).extract l.toNat (hh.getD (s.length:Int)).toNat=⟨(win l (hh.getD (s.length:Int)) s).toArray⟩:=by
    apply ByteArray.ext
    simp only[ByteArray.data_extract]
    apply Array.ext'
    simp[win,Array.toList_extract,List.extract_eq_take_drop,List.drop_take]
   refine .str (hrun _ ?_) (by simp[win];omega)
   simp[Instr.sliceAt,Instr.slice,run_underlying hu,hsz,hb2,hex]
  ·cases h
 ·cases h

end
end Go.Lf
namespace Go.Lf

def lenTE(C:Ctx)(T:TypeId)(v:aP):Res:=
 match v.e,v.val,look C.tys T with
 | .nilS,_,some (.slice _)=>some (True,.shr (.int .i64) (0:Int))
 |_,some ⟨.slice _,xs⟩,some (.slice _)=>some (True,.shr (.int .i64) (List.length xs:Int))
 |_,some ⟨.str,s⟩,some .str=>some (True,.shr (.int .i64) (List.length s:Int))
 |_,_,_=>none

def pickE(vc va vb:aP):Res:=
 match vc.val,va.val,vb.val with
 |some ⟨.bool,x⟩,some ⟨τ,y⟩,some ⟨σ,z⟩=>if h:σ=τ then(bif τ.flat then some (True,.shr τ (bif x then y else h▸z))else none)else none
 |_,_,_=>none

def nilE(v:aP):Res:=
 match v.e with
 | .saddr _ _=>kH v
 | .raddr _ _ _=>kH v
 | .addr _ _=>kH v
 | .box _ _ _=>kH v
 | .fn _ _ _=>kH v
 |_=>none

section
variable {P:Program} {C:Ctx} {N:NP} {w0:World} {F0 H:aA} {env:St} {a:Act} {w:World} {F:aA} {S:Nat->aA} {d:Nat}

theorem bB.str{tys:List (TypeId×Ty)}{T:TypeId}(h:bB P tys T .str):P.underlying T=some .string:=by
 obtain⟨i,d,h1,h2,h3,h4,h5,h6⟩:=h
 cases d<;>first|exact h2|simp[iF]at h6
theorem bB.int{tys:List (TypeId×Ty)}{T:TypeId}{k:IntKind}(h:bB P tys T (.int k)):P.underlying T=some (.int k):=by
 obtain⟨i,d,h1,h2,h3,h4,h5,h6⟩:=h
 cases d<;>simp only[iF,Bool.false_eq_true,decide_eq_true_eq]at h6
 subst h6;exact h2

theorem headD_seg(cs:List Value)(o:Nat)(h:o<cs.length):(seg cs o 1).headD undef=cs[o]:=by
 unfold seg;rw[List.drop_eq_getElem_cons h];rfl
theorem inN_lt{i:Int}{n:Nat}(h:inN i n):i.toNat<n:=by have:=h.1;have:=h.2;omega
theorem inK_len{n:Nat}(h:n<=lim):inK .i64 (n:Int):=by rw[inK_i64];unfold lim at h;omega

theorem lenTE_ok(hC:aG P C)(hi:aJ P N w0 F0 H env a w F S){T:TypeId}{x:Operand}{o:Oper}(ho:o.op= .call {callee:= .builtin .len,args:= #[x],argTypes:= #[T]}){vx:aP}
  (hx:aU P F w env (fun t=>a.tmps.getD t undef) S (a.eval x) vx)
  {c:Prop} {e:Ent} (h:lenTE C T vx=some (c,e)) (hc:c):c8 P F w env (fun t=>a.tmps.getD t undef) S d (execOp a.eval o) e:=by
 have hrun:∀(v:Value),(Builtin.len_ #[T] o.type #[a.eval x]).run P w= .ok v w->(execOp a.eval o).run P w= .ok (.value v) w:=by
  intro v hv;simp only[execOp,ho,resolve,invoke,builtin,Sem.run_bind,Sem.run_pure,Result.andThen,List.map_toArray,List.map_cons,List.map_nil];rw[hv]
 unfold lenTE at h
 split at h
 ·rename_i _ _ he hT
  simp only[Option.some.injEq,Prod.mk.injEq]at h;obtain⟨rfl,rfl⟩:=h;obtain⟨E,t1,t2,t3⟩:=(hC.types T _ hT).slice;have hsh:=hx.ent (by rw[he];rfl) 0 (by rw[he];simp[Ent.root]);rw[he]at hsh;simp only[aF,if_true]at hsh;rw[hsh]at hrun;exact .int (hrun _ (by simp[Builtin.len_,run_underlying t1,goInt])) (by rw[inK_i64];omega)
 ·rename_i e' xs e'' hval hT hne
  simp only[Option.some.injEq,Prod.mk.injEq]at h;obtain⟨rfl,rfl⟩:=h;obtain⟨E,t1,t2,t3⟩:=(hC.types T _ hT).slice;obtain⟨ao,cap,e6,q1,q2⟩:=(aP.val_ok hi hx hval).slice_eq;rw[e6]at hrun;exact .int (hrun _ (by simp[Builtin.len_,run_underlying t1,goInt])) (inK_len q2)
 ·rename_i s hval hT
  simp only[Option.some.injEq,Prod.mk.injEq]at h;obtain⟨rfl,rfl⟩:=h;have t1:=(hC.types T _ hT).str;obtain⟨e6,q2⟩:=(aP.val_ok hi hx hval).str_eq;rw[e6]at hrun;have hsz:(⟨s.toArray⟩:ByteArray).size=s.length:=by simp[ByteArray.size]
  exact .int (hrun _ (by simp[Builtin.len_,run_underlying t1,goInt,hsz])) (inK_len q2)
 ·cases h

theorem convE_ok(hC:aG P C)(hi:aJ P N w0 F0 H env a w F S){src dst:TypeId}{x:Operand}{o:Oper}(ho:o.op= .convert src dst x){vx:aP}
  (hx:aU P F w env (fun t=>a.tmps.getD t undef) S (a.eval x) vx)
  {c:Prop} {e:Ent} (h:convE C src dst vx=some (c,e)) (hc:c):c8 P F w env (fun t=>a.tmps.getD t undef) S d (execOp a.eval o) e:=by
 have hrun:∀(v:Value),(convert src dst (a.eval x)).run P w= .ok v w->(execOp a.eval o).run P w= .ok (.value v) w:=by
  intro v hv;simp only[execOp,ho];rw[Sem.run_bind,hv];rfl
 unfold convE at h
 split at h
 ·rename_i k1 k k' n hT1 hT2 hval
  have t1:=(hC.types _ _ hT1).int
  have t2:=(hC.types _ _ hT2).int
  obtain⟨e6,q1,q2⟩:=(aP.val_ok hi hx hval).int_eq;rw[e6]at hrun;have hr:=hrun (.int k (k.wrap n)) (by simp[convert,run_underlying t1,run_underlying t2,Conv.intToInt]);cases hk:(decide (k.min<=k'.min)&&decide (k'.max<=k.max))
  ·simp only[hk,cond_false,Option.some.injEq,Prod.mk.injEq]at h
   obtain⟨rfl,rfl⟩:=h;exact .int hr (iW _ _)
  ·simp only[hk,cond_true,Option.some.injEq,Prod.mk.injEq]at h
   obtain⟨rfl,rfl⟩:=h;simp only[Bool.and_eq_true,decide_eq_true_eq]at hk;have hin:inK k n:=⟨by omega,by omega⟩
   rw[dH hin]at hr;exact .int hr hin
 ·rename_i s hT1 hT2 hval
  simp only[Option.some.injEq,Prod.mk.injEq]at h;obtain⟨rfl,rfl⟩:=h;have t1:=(hC.types _ _ hT1).str;have t2:=(hC.types _ _ hT2).str;obtain⟨e6,q1⟩:=(aP.val_ok hi hx hval).str_eq;rw[e6]at hrun;exact .str (hrun _ (by simp[convert,run_underlying t1,run_underlying t2])) q1
 ·cases h

theorem unE_ok(hi:aJ P N w0 F0 H env a w F S){op:UnOp}{T:TypeId}{x:Operand}{o:Oper}(ho:o.op= .unOp op T x){vx:aP}
  (hx:aU P F w env (fun t=>a.tmps.getD t undef) S (a.eval x) vx)
  {c:Prop} {e:Ent} (h:unE C d op vx=some (c,e)) (hc:c):c8 P F w env (fun t=>a.tmps.getD t undef) S d (execOp a.eval o) e:=by
 have hrun:∀(v:Value),(Op.unary op (a.eval x)).run P w= .ok v w->(execOp a.eval o).run P w= .ok (.value v) w:=by
  intro v hv;simp only[execOp,ho];rw[Sem.run_bind,hv];rfl
 unfold unE at h
 split at h
 ·rename_i b hval
  have e6:=(aP.val_ok hi hx hval).bool_eq
  rw[e6]at hrun;exact dS h (hrun _ (by simp[Op.unary]))
 ·rename_i k n hval
  obtain⟨e6,q1,q2⟩:=(aP.val_ok hi hx hval).int_eq;rw[e6]at hrun;exact lN h hc (hrun _ (by simp[Op.unary,Op.intArith]))
 ·rename_i k n hval
  obtain⟨e6,q1,q2⟩:=(aP.val_ok hi hx hval).int_eq;rw[e6]at hrun;simp only[Option.some.injEq,Prod.mk.injEq]at h;obtain⟨rfl,rfl⟩:=h;exact .int (hrun _ (by cases hk:k.signed<;>simp[Op.unary,Op.intBits,hk])) (iW _ _)
 ·cases h

theorem qA(hi:aJ P N w0 F0 H env a w F S){v:Value}{vx:aP}(hx:aU P F w env (fun t=>a.tmps.getD t undef) S v vx)
  {c:Prop} {e:Ent} (h:kH vx=some (c,e)):e.isOwner=false/\(e.root≠some d->aF P F w env (fun s=>if s=d then v else a.tmps.getD s undef) S d e):=by
 obtain⟨e0,r,s⟩:=vx
 cases e0
 case own τ m x=>
  cases s with
  |none=>cases h
  |some t=>
   simp only[kH,Option.some.injEq,Prod.mk.injEq]at h;obtain⟨_,rfl⟩:=h;refine⟨rfl,fun hne=> ?_⟩
   obtain⟨t',h1,h2,rfl⟩:=hx.own rfl;injection h1 with h1;subst h1;have h3:=hi.ent t;rw[h2]at h3;obtain⟨pl,S0,cs,h3⟩:=h3;obtain⟨_,_,h4,h5,h6⟩:=h3.own_inj;have htd:t≠d:=fun h=>hne (by simp[Ent.root,h])
   refine⟨τ,m,x,pl,S0,cs,τ,m,pl,cs,?_,rfl,h3.2.1.read,?_,rfl,rfl,trivial⟩
   ·simp only[htd,if_false];rw[h2];exact h3
   ·simpa using h6
 case box τ m x=>
  cases s with
  |none=>cases h
  |some t=>
   simp only[kH,Option.some.injEq,Prod.mk.injEq]at h;obtain⟨_,rfl⟩:=h;refine⟨rfl,fun hne=> ?_⟩
   obtain⟨t',h1,h2,rfl⟩:=hx.own rfl;injection h1 with h1;subst h1;have h3:=hi.ent t;rw[h2]at h3;obtain⟨pl,S0,cs,h3⟩:=h3;obtain⟨_,_,b,h4,h5,h6,h7⟩:=h3.box_inj;have htd:t≠d:=fun h=>hne (by simp[Ent.root,h])
   refine⟨τ,m,x,pl,S0,cs,τ,m,b,0,?_,by rw[h4];rfl,?_,rfl,rfl,trivial⟩
   ·simp only[htd,if_false];rw[h2];exact h3
   ·simpa using h6
 all_goals first
  |(cases s<;>(cases h;done))
  |(cases s<;>
    (simp only[kH,Option.some.injEq,Prod.mk.injEq]at h
     obtain⟨_,rfl⟩:=h;exact⟨rfl,fun hne=>hx.ent rfl d hne⟩))

theorem pickE_ok(hi:aJ P N w0 F0 H env a w F S){x y z:Operand}{o:Oper}(ho:o.op= .pick x y z){vx vy vz:aP}
  (hx:aU P F w env (fun t=>a.tmps.getD t undef) S (a.eval x) vx)
  (hy:∀b,vx.val=some ⟨.bool,b⟩->b=true->aU P F w env (fun t=>a.tmps.getD t undef) S (a.eval y) vy)
  (hz:∀b,vx.val=some ⟨.bool,b⟩->b=false->aU P F w env (fun t=>a.tmps.getD t undef) S (a.eval z) vz)
  {c:Prop} {e:Ent} (h:pickE vx vy vz=some (c,e)) (hc:c):c8 P F w env (fun t=>a.tmps.getD t undef) S d (execOp a.eval o) e:=by
 unfold pickE at h
 split at h
 ·rename_i b τ y' σ z' h1 h2 h3
  split at h
  ·rename_i hστ
   subst hστ;cases hf:σ.flat
   ·rw[hf]at h;cases h
   ·simp only[hf,cond_true,Option.some.injEq,Prod.mk.injEq]at h
    obtain⟨rfl,rfl⟩:=h;have e6:=(aP.val_ok hi hx h1).bool_eq;cases b with
    |true=>
     refine⟨a.eval y,by simp[execOp,ho,asBool,e6],rfl,fun _=> ?_⟩
     exact .mk_shr (aT.flat hf (aP.val_ok hi (hy _ h1 rfl) h2))
    |false=>
     refine⟨a.eval z,by simp[execOp,ho,asBool,e6],rfl,fun _=> ?_⟩
     exact .mk_shr (aT.flat hf (aP.val_ok hi (hz _ h1 rfl) h3))
  ·cases h
 ·cases h

theorem nilE_ok(hi:aJ P N w0 F0 H env a w F S){x:Operand}{o:Oper}(ho:o.op= .nilCheck x){vx:aP}
  (hx:aU P F w env (fun t=>a.tmps.getD t undef) S (a.eval x) vx)
  {c:Prop} {e:Ent} (h:nilE vx=some (c,e)) (hc:c):c8 P F w env (fun t=>a.tmps.getD t undef) S d (execOp a.eval o) e:=by
 have hv:(∃b off,a.eval x= .pointer (some ⟨b,off,none⟩))∨∃f g k,a.eval x= .func (.func f) g k:=by
  unfold nilE at h;split at h
  ·rename_i τ y he
   have hsh:=hx.ent (by rw[he];rfl) 0 (by rw[he];simp[Ent.root])
   rw[he]at hsh;simp only[aF,if_true]at hsh;obtain⟨b,off,_,_,_,hv,_⟩:=hsh;exact .inl ⟨b,off,hv⟩
  ·rename_i r τ y he
   have hsh:=hx.ent (by rw[he];rfl) (r+1) (by rw[he];simp[Ent.root])
   rw[he]at hsh;simp only[aF,if_true]at hsh;obtain⟨_,b,off,_,_,_,hv,_⟩:=hsh;exact .inl ⟨b,off,hv⟩
  ·rename_i r p he
   have hsh:=hx.ent (by rw[he];rfl) (r+1) (by rw[he];simp[Ent.root])
   rw[he]at hsh;simp only[aF,if_true]at hsh;obtain⟨_,_,_,_,_,_,_,_,b,off,_,_,hv,_⟩:=hsh;exact .inl ⟨b,off,hv⟩
  ·rename_i τ m y he
   obtain⟨t',h1,h2,h9⟩:=hx.own (by rw[he];rfl);have h3:=hi.ent t';rw[h2,he]at h3;obtain⟨pl,S0,cs,h3⟩:=h3;obtain⟨_,_,b,h4,h5,h6,h7⟩:=h3.box_inj;exact .inl ⟨b,0,h9.trans h6⟩
  ·rename_i A R g he
   have hsh:=hx.ent (by rw[he];rfl) 0 (by rw[he];simp[Ent.root])
   rw[he]at hsh;simp only[aF,if_true]at hsh;obtain⟨f,first,cap,hv,_⟩:=hsh;exact .inr ⟨f,first,cap,hv⟩
  ·cases h
 have hm:kH vx=some (c,e):=by
  unfold nilE at h;split at h
  all_goals first|exact h|cases h
 obtain⟨g1,g2⟩:=qA (d:=d) hi hx hm
 refine⟨a.eval x,?_,g1,g2⟩
 rcases hv with⟨b,off,hv⟩|⟨f,g,k,hv⟩<;>simp[execOp,ho,hv]

theorem idxE_ok(hC:aG P C)(hi:aJ P N w0 F0 H env a w F S){T:TypeId}{x y:Operand}{o:Oper}(ho:o.op= .index T x y){vx vy:aP}
  (hx:aU P F w env (fun t=>a.tmps.getD t undef) S (a.eval x) vx) (hy:aU P F w env (fun t=>a.tmps.getD t undef) S (a.eval y) vy)
  {c:Prop} {e:Ent} (h:idxE C T vx vy=some (c,e)) (hc:c):c8 P F w env (fun t=>a.tmps.getD t undef) S d (execOp a.eval o) e:=by
 have hrun:∀(v:Value),(Instr.index T (a.eval x) (a.eval y)).run P w= .ok v w->(execOp a.eval o).run P w= .ok (.value v) w:=by
  intro v hv;simp only[execOp,ho];rw[Sem.run_bind,hv];rfl
 have harr:∀ {G:aA} {n:Nat} {e':Ty} {xs:List e'.den} {k:IntKind} {i:Int},aT G w (.arr n e') .shr none' (a.eval x) xs->look C.tys T=some (.arr n e')->a.eval y= .int k i->inN i n->
   ∃v,(execOp a.eval o).run P w= .ok (.value v) w/\aT G w e' .shr none' v (List.getD xs (Int.toNat i) e'.dflt):=by
  intro G n e' xs k i hO hT hyv hin;obtain⟨cs,hv,hn,hlen,Si,s,dd,he⟩:=hO;obtain⟨E,t1,t2,t3⟩:=(hC.types T _ hT).arr;have hs:=(hC.types E _ t2).run_size w;have ha:=(hC.types E _ t2).run_isAgg w;have hin2:0<=i/\i<(n:Int):=hin;have hel:=Own.list_get he (i:=i.toNat) (by omega);have hle:(i.toNat+1)*e'.size<=n*e'.size:=Nat.mul_le_mul_right _ (by omega);rw[Nat.add_mul,Nat.one_mul]at hle;refine⟨bH e' (seg cs (i.toNat*e'.size) e'.size),hrun _ ?_,_,rfl,Own.shr hel⟩;have e1:a.eval x= .agg cs.toArray:=by rw[hv];simp[bH,Ty.isAgg]
  rw[e1,hyv];simp only[Instr.index,Sem.run_bind,run_underlying t1,Result.andThen,asIntOf,Sem.run_pure,hin2,and_self,if_true,hs,Go.part,ha];cases hσ:e'.isAgg
  ·have hs1:e'.size=1:=by cases e'<;>first|rfl|cases hσ
   have hoc:i.toNat*e'.size<cs.length:=by omega
   simp only[Bool.false_eq_true,if_false];generalize i.toNat*e'.size=q at hoc;have:cs.toArray[q]? =some cs[q]:=by simp[hoc]
   rw[this];simp only[Sem.run_pure,bH,hσ,Bool.false_eq_true,if_false,hs1,headD_seg cs q hoc]
  ·simp only[if_true,Sem.run_bind,hs,Result.andThen,Sem.run_pure,bH,hσ]
   congr 2
   apply Array.ext'
   simp[seg,Array.toList_extract,List.extract_eq_take_drop]
 unfold idxE at h
 split at h
 ·rename_i k i s h1 h2
  cases hT:decide (look C.tys T=some .str)
  ·rw[hT]at h;cases h
  have hT':=of_decide_eq_true hT
  simp only[hT,cond_true,Option.some.injEq,Prod.mk.injEq]at h;obtain⟨rfl,rfl⟩:=h;obtain⟨e2,_⟩:=(aP.val_ok hi hy h1).int_eq;obtain⟨e1,hl⟩:=(aP.val_ok hi hx h2).str_eq;rw[e1,e2]at hrun;have t1:=(hC.types T _ hT').str;have hin2:=hc;have hlt0:=inN_lt hc;have hg:(⟨s.toArray⟩:ByteArray)[i.toNat]? =some (s.getD i.toNat 0):=by
   have hlt:i.toNat<s.length:=hlt0
   have hsz:(⟨s.toArray⟩:ByteArray).size=s.length:=by simp[ByteArray.size]
   rw[getElem?_pos (⟨s.toArray⟩:ByteArray) i.toNat (by rw[hsz];exact hlt)];simp only[List.getD_eq_getElem?_getD,List.getElem?_eq_getElem hlt,Option.getD_some]
   rfl
  refine .int (hrun _ ?_) ?_
  ·have h0:=hin2.1
   simp[Instr.index,run_underlying t1,asIntOf,h0,hg]
  ·have:=(s.getD i.toNat 0).toNat_lt
   have e3:IntKind.u8.min=0:=by decide
   have e4:IntKind.u8.max=255:=by decide
   unfold inK;rw[e3,e4];constructor
   ·exact Int.natCast_nonneg _
   ·have:((s.getD i.toNat 0).toNat:Int)<=255:=by omega
    exact this
 ·rename_i k i n e' xs h1 h2
  obtain⟨e2,_⟩:=(aP.val_ok hi hy h1).int_eq;split at h
  ·rename_i τ' x' he
   cases hT:decide (look C.tys T=some (.arr n e'))
   ·rw[hT]at h;cases h
   have hT':=of_decide_eq_true hT
   simp only[hT,cond_true,Option.some.injEq,Prod.mk.injEq]at h;obtain⟨rfl,rfl⟩:=h;have hsh:=hx.ent (by rw[he];rfl) 0 (by rw[he];simp[Ent.root]);rw[he]at hsh;simp only[aF,if_true]at hsh;simp only[aP.val,he,Option.some.injEq,Sigma.mk.injEq]at h2;obtain⟨rfl,h2⟩:=h2;cases h2;obtain⟨v,r1,r2⟩:=harr hsh hT' e2 hc;exact⟨v,r1,rfl,fun _=> .mk_shr r2⟩
  ·cases hT:(decide (look C.tys T=some (.arr n e'))&&e'.flat)
   ·rw[hT]at h;cases h
   simp only[hT,cond_true,Option.some.injEq,Prod.mk.injEq]at h;obtain⟨rfl,rfl⟩:=h;simp only[Bool.and_eq_true,decide_eq_true_eq]at hT;obtain⟨v,r1,r2⟩:=harr (aP.val_ok hi hx h2) hT.1 e2 hc;exact⟨v,r1,rfl,fun _=> .mk_shr (aT.flat hT.2 r2)⟩
 ·cases h

end
end Go.Lf
