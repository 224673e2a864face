/- What an operand is, by value. -/
import Derived.WalkKit
import Derived.Orders
import Derived.Below
import Derived.KernelRfl
set_option linter.unusedVariables false
set_option linter.unusedSimpArgs false
namespace Go.Lf

inductive Abs where
 |ptr
 |thk
 |clo
 |kno
 |hole
 |map
 |cap
 deriving DecidableEq

inductive KI where
 |self
 |own (q:Nat)
 |fn (g:FuncId)
 deriving DecidableEq

@[reducible] def Abs.den:Abs->Type
 | .ptr=>Option Nat
 | .thk=>Option (Nat×FuncId×List Int)
 | .clo=>Option (FuncId×List Int)
 | .kno=>Option (FuncId×List KI)
 | .hole=>Unit
 | .map=>Int->Option Int
 | .cap=>Option (FuncId×List Nat)

def Abs.dflt:(k:Abs)->k.den
 | .ptr=>none
 | .thk=>none
 | .clo=>none
 | .kno=>none
 | .hole=>()
 | .map=>fun _=>none
 | .cap=>none

def Abs.flat:Abs->Bool
 | .ptr=>true
 | .thk=>false
 | .clo=>false
 | .kno=>false
 | .hole=>true
 | .map=>false
 | .cap=>true

inductive Ty where
 |int (k:IntKind)
 |bool
 |str
 |unit
 |prod (a b:Ty)
 |slice (e:Ty)
 |arr (n:Nat) (e:Ty)
 |abs (k:Abs)
 deriving DecidableEq

@[reducible] def Ty.den:Ty->Type
 | .int _=>Int
 | .bool=>Bool
 | .str=>List UInt8
 | .unit=>Unit
 | .prod a b=>a.den×b.den
 | .slice e=>List e.den
 | .arr _ e=>List e.den
 | .abs k=>k.den

def Ty.size:Ty->Nat
 | .int _=>1
 | .bool=>1
 | .str=>1
 | .unit=>0
 | .prod a b=>a.size+b.size
 | .slice _=>1
 | .arr n e=>n*e.size
 | .abs _=>1

def Ty.isAgg:Ty->Bool
 | .unit=>true
 | .prod _ _=>true
 | .arr _ _=>true
 |_=>false

def Ty.flat:Ty->Bool
 | .int _=>true
 | .bool=>true
 | .str=>true
 | .unit=>true
 | .prod a b=>a.flat&&b.flat
 | .slice _=>false
 | .arr _ e=>e.flat
 | .abs k=>k.flat

def Ty.dflt:(τ:Ty)->τ.den
 | .int _=>(0:Int)
 | .bool=>false
 | .str=>[]
 | .unit=>()
 | .prod a b=>(a.dflt,b.dflt)
 | .slice _=>[]
 | .arr n e=>List.replicate n e.dflt
 | .abs k=>k.dflt

inductive Md where
 |shr
 |own (e:Md)
 |pair (a b:Md)
 deriving DecidableEq

def Md.fst:Md->Md
 | .pair a _=>a
 |_=> .shr
def Md.snd:Md->Md
 | .pair _ b=>b
 |_=> .shr
def Md.elem:Md->Md
 | .own e=>e
 |_=> .shr

abbrev aA:=Nat->Prop
def Sub(A B:aA):Prop:=∀b,A b->B b
def Dis(A B:aA):Prop:=∀b,A b->¬B b
def none':aA:=fun _=>False

def seg(l:List Value)(o n:Nat):List Value:=(l.drop o).take n

def bH(τ:Ty)(cs:List Value):Value:=if τ.isAgg then .agg cs.toArray else cs.headD undef

def lim:Nat:=140737488355328

def kV(F:aA)(w:World)(v c:Value):Prop:=
 ∃b off row T fr,v= .pointer (some ⟨b,off,none⟩)/\F b/\w.heap[b]? =some (.cells row T fr)/\row[off]? =some c
def jG(F:aA)(w:World):List Value->List Int->Prop
 | [],l=>l=[]
 |v::vs,l=>∃n r,l=n::r/\kV F w v (.int .i64 n)/\IntKind.i64.min<=n/\n<=IntKind.i64.max/\jG F w vs r
def CapsOK(F:aA)(w:World)(q:Nat)(vs:List Value)(l:List Int):Prop:=
 ∃v r,vs=v::r/\kV F w v (.pointer (some ⟨q,0,none⟩))/\jG F w r l
def KIs(F:aA)(w:World)(v:Value):List Value->List KI->Prop
 | [],l=>l=[]
 |c::cs,l=>∃i r,l=i::r/\(match i with
  | .self=>kV F w c v
  | .own q=>c= .pointer (some ⟨q,0,none⟩)
  | .fn g=>kV F w c (.func (.func g) #[] #[]))/\KIs F w v cs r
structure j8(es:Array MapEntry)(ck:Nat)(x:Int->Option Int):Prop where
 size:es.size<=maxLen
 st:MapKept.Stamped es ck
 ints:∀e∈es.toList,∃k v,e.key= .int .i64 k/\e.val= .int .i64 v/\(IntKind.i64.min<=k/\k<=IntKind.i64.max)/\IntKind.i64.min<=v/\v<=IntKind.i64.max
 iff:∀k v,x k=some v↔∃e∈es.toList,e.key= .int .i64 k/\e.val= .int .i64 v
def iI(F:aA)(w:World):(k:Abs)->List Value->k.den->Prop
 | .ptr,cs,x=>cs=[.pointer (Option.map (fun(q:Nat)=>(⟨q,0,none⟩:Addr)) x)]
 | .thk,cs,x=>match x with
  |none=>cs=[.nilFunc]
  |some z=>∃caps:Array Value,cs=[.func (.func z.2.1) #[] caps]/\CapsOK F w z.1 caps.toList z.2.2
 | .clo,cs,x=>match x with
  |none=>cs=[.nilFunc]
  |some z=>∃caps:Array Value,cs=[.func (.func z.1) #[] caps]/\jG F w caps.toList z.2
 | .kno,cs,x=>match x with
  |none=>cs=[.nilFunc]
  |some z=>∃caps:Array Value,cs=[.func (.func z.1) #[] caps]/\KIs F w (.func (.func z.1) #[] caps) caps.toList z.2
 | .hole,cs,_=>∃v,cs=[v]/\v.oneCell'=true
 | .cap,cs,x=>match x with
  |none=>cs=[.nilFunc]
  |some z=>cs=[.func (.func z.1) #[] (z.2.map fun q=>Value.pointer (some ⟨q,0,none⟩)).toArray]
 | .map,cs,x=>∃v,cs=[v]/\((v= .map none/\∀k,x k=none)∨∃b es ck,v= .map (some b)/\F b/\w.heap[b]? =some (.map es ck)/\j8 es ck x)

theorem kV.congr{F F':aA}{w w':World}{v c:Value}(hF:Sub F F')(hw:∀b,F b->w'.heap[b]? =w.heap[b]?)(h:kV F w v c):kV F' w' v c:=by
 obtain⟨b,off,row,T,fr,h1,h2,h3,h4⟩:=h
 exact⟨b,off,row,T,fr,h1,hF b h2,(hw b h2).trans h3,h4⟩
theorem jG.congr{F F':aA}{w w':World}(hF:Sub F F')(hw:∀b,F b->w'.heap[b]? =w.heap[b]?):∀ {vs:List Value} {l:List Int},jG F w vs l->jG F' w' vs l
 | [],_,h=>h
 |v::vs,l,h=>by
  obtain⟨n,r,h1,h2,h3,h4,h5⟩:=h;exact⟨n,r,h1,h2.congr hF hw,h3,h4,jG.congr hF hw h5⟩
theorem KIs.congr{F F':aA}{w w':World}(hF:Sub F F')(hw:∀b,F b->w'.heap[b]? =w.heap[b]?){v:Value}:∀ {vs:List Value} {l:List KI},KIs F w v vs l->KIs F' w' v vs l
 | [],_,h=>h
 |c::cs,l,h=>by
  obtain⟨i,r,h1,h2,h3⟩:=h;refine⟨i,r,h1,?_,KIs.congr hF hw h3⟩;cases i with
  |self=>exact kV.congr hF hw h2
  |own q=>exact h2
  |fn g=>exact kV.congr hF hw h2
theorem iI.congr{F F':aA}{w w':World}(hF:Sub F F')(hw:∀b,F b->w'.heap[b]? =w.heap[b]?):∀ {k:Abs} {cs:List Value} {x:k.den},iI F w k cs x->iI F' w' k cs x
 | .ptr,_,_,h=>h
 | .thk,cs,x,h=>by
  cases x with
  |none=>exact h
  |some z=>
   obtain⟨caps,h1,v,r,h2,h3,h4⟩:=h;exact⟨caps,h1,v,r,h2,h3.congr hF hw,h4.congr hF hw⟩
 | .clo,cs,x,h=>by
  cases x with
  |none=>exact h
  |some z=>
   obtain⟨caps,h1,h2⟩:=h;exact⟨caps,h1,h2.congr hF hw⟩
 | .kno,cs,x,h=>by
  cases x with
  |none=>exact h
  |some z=>
   obtain⟨caps,h1,h2⟩:=h;exact⟨caps,h1,h2.congr hF hw⟩
 | .hole,_,_,h=>h
 | .cap,_,_,h=>h
 | .map,cs,x,h=>by
  obtain⟨v,h1,h2⟩:=h;rcases h2 with h2|⟨b,es,ck,h2,h3,h4,h5⟩
  ·exact⟨v,h1,.inl h2⟩
  ·exact⟨v,h1,.inr ⟨b,es,ck,h2,hF b h3,(hw b h3).trans h4,h5⟩⟩
theorem iI.one_cell{F:aA}{w:World}:∀ {k:Abs} {cs:List Value} {x:k.den},iI F w k cs x->∃v,cs=[v]/\v.oneCell'=true
 | .ptr,_,_,h=>⟨_,h,rfl⟩
 | .thk,cs,x,h=>by
  cases x with
  |none=>exact⟨_,h,rfl⟩
  |some z=>obtain⟨caps,h1,_⟩:=h;exact⟨_,h1,rfl⟩
 | .clo,cs,x,h=>by
  cases x with
  |none=>exact⟨_,h,rfl⟩
  |some z=>obtain⟨caps,h1,_⟩:=h;exact⟨_,h1,rfl⟩
 | .kno,cs,x,h=>by
  cases x with
  |none=>exact⟨_,h,rfl⟩
  |some z=>obtain⟨caps,h1,_⟩:=h;exact⟨_,h1,rfl⟩
 | .hole,_,_,h=>h
 | .cap,_,x,h=>by cases x<;>exact⟨_,h,rfl⟩
 | .map,cs,x,h=>by
  obtain⟨v,h1,h2⟩:=h;rcases h2 with⟨rfl,_⟩|⟨b,es,ck,rfl,_⟩<;>exact⟨_,h1,rfl⟩
theorem iI.flat{F F':aA}{w w':World}:∀ {k:Abs} {cs:List Value} {x:k.den},k.flat=true->iI F w k cs x->iI F' w' k cs x
 | .ptr,_,_,_,h=>h
 | .thk,_,_,hf,_=>by cases hf
 | .clo,_,_,hf,_=>by cases hf
 | .kno,_,_,hf,_=>by cases hf
 | .hole,_,_,_,h=>h
 | .cap,_,_,_,h=>h
 | .map,_,_,hf,_=>by cases hf

def Own(F:aA)(w:World):(τ:Ty)->Md->aA->List Value->τ.den->Prop
 | .int k,_,_,cs,n=>cs=[.int k n]/\k.min<=n/\n<=k.max
 | .bool,_,_,cs,b=>cs=[.bool b]
 | .str,_,_,cs,s=>cs=[.string ⟨s.toArray⟩]/\s.length<=lim
 | .unit,_,_,cs,_=>cs=[]
 | .prod a b,m,S,cs,x=>∃c1 c2 S1 S2,cs=c1++c2/\Sub S1 S/\Sub S2 S/\Dis S1 S2/\
   Own F w a m.fst S1 c1 x.1/\Own F w b m.snd S2 c2 x.2
 | .slice e,m,S,cs,xs=>∃ao cap,cs=[.slice ao xs.length cap]/\xs.length<=cap/\xs.length<=lim/\
   match m with
   | .own me=>(ao=none/\cap=0)∨∃(b off:Nat) (row:Array Value) (T:TypeId) (Si:Nat->aA),ao=some ⟨b,off,none⟩/\S b/\w.heap[b]? =some (.cells row T (0,0))/\
     off+cap*e.size<=row.size/\(∀i,Sub (Si i) S)/\(∀i,¬Si i b)/\(∀i j,i≠j->Dis (Si i) (Si j))/\
     ∀i x,xs[i]? =some x->Own F w e me (Si i) (seg row.toList (off+i*e.size) e.size) x
   |_=>xs=[]∨∃(b off:Nat) (row:Array Value) (T:TypeId) (fr:Nat×Nat),ao=some ⟨b,off,none⟩/\F b/\w.heap[b]? =some (.cells row T fr)/\
     off+xs.length*e.size<=row.size/\
     ∀i x,xs[i]? =some x->Own F w e .shr none' (seg row.toList (off+i*e.size) e.size) x
 | .arr n e,m,S,cs,xs=>xs.length=n/\cs.length=n*e.size/\∃Si:Nat->aA,(∀i,Sub (Si i) S)/\(∀i j,i≠j->Dis (Si i) (Si j))/\
   ∀i x,xs[i]? =some x->Own F w e m.elem (Si i) (seg cs (i*e.size) e.size) x
 | .abs k,_,_,cs,x=>iI F w k cs x

theorem lT(l:List Value)(o n:Nat)(h:o+n<=l.length):(seg l o n).length=n:=by
 simp[seg];omega

theorem Own.len{F:aA}{w:World}:∀ {τ:Ty} {m:Md} {S:aA} {cs:List Value} {x:τ.den},Own F w τ m S cs x->cs.length=τ.size
 | .int _,_,_,_,_,h=>by simp[Own]at h;simp[h.1,Ty.size]
 | .bool,_,_,_,_,h=>by simp[Own]at h;simp[h,Ty.size]
 | .str,_,_,_,_,h=>by simp[Own]at h;simp[h.1,Ty.size]
 | .abs _,_,_,_,_,h=>by obtain⟨v,h,_⟩:=iI.one_cell h;rw[h];rfl
 | .unit,_,_,_,_,h=>by simp[Own]at h;simp[h,Ty.size]
 | .prod a b,m,S,cs,x,h=>by
  obtain⟨c1,c2,S1,S2,rfl,_,_,_,h1,h2⟩:=h;simp[Ty.size,h1.len,h2.len]
 | .slice e,m,S,cs,xs,h=>by
  obtain⟨ao,cap,rfl,_⟩:=h;simp[Ty.size]
 | .arr n e,m,S,cs,xs,h=>by simp[Ty.size,h.2.1]

theorem Own.congr{F:aA}{w w':World}(hF:∀b,F b->w'.heap[b]? =w.heap[b]?):
  ∀ {τ:Ty} {m:Md} {S:aA} {cs:List Value} {x:τ.den},(∀b,S b->w'.heap[b]? =w.heap[b]?)->Own F w τ m S cs x->Own F w' τ m S cs x
 | .int _,_,_,_,_,_,h=>by simpa[Own]using h
 | .bool,_,_,_,_,_,h=>by simpa[Own]using h
 | .str,_,_,_,_,_,h=>by simpa[Own]using h
 | .abs _,_,_,_,_,_,h=>iI.congr (fun _ h=>h) hF h
 | .unit,_,_,_,_,_,h=>by simpa[Own]using h
 | .prod a b,m,S,cs,x,hS,h=>by
  obtain⟨c1,c2,S1,S2,rfl,s1,s2,d,h1,h2⟩:=h;exact⟨c1,c2,S1,S2,rfl,s1,s2,d,h1.congr hF (fun b hb=>hS b (s1 b hb)),h2.congr hF (fun b hb=>hS b (s2 b hb))⟩
 | .slice e,m,S,cs,xs,hS,h=>by
  obtain⟨ao,cap,rfl,hc,hl,h⟩:=h;refine⟨ao,cap,rfl,hc,hl,?_⟩;cases m with
  |own me=>
   rcases h with h|⟨b,off,row,T,Si,ha,hb,hr,ho,s,nb,d,he⟩
   ·exact .inl h
   ·exact .inr ⟨b,off,row,T,Si,ha,hb,(hS b hb).trans hr,ho,s,nb,d,fun i x hx=>(he i x hx).congr hF (fun b hb=>hS b (s i b hb))⟩
  |shr=>
   rcases h with h|⟨b,off,row,T,fr,ha,hb,hr,ho,he⟩
   ·exact .inl h
   ·exact .inr ⟨b,off,row,T,fr,ha,hb,(hF b hb).trans hr,ho,fun i x hx=>(he i x hx).congr hF (fun b hb=>hb.elim)⟩
  |pair a b=>
   rcases h with h|⟨b,off,row,T,fr,ha,hb,hr,ho,he⟩
   ·exact .inl h
   ·exact .inr ⟨b,off,row,T,fr,ha,hb,(hF b hb).trans hr,ho,fun i x hx=>(he i x hx).congr hF (fun b hb=>hb.elim)⟩
 | .arr n e,m,S,cs,xs,hS,h=>by
  obtain⟨hn,hc,Si,s,d,he⟩:=h;exact⟨hn,hc,Si,s,d,fun i x hx=>(he i x hx).congr hF (fun b hb=>hS b (s i b hb))⟩

theorem Own.mono{F F':aA}{w:World}(hF:Sub F F'):
  ∀ {τ:Ty} {m:Md} {S S':aA} {cs:List Value} {x:τ.den},Sub S S'->Own F w τ m S cs x->Own F' w τ m S' cs x
 | .int _,_,_,_,_,_,_,h=>by simpa[Own]using h
 | .bool,_,_,_,_,_,_,h=>by simpa[Own]using h
 | .str,_,_,_,_,_,_,h=>by simpa[Own]using h
 | .abs _,_,_,_,_,_,_,h=>iI.congr hF (fun _ _=>rfl) h
 | .unit,_,_,_,_,_,_,h=>by simpa[Own]using h
 | .prod a b,m,S,S',cs,x,hS,h=>by
  obtain⟨c1,c2,S1,S2,rfl,s1,s2,d,h1,h2⟩:=h;exact⟨c1,c2,S1,S2,rfl,fun b hb=>hS b (s1 b hb),fun b hb=>hS b (s2 b hb),d,h1.mono hF (fun _ h=>h),h2.mono hF (fun _ h=>h)⟩
 | .slice e,m,S,S',cs,xs,hS,h=>by
  obtain⟨ao,cap,rfl,hc,hl,h⟩:=h;refine⟨ao,cap,rfl,hc,hl,?_⟩;cases m with
  |own me=>
   rcases h with h|⟨b,off,row,T,Si,ha,hb,hr,ho,s,nb,d,he⟩
   ·exact .inl h
   ·exact .inr ⟨b,off,row,T,Si,ha,hS b hb,hr,ho,fun i b hb=>hS b (s i b hb),nb,d,fun i x hx=>(he i x hx).mono hF (fun _ h=>h)⟩
  |shr=>
   rcases h with h|⟨b,off,row,T,fr,ha,hb,hr,ho,he⟩
   ·exact .inl h
   ·exact .inr ⟨b,off,row,T,fr,ha,hF b hb,hr,ho,fun i x hx=>(he i x hx).mono hF (fun _ h=>h)⟩
  |pair a b=>
   rcases h with h|⟨b,off,row,T,fr,ha,hb,hr,ho,he⟩
   ·exact .inl h
   ·exact .inr ⟨b,off,row,T,fr,ha,hF b hb,hr,ho,fun i x hx=>(he i x hx).mono hF (fun _ h=>h)⟩
 | .arr n e,m,S,S',cs,xs,hS,h=>by
  obtain⟨hn,hc,Si,s,d,he⟩:=h;exact⟨hn,hc,Si,fun i b hb=>hS b (s i b hb),d,fun i x hx=>(he i x hx).mono hF (fun _ h=>h)⟩

theorem Own.shr{F:aA}{w:World}:
  ∀ {τ:Ty} {S S':aA} {cs:List Value} {x:τ.den},Own F w τ .shr S cs x->Own F w τ .shr S' cs x
 | .int _,_,_,_,_,h=>by simpa[Own]using h
 | .bool,_,_,_,_,h=>by simpa[Own]using h
 | .str,_,_,_,_,h=>by simpa[Own]using h
 | .abs _,_,_,_,_,h=>h
 | .unit,_,_,_,_,h=>by simpa[Own]using h
 | .prod a b,S,S',cs,x,h=>by
  obtain⟨c1,c2,S1,S2,rfl,_,_,_,h1,h2⟩:=h;exact⟨c1,c2,none',none',rfl,fun _ h=>h.elim,fun _ h=>h.elim,fun _ h=>h.elim,Own.shr (τ:=a) h1,Own.shr (τ:=b) h2⟩
 | .slice e,S,S',cs,xs,h=>h
 | .arr n e,S,S',cs,xs,h=>by
  obtain⟨hn,hc,Si,s,d,he⟩:=h;exact⟨hn,hc,fun _=>none',fun _ _ h=>h.elim,fun _ _ _ _ h=>h.elim,fun i x hx=>Own.shr (τ:=e) (he i x hx)⟩

theorem Own.freeze{F:aA}{w:World}:
  ∀ {τ:Ty} {m:Md} {S S':aA} {cs:List Value} {x:τ.den},Own F w τ m S cs x->Own (fun b=>F b∨S b) w τ .shr S' cs x
 | .int _,_,_,_,_,_,h=>by simpa[Own]using h
 | .bool,_,_,_,_,_,h=>by simpa[Own]using h
 | .str,_,_,_,_,_,h=>by simpa[Own]using h
 | .abs _,_,_,_,_,_,h=>iI.congr (fun _ h=> .inl h) (fun _ _=>rfl) h
 | .unit,_,_,_,_,_,h=>by simpa[Own]using h
 | .prod a b,m,S,S',cs,x,h=>by
  obtain⟨c1,c2,S1,S2,rfl,s1,s2,d,h1,h2⟩:=h;refine⟨c1,c2,none',none',rfl,fun _ h=>h.elim,fun _ h=>h.elim,fun _ h=>h.elim,?_,?_⟩
  ·exact(Own.freeze (τ:=a) (S':=none') h1).mono (fun b hb=>hb.imp id (s1 b)) (fun _ h=>h)
  ·exact(Own.freeze (τ:=b) (S':=none') h2).mono (fun b hb=>hb.imp id (s2 b)) (fun _ h=>h)
 | .slice e,m,S,S',cs,xs,h=>by
  obtain⟨ao,cap,rfl,hc,hl,h⟩:=h;refine⟨ao,cap,rfl,hc,hl,?_⟩;cases m with
  |own me=>
   rcases h with⟨_,h⟩|⟨b,off,row,T,Si,ha,hb,hr,ho,s,nb,d,he⟩
   ·left;exact List.eq_nil_of_length_eq_zero (by omega)
   ·refine .inr ⟨b,off,row,T,_,ha,.inr hb,hr,?_,fun i x hx=>(Own.freeze (τ:=e) (S':=none') (he i x hx)).mono (fun b hb=>hb.imp id (s i b)) (fun _ h=>h)⟩
    have:=Nat.mul_le_mul_right e.size hc
    omega
  |shr=>
   rcases h with h|⟨b,off,row,T,fr,ha,hb,hr,ho,he⟩
   ·exact .inl h
   ·exact .inr ⟨b,off,row,T,fr,ha,.inl hb,hr,ho,fun i x hx=>(he i x hx).mono (fun _ h=> .inl h) (fun _ h=>h)⟩
  |pair a b=>
   rcases h with h|⟨b,off,row,T,fr,ha,hb,hr,ho,he⟩
   ·exact .inl h
   ·exact .inr ⟨b,off,row,T,fr,ha,.inl hb,hr,ho,fun i x hx=>(he i x hx).mono (fun _ h=> .inl h) (fun _ h=>h)⟩
 | .arr n e,m,S,S',cs,xs,h=>by
  obtain⟨hn,hc,Si,s,d,he⟩:=h;exact⟨hn,hc,fun _=>none',fun _ _ h=>h.elim,fun _ _ _ _ h=>h.elim,
   fun i x hx=>(Own.freeze (τ:=e) (S':=none') (he i x hx)).mono (fun b hb=>hb.imp id (s i b)) (fun _ h=>h)⟩

theorem Own.flat{F F':aA}{w w':World}:
  ∀ {τ:Ty} {m m':Md} {S S':aA} {cs:List Value} {x:τ.den},τ.flat=true->Own F w τ m S cs x->Own F' w' τ m' S' cs x
 | .int _,_,_,_,_,_,_,_,h=>by simpa[Own]using h
 | .bool,_,_,_,_,_,_,_,h=>by simpa[Own]using h
 | .str,_,_,_,_,_,_,_,h=>by simpa[Own]using h
 | .abs _,_,_,_,_,_,_,hf,h=>iI.flat hf h
 | .unit,_,_,_,_,_,_,_,h=>by simpa[Own]using h
 | .prod a b,m,m',S,S',cs,x,hf,h=>by
  obtain⟨c1,c2,S1,S2,rfl,_,_,_,h1,h2⟩:=h;simp only[Ty.flat,Bool.and_eq_true]at hf;exact⟨c1,c2,none',none',rfl,fun _ h=>h.elim,fun _ h=>h.elim,fun _ h=>h.elim,Own.flat (τ:=a) hf.1 h1,Own.flat (τ:=b) hf.2 h2⟩
 | .slice e,_,_,_,_,_,_,hf,_=>by simp[Ty.flat]at hf
 | .arr n e,m,m',S,S',cs,xs,hf,h=>by
  obtain⟨hn,hc,Si,s,d,he⟩:=h;exact⟨hn,hc,fun _=>none',fun _ _ h=>h.elim,fun _ _ _ _ h=>h.elim,fun i x hx=>Own.flat (τ:=e) (by simpa[Ty.flat]using hf) (he i x hx)⟩

end Go.Lf
namespace Go.Lf

inductive aD where
 |fst
 |snd
 |idx (i:Nat)
 deriving DecidableEq
abbrev cM:=List aD

def aN:cM->(τ:Ty)->τ.den->Option (Σ σ:Ty,σ.den)
 | [],τ,x=>some ⟨τ,x⟩
 | .fst::p,.prod a _,x=>aN p a x.1
 | .snd::p,.prod _ b,x=>aN p b x.2
 | .idx i::p,.slice e,xs=>aN p e (xs.getD i e.dflt)
 | .idx i::p,.arr _ e,xs=>aN p e (xs.getD i e.dflt)
 |_,_,_=>none

def bI:cM->Ty->Md->Option Md
 | [],_,m=>some m
 | .fst::p,.prod a _,m=>bI p a m.fst
 | .snd::p,.prod _ b,m=>bI p b m.snd
 | .idx _::p,.slice e,.own me=>bI p e me
 | .idx _::p,.arr _ e,m=>bI p e m.elem
 |_,_,_=>none

def inR:cM->(τ:Ty)->τ.den->Prop
 | [],_,_=>True
 | .fst::p,.prod a _,x=>inR p a x.1
 | .snd::p,.prod _ b,x=>inR p b x.2
 | .idx i::p,.slice e,xs=>i<List.length xs/\inR p e (xs.getD i e.dflt)
 | .idx i::p,.arr _ e,xs=>i<List.length xs/\inR p e (xs.getD i e.dflt)
 |_,_,_=>False

def eM:cM->(τ:Ty)->τ.den->(σ:Ty)->σ.den->Option τ.den
 | [],τ,_,σ,y=>if h:σ=τ then some (h▸y)else none
 | .fst::p,.prod a _,x,σ,y=>(eM p a x.1 σ y).map fun z=>(z,x.2)
 | .snd::p,.prod _ b,x,σ,y=>(eM p b x.2 σ y).map fun z=>(x.1,z)
 | .idx i::p,.slice e,xs,σ,y=>(eM p e (xs.getD i e.dflt) σ y).map fun z=>xs.set i z
 | .idx i::p,.arr _ e,xs,σ,y=>(eM p e (xs.getD i e.dflt) σ y).map fun z=>xs.set i z
 |_,_,_,_,_=>none

def gC:cM->Ty->Md->Md->Option Md
 | [],_,_,μ=>some μ
 | .fst::p,.prod a _,m,μ=>(gC p a m.fst μ).map fun z=> .pair z m.snd
 | .snd::p,.prod _ b,m,μ=>(gC p b m.snd μ).map fun z=> .pair m.fst z
 |_,_,_,_=>none

inductive aK where
 |val (cs:List Value)
 |mem (b off:Nat)

def aK.part:aK->Nat->Nat->aK
 | .val cs,o,n=> .val (seg cs o n)
 | .mem b off,o,_=> .mem b (off+o)

def aK.read(w:World)(n:Nat):aK->Option (List Value)
 | .val cs=>some cs
 | .mem b off=>match w.heap[b]? with
  |some (.cells row _ _)=>if off+n<=row.size then some (seg row.toList off n)else none
  |_=>none

def loc(w:World):cM->Ty->aK->Option (Ty×aK)
 | [],τ,pl=>some (τ,pl)
 | .fst::p,.prod a _,pl=>loc w p a (pl.part 0 a.size)
 | .snd::p,.prod a b,pl=>loc w p b (pl.part a.size b.size)
 | .idx i::p,.slice e,pl=>match pl.read w 1 with
  |some [.slice (some ⟨b,off,none⟩) len _]=>if i<len then loc w p e (.mem b (off+i*e.size))else none
  |_=>none
 | .idx i::p,.arr n e,pl=>if i<n then loc w p e (pl.part (i*e.size) e.size)else none
 |_,_,_=>none

def fM(F S:aA)(w:World)(pl:aK)(n:Nat)(cs:List Value):Prop:=
 match pl with
 | .val cs'=>cs'=cs
 | .mem b off=>¬S b/\¬F b/\∃row T,w.heap[b]? =some (.cells row T (0,0))/\off+n<=row.size/\seg row.toList off n=cs

theorem fM.read{F S:aA}{w:World}{pl:aK}{n:Nat}{cs:List Value}(h:fM F S w pl n cs):pl.read w n=some cs:=by
 cases pl with
 |val cs'=>simp[fM]at h;simp[aK.read,h]
 |mem b off=>obtain⟨_,_,row,T,hr,ho,hs⟩:=h;simp[aK.read,hr,ho,hs]

def aK.isB:aK->Nat->Prop
 | .val _,_=>False
 | .mem b _,k=>k=b

def Upd(w w':World)(b off n:Nat)(c':List Value):Prop:=
 c'.length=n/\∃row row' T,w.heap[b]? =some (.cells row T (0,0))/\w'.heap[b]? =some (.cells row' T (0,0))/\off+n<=row.size/\
  row'.toList=row.toList.take off++c'++row.toList.drop (off+n)

theorem bP(a b:List Value)(n:Nat)(h:a.length=n):seg (a++b) 0 n=a:=by
 simp[seg,h]
theorem bL(a b:List Value)(n k:Nat)(h:a.length=n)(hk:b.length=k):seg (a++b) n k=b:=by
 subst h;subst hk;simp[seg]
theorem dV(l:List Value)(o n o' n':Nat)(h:o'+n'<=n):seg (seg l o n) o' n'=seg l (o+o') n':=by
 unfold seg
 rw[List.drop_take,List.take_take,List.drop_drop]
 congr 1;omega
theorem oH(l:List Value)(o m n:Nat)(_:o+(m+n)<=l.length):seg l o (m+n)=seg l o m++seg l (o+m) n:=by
 unfold seg
 rw[List.take_add,List.drop_drop]
theorem fO(row:List Value)(off n:Nat)(c':List Value)(hc:c'.length=n)(ho:off+n<=row.length)(o k:Nat)(hk:o+k<=row.length)
  (h:o+k<=off∨off+n<=o):seg (row.take off++c'++row.drop (off+n)) o k=seg row o k:=by
 apply List.ext_getElem?
 intro j
 simp only[seg,List.getElem?_take,List.getElem?_drop]
 by_cases hj:j<k
 ·simp only[hj,if_true]
  rcases h with h|h
  ·rw[List.getElem?_append_left (by simp;omega),List.getElem?_append_left (by simp;omega),List.getElem?_take,if_pos (by omega)]
  ·rw[List.append_assoc,List.getElem?_append_right (by simp;omega),List.getElem?_append_right (by simp;omega)]
   simp only[List.length_take,List.getElem?_drop]
   congr 1;omega
 ·simp[hj]
theorem jS(row:List Value)(off n:Nat)(c':List Value)(hc:c'.length=n)(ho:off+n<=row.length):
  seg (row.take off++c'++row.drop (off+n)) off n=c':=by
 unfold seg
 rw[List.append_assoc,List.drop_append_of_le_length (by simp;omega)]
 rw[List.drop_take,Nat.sub_self,List.take_zero,List.nil_append,List.take_append_of_le_length (by omega),List.take_of_length_le (by omega)]

theorem upd_len(row:List Value)(off n:Nat)(c':List Value)(hc:c'.length=n)(ho:off+n<=row.length):
  (row.take off++c'++row.drop (off+n)).length=row.length:=by
 simp;omega

structure vU(F:aA)(w:World)(τ:Ty)(m:Md)(S:aA)(pl:aK)(x:τ.den)(p:cM)(σ:Ty)(y:σ.den)(μ:Md)(pl':aK)(cs':List Value)(S':aA):Prop where
 loc:loc w p τ pl=some (σ,pl')
 ok:fM F S' w pl' σ.size cs'
 own:Own F w σ μ S' cs' y
 sub:Sub S' S
 blk:∀b,pl'.isB b->S b∨pl.isB b
 rng:∀b off o0,pl'= .mem b off->pl= .mem b o0->o0<=off/\off+σ.size<=o0+τ.size
 plug:∀(F2:aA) (w':World) (b off:Nat) (S'':aA) (c':List Value) (μ' m':Md) (y':σ.den) (x':τ.den),pl'= .mem b off->
  Sub F F2->(∀k,F2 k->¬S k/\¬pl.isB k)->
  (∀k,F k∨(S k/\¬S' k)->k≠b->w'.heap[k]? =w.heap[k]?)->(∀k,pl.isB k->k≠b->w'.heap[k]? =w.heap[k]?)->
  Upd w w' b off σ.size c'->Own F2 w' σ μ' S'' c' y'->(∀k,S'' k->¬(S k/\¬S' k)/\¬F k/\k≠b/\¬pl.isB k)->
  (μ'=μ/\m'=m∨gC p τ m μ'=some m')->eM p τ x σ y'=some x'->
  ∃cs2,fM F2 (fun k=>(S k/\¬S' k)∨S'' k) w' pl τ.size cs2/\Own F2 w' τ m' (fun k=>(S k/\¬S' k)∨S'' k) cs2 x'

theorem fM.part{F S S':aA}{w:World}{pl:aK}{n o k:Nat}{cs c:List Value}(h:fM F S w pl n cs)(hs:Sub S' S)(hk:o+k<=n)(hc:seg cs o k=c):
  fM F S' w (pl.part o k) k c:=by
 cases pl with
 |val cs'=>simp[fM]at h;subst h;simpa[fM,aK.part]using hc
 |mem b off=>
  obtain⟨h1,h2,row,T,hr,ho,hs'⟩:=h;refine⟨fun hb=>h1 (hs b hb),h2,row,T,hr,by omega,?_⟩
  rw[<-hc,<-hs',dV _ _ _ _ _ hk]

theorem aK.part_isB{pl:aK}{o n k:Nat}:(pl.part o n).isB k↔pl.isB k:=by cases pl<;>simp[aK.part,aK.isB]

theorem Upd.other{w w':World}{b off n:Nat}{c':List Value}(h:Upd w w' b off n c'){row:Array Value}{T:TypeId}(hr:w.heap[b]? =some (.cells row T (0,0))):
  ∃row',w'.heap[b]? =some (.cells row' T (0,0))/\row'.size=row.size/\off+n<=row.size/\
   (∀o k,o+k<=row.size->(o+k<=off∨off+n<=o)->seg row'.toList o k=seg row.toList o k)/\seg row'.toList off n=c':=by
 obtain⟨hc,row0,row',T0,h1,h2,h3,h4⟩:=h
 rw[hr]at h1
 injection h1 with h1;injection h1 with h1 h5
 subst h1;subst h5
 refine⟨row',h2,?_,h3,fun o k hk hh=> ?_,?_⟩
 ·have:=upd_len row.toList off n c' hc (by simpa using h3)
  rw[<-h4]at this;simpa using this
 ·rw[h4];exact fO _ _ _ _ hc (by simpa using h3) _ _ (by simpa using hk) hh
 ·rw[h4];exact jS _ _ _ _ hc (by simpa using h3)

theorem Own.list_get{F:aA}{w:World}{e:Ty}{me:Md}{Si:Nat->aA}{f:Nat->List Value}{xs:List e.den}
  (he:∀i x,xs[i]? =some x->Own F w e me (Si i) (f i) x) {i:Nat} (hi:i<xs.length):Own F w e me (Si i) (f i) (xs.getD i e.dflt):=by
 apply he;simp[List.getD_eq_getElem?_getD,hi]

theorem focus{F:aA}{w:World}:∀(p:cM) {τ:Ty} {m:Md} {S:aA} {pl:aK} {cs:List Value} {x:τ.den} {σ:Ty} {y:σ.den} {μ:Md},
  (∀b,S b->¬F b)->Own F w τ m S cs x->fM F S w pl τ.size cs->aN p τ x=some ⟨σ,y⟩->bI p τ m=some μ->inR p τ x->
  ∃pl' cs' S',vU F w τ m S pl x p σ y μ pl' cs' S'
 | [],τ,m,S,pl,cs,x,σ,y,μ,hd,h,ho,hg,hm,hr=>by
  simp only[aN,Option.some.injEq,Sigma.mk.injEq]at hg;obtain⟨rfl,hy⟩:=hg;have hy:=eq_of_heq hy;subst hy;simp only[bI,Option.some.injEq]at hm;subst hm;refine⟨pl,cs,S,rfl,ho,h,fun _ h=>h,fun b hb=> .inr hb,?_,?_⟩
  ·intro b off o0 h1 h2;rw[h1]at h2;injection h2 with _ h2;omega
  ·intro F2 w' b off S'' c' μ' m' y' x' hpl hFF hF2 hF hB hu hown hS hmm hx
   simp only[eM,dif_pos,Option.some.injEq]at hx;subst hx;have hm':m'=μ':=by
    rcases hmm with⟨h1,h2⟩|h1
    ·rw[h1,h2]
    ·simp only[gC,Option.some.injEq]at h1;exact h1.symm
   subst hm';refine⟨c',?_,hown.mono (fun _ h=>h) (fun _ h=> .inr h)⟩
   subst hpl;obtain⟨h1,h2,row,T,h3,h4,h5⟩:=ho;obtain⟨row',g1,g2,g3,g4,g5⟩:=hu.other h3;refine⟨?_,fun h=>(hF2 _ h).2 rfl,row',T,g1,by omega,g5⟩
   rintro (⟨h6,h7⟩|h6)
   ·exact h7 h6
   ·exact(hS _ h6).2.2.1 rfl
 | .fst::p,.prod a b,m,S,pl,cs,x,σ,y,μ,hd,h,ho,hg,hm,hr=>by
  obtain⟨c1,c2,S1,S2,rfl,s1,s2,d,h1,h2⟩:=h;have l1:=h1.len;have l2:=h2.len;obtain⟨pl',cs',S',f⟩:=focus p (pl:=pl.part 0 a.size) (fun b hb=>hd b (s1 b hb)) h1
   (ho.part s1 (by simp[Ty.size]) (bP _ _ _ l1)) hg hm hr
  refine⟨pl',cs',S',f.loc,f.ok,f.own,fun b hb=>s1 b (f.sub b hb),?_,?_,?_⟩
  ·intro k hk
   rcases f.blk k hk with h|h
   ·exact .inl (s1 k h)
   ·exact .inr (aK.part_isB.1 h)
  ·intro k off o0 e1 e2
   have:=f.rng k off o0 e1 (by rw[e2];simp[aK.part])
   simp[Ty.size];omega
  ·intro F2 w' k off S'' c' μ' m' y' x' hpl hFF hF2 hF hB hu hown hS hmm hx
   simp only[eM,Option.map_eq_some_iff]at hx;obtain⟨z,hz,rfl⟩:=hx;have hm1:∃n',(μ'=μ/\n'=m.fst∨gC p a m.fst μ'=some n')/\m'.fst=n'/\m'.snd=m.snd:=by
    rcases hmm with⟨e1,e2⟩|e1
    ·exact⟨m.fst,.inl ⟨e1,rfl⟩,by rw[e2],by rw[e2]⟩
    ·simp only[gC,Option.map_eq_some_iff]at e1
     obtain⟨n',e1,rfl⟩:=e1;exact⟨n',.inr e1,rfl,rfl⟩
   obtain⟨n',hn,e1,e2⟩:=hm1;obtain⟨cs2,hok,hown2⟩:=f.plug F2 w' k off S'' c' μ' n' y' z hpl hFF (fun j hj=>⟨fun h=>(hF2 j hj).1 (s1 j h),fun h=>(hF2 j hj).2 (aK.part_isB.1 h)⟩) (fun j hj hne=>hF j (hj.imp id fun hj=>⟨s1 j hj.1,hj.2⟩) hne)
    (fun j hj hne=>hB j (aK.part_isB.1 hj) hne) hu hown
    (fun j hj=>⟨fun hh=>(hS j hj).1 ⟨s1 j hh.1,hh.2⟩,(hS j hj).2.1,(hS j hj).2.2.1,fun hh=>(hS j hj).2.2.2 (aK.part_isB.1 hh)⟩) hn hz
   have hkF:¬F k:=by have:=f.ok;rw[hpl]at this;exact this.2.1
   have hk2:∀j,S2 j->j≠k:=by
    intro j hj e;subst e;rcases f.blk j (by rw[hpl];rfl)with h|h
    ·exact d j h hj
    ·have h:=aK.part_isB.1 h
     cases pl with
     |val _=>exact h
     |mem b0 o0=>cases h;exact ho.1 (s2 _ hj)
   have h2':Own F2 w' b m.snd S2 c2 x.2:=(h2.congr (fun j hj=>hF j (.inl hj) (fun e=>hkF (e▸hj)))
    (fun j hj=>hF j (.inr ⟨s2 j hj,fun hh=>d j (f.sub j hh) hj⟩) (hk2 j hj))).mono hFF (fun _ h=>h)
   refine⟨cs2++c2,?_,cs2,c2,_,S2,rfl,?_,?_,?_,e1▸hown2,e2▸h2'⟩
   ·cases pl with
    |val cs0=>
     have e1:cs0=c1++c2:=ho
     have e2:seg cs0 0 a.size=cs2:=hok
     show cs0=cs2++c2
     rw[<-e2,e1,bP _ _ _ l1]
    |mem b0 o0=>
     obtain⟨g1,g2,row',T',g3,g4,g5⟩:=hok;obtain⟨q1,q2,row,T,q3,q4,q5⟩:=ho;refine⟨?_,fun h=>(hF2 _ h).2 rfl,row',T',g3,?_⟩
     ·rintro (⟨e1,_⟩|e1)
      ·exact q1 e1
      ·exact(hS _ e1).2.2.2 rfl
     by_cases hbk:b0=k
     ·subst hbk
      obtain⟨jJ,r1,r2,r3,r4,r5⟩:=hu.other q3;rw[g3]at r1;injection r1 with r1;injection r1 with r1 r6;subst r1;have hrg:=f.rng b0 off (o0+0) hpl rfl;simp only[Ty.size]at q4⊢;refine⟨by omega,?_⟩;rw[oH _ _ _ _ (by simpa using by omega)]
      simp only[Nat.add_zero]at g5;rw[g5]
      congr 1
      rw[r4 _ _ (by omega) (by omega)];have:=bL c1 c2 a.size b.size l1 l2;rw[<-q5]at this;simp only[Ty.size]at this;rw[dV _ _ _ _ _ (by omega)]at this;exact this
     ·have r1:=hB b0 rfl hbk
      rw[q3,g3]at r1;injection r1 with r1;injection r1 with r1 r6;subst r1;simp only[Ty.size]at q4 q5⊢;refine⟨q4,?_⟩;rw[oH _ _ _ _ (by simpa using q4)];simp only[Nat.add_zero]at g5;rw[g5]
      congr 1
      have:=bL c1 c2 a.size b.size l1 l2
      rw[<-q5]at this;rw[dV _ _ _ _ _ (by omega)]at this;exact this
   ·rintro j (⟨e1,e2⟩|e1)
    ·exact .inl ⟨s1 j e1,e2⟩
    ·exact .inr e1
   ·intro j hj;exact .inl ⟨s2 j hj,fun hh=>d j (f.sub j hh) hj⟩
   ·rintro j (⟨e1,e2⟩|e1) hj
    ·exact d j e1 hj
    ·exact(hS j e1).1 ⟨s2 j hj,fun hh=>d j (f.sub j hh) hj⟩
 | .snd::p,.prod a b,m,S,pl,cs,x,σ,y,μ,hd,h,ho,hg,hm,hr=>by
  obtain⟨c1,c2,S1,S2,rfl,s1,s2,d,h1,h2⟩:=h;have l1:=h1.len;have l2:=h2.len;obtain⟨pl',cs',S',f⟩:=focus p (pl:=pl.part a.size b.size) (fun b hb=>hd b (s2 b hb)) h2
   (ho.part s2 (by simp[Ty.size]) (bL _ _ _ _ l1 l2)) hg hm hr
  refine⟨pl',cs',S',f.loc,f.ok,f.own,fun b hb=>s2 b (f.sub b hb),?_,?_,?_⟩
  ·intro k hk
   rcases f.blk k hk with h|h
   ·exact .inl (s2 k h)
   ·exact .inr (aK.part_isB.1 h)
  ·intro k off o0 e1 e2
   have:=f.rng k off (o0+a.size) e1 (by rw[e2];simp[aK.part])
   simp[Ty.size];omega
  ·intro F2 w' k off S'' c' μ' m' y' x' hpl hFF hF2 hF hB hu hown hS hmm hx
   simp only[eM,Option.map_eq_some_iff]at hx;obtain⟨z,hz,rfl⟩:=hx;have hm1:∃n',(μ'=μ/\n'=m.snd∨gC p b m.snd μ'=some n')/\m'.snd=n'/\m'.fst=m.fst:=by
    rcases hmm with⟨e1,e2⟩|e1
    ·exact⟨m.snd,.inl ⟨e1,rfl⟩,by rw[e2],by rw[e2]⟩
    ·simp only[gC,Option.map_eq_some_iff]at e1
     obtain⟨n',e1,rfl⟩:=e1;exact⟨n',.inr e1,rfl,rfl⟩
   obtain⟨n',hn,e1,e2⟩:=hm1;obtain⟨cs2,hok,hown2⟩:=f.plug F2 w' k off S'' c' μ' n' y' z hpl hFF (fun j hj=>⟨fun h=>(hF2 j hj).1 (s2 j h),fun h=>(hF2 j hj).2 (aK.part_isB.1 h)⟩) (fun j hj hne=>hF j (hj.imp id fun hj=>⟨s2 j hj.1,hj.2⟩) hne)
    (fun j hj hne=>hB j (aK.part_isB.1 hj) hne) hu hown
    (fun j hj=>⟨fun hh=>(hS j hj).1 ⟨s2 j hh.1,hh.2⟩,(hS j hj).2.1,(hS j hj).2.2.1,fun hh=>(hS j hj).2.2.2 (aK.part_isB.1 hh)⟩) hn hz
   have hkF:¬F k:=by have:=f.ok;rw[hpl]at this;exact this.2.1
   have hk1:∀j,S1 j->j≠k:=by
    intro j hj e;subst e;rcases f.blk j (by rw[hpl];rfl)with h|h
    ·exact d j hj h
    ·have h:=aK.part_isB.1 h
     cases pl with
     |val _=>exact h
     |mem b0 o0=>cases h;exact ho.1 (s1 _ hj)
   have h1':Own F2 w' a m.fst S1 c1 x.1:=(h1.congr (fun j hj=>hF j (.inl hj) (fun e=>hkF (e▸hj)))
    (fun j hj=>hF j (.inr ⟨s1 j hj,fun hh=>d j hj (f.sub j hh)⟩) (hk1 j hj))).mono hFF (fun _ h=>h)
   refine⟨c1++cs2,?_,c1,cs2,S1,_,rfl,?_,?_,?_,e2▸h1',e1▸hown2⟩
   ·cases pl with
    |val cs0=>
     have e1:cs0=c1++c2:=ho
     have e2:seg cs0 a.size b.size=cs2:=hok
     show cs0=c1++cs2
     rw[<-e2,e1,bL _ _ _ _ l1 l2]
    |mem b0 o0=>
     obtain⟨g1,g2,row',T',g3,g4,g5⟩:=hok;obtain⟨q1,q2,row,T,q3,q4,q5⟩:=ho;refine⟨?_,fun h=>(hF2 _ h).2 rfl,row',T',g3,?_⟩
     ·rintro (⟨e1,_⟩|e1)
      ·exact q1 e1
      ·exact(hS _ e1).2.2.2 rfl
     by_cases hbk:b0=k
     ·subst hbk
      obtain⟨jJ,r1,r2,r3,r4,r5⟩:=hu.other q3;rw[g3]at r1;injection r1 with r1;injection r1 with r1 r6;subst r1;have hrg:=f.rng b0 off (o0+a.size) hpl rfl;simp only[Ty.size]at q4⊢;refine⟨by omega,?_⟩;rw[oH _ _ _ _ (by simpa using by omega),g5]
      congr 1
      rw[r4 _ _ (by omega) (by omega)];have:=bP c1 c2 a.size l1;rw[<-q5]at this;simp only[Ty.size]at this;rw[dV _ _ _ _ _ (by omega)]at this;exact this
     ·have r1:=hB b0 rfl hbk
      rw[q3,g3]at r1;injection r1 with r1;injection r1 with r1 r6;subst r1;simp only[Ty.size]at q4 q5⊢;refine⟨q4,?_⟩;rw[oH _ _ _ _ (by simpa using q4),g5]
      congr 1
      have:=bP c1 c2 a.size l1
      rw[<-q5]at this;rw[dV _ _ _ _ _ (by omega)]at this;exact this
   ·intro j hj;exact .inl ⟨s1 j hj,fun hh=>d j hj (f.sub j hh)⟩
   ·rintro j (⟨e1,e2⟩|e1)
    ·exact .inl ⟨s2 j e1,e2⟩
    ·exact .inr e1
   ·rintro j hj (⟨e1,e2⟩|e1)
    ·exact d j hj e1
    ·exact(hS j e1).1 ⟨s1 j hj,fun hh=>d j hj (f.sub j hh)⟩
 | .idx i::p,.slice e,.own me,S,pl,cs,xs,σ,y,μ,hd,h,ho,hg,hm,hr=>by
  obtain⟨ao,cap,rfl,hc,hl,h⟩:=h;obtain⟨hi,hr⟩:=hr;rcases h with⟨_,h⟩|⟨b1,off1,row,T,Si,rfl,hb,hrow,hsz,s,nb,d,he⟩
  ·omega
  have hin:(i+1)*e.size<=cap*e.size:=Nat.mul_le_mul_right _ (by omega)
  rw[Nat.add_mul,Nat.one_mul]at hin;obtain⟨pl',cs',S',f⟩:=focus p (pl:= .mem b1 (off1+i*e.size)) (fun b hb=>hd b (s i b hb)) (Own.list_get he hi)
   ⟨nb i,hd _ hb,row,T,hrow,by omega,rfl⟩ hg hm hr
  refine⟨pl',cs',S',?_,f.ok,f.own,fun b hb=>s i b (f.sub b hb),?_,?_,?_⟩
  ·have hrd:pl.read w 1=_:=ho.read
   simp only[loc,hrd];rw[if_pos hi];exact f.loc
  ·intro k hk
   rcases f.blk k hk with h|h
   ·exact .inl (s i k h)
   ·cases h;exact .inl hb
  ·intro k off o0 e1 e2
   exfalso
   subst e2;rcases f.blk k (by rw[e1];rfl)with h|h
   ·exact ho.1 (s i k h)
   ·cases h;exact ho.1 hb
  ·intro F2 w' k off S'' c' μ' m' y' x' hpl hFF hF2 hF hB hu hown hS hmm hx
   simp only[eM,Option.map_eq_some_iff]at hx;obtain⟨z,hz,rfl⟩:=hx;obtain⟨rfl,rfl⟩:μ'=μ/\m'= .own me:=by
    rcases hmm with h|h
    ·exact h
    ·simp[gC]at h
   have nS':¬S' b1:=fun h=>nb i (f.sub _ h)
   have hkS:S k:=by
    rcases f.blk k (by rw[hpl];rfl)with h|h
    ·exact s i k h
    ·cases h;exact hb
   have hkF:¬F k:=hd k hkS
   have hk1:k=b1∨Si i k:=by
    rcases f.blk k (by rw[hpl];rfl)with h|h
    ·exact .inr h
    ·cases h;exact .inl rfl
   obtain⟨cs2,hok,hown2⟩:=f.plug F2 w' k off S'' c' μ' me y' z hpl hFF (fun j hj=>⟨fun h=>(hF2 j hj).1 (s i j h),fun h=>by cases h;exact(hF2 _ hj).1 hb⟩) (fun j hj hne=>hF j (hj.imp id fun hj=>⟨s i j hj.1,hj.2⟩) hne)
    (fun j hj hne=>by cases hj;exact hF b1 (.inr ⟨hb,nS'⟩) hne) hu hown
    (fun j hj=>⟨fun hh=>(hS j hj).1 ⟨s i j hh.1,hh.2⟩,(hS j hj).2.1,(hS j hj).2.2.1,fun hh=>by cases hh;exact(hS _ hj).1 ⟨hb,nS'⟩⟩) (.inl ⟨rfl,rfl⟩) hz
   obtain⟨g1,g2,row',T',g3,g4,g5⟩:=hok;have hrow':row'.size=row.size/\T'=T/\∀j,j≠i->j<cap->seg row'.toList (off1+j*e.size) e.size=seg row.toList (off1+j*e.size) e.size:=by
    by_cases hbk:b1=k
    ·subst hbk
     obtain⟨jJ,r1,r2,r3,r4,r5⟩:=hu.other hrow;rw[g3]at r1;injection r1 with r1;injection r1 with r1 r6;subst r1;have hrg:=f.rng b1 off (off1+i*e.size) hpl rfl;refine⟨r2,r6,fun j hj hjc=> ?_⟩
     have hjn:(j+1)*e.size<=cap*e.size:=Nat.mul_le_mul_right _ (by omega)
     rw[Nat.add_mul,Nat.one_mul]at hjn;refine r4 _ _ (by omega) ?_;rcases Nat.lt_or_gt_of_ne hj with h|h
     ·have:(j+1)*e.size<=i*e.size:=Nat.mul_le_mul_right _ (by omega)
      rw[Nat.add_mul,Nat.one_mul]at this;omega
     ·have:(i+1)*e.size<=j*e.size:=Nat.mul_le_mul_right _ (by omega)
      rw[Nat.add_mul,Nat.one_mul]at this;omega
    ·have r1:=hF b1 (.inr ⟨hb,nS'⟩) hbk
     rw[hrow,g3]at r1;injection r1 with r1;injection r1 with r1 r6;subst r1;subst r6;exact⟨rfl,rfl,fun _ _ _=>rfl⟩
   obtain⟨z1,rfl,z2⟩:=hrow';refine⟨[.slice (some ⟨b1,off1,none⟩) xs.length cap],?_,some ⟨b1,off1,none⟩,cap,by simp,by simpa using hc,by simpa using hl,.inr ⟨b1,off1,row',T',fun j=>if j=i then(fun k=>(Si i k/\¬S' k)∨S'' k)else Si j,rfl,.inl ⟨hb,nS'⟩,g3,by omega,?_,?_,?_,?_⟩⟩
   ·cases pl with
    |val cs0=>exact ho
    |mem b0 o0=>
     obtain⟨q1,q2,row0,T0,q3,q4,q5⟩:=ho;refine⟨?_,fun h=>(hF2 _ h).2 rfl,row0,T0,(hB b0 rfl (fun e=>q1 (e▸hkS))).trans q3,q4,q5⟩
     rintro (⟨e1,_⟩|e1)
     ·exact q1 e1
     ·exact(hS _ e1).2.2.2 rfl
   ·intro j k' hk'
    by_cases hj:j=i
    ·simp only[hj,if_true]at hk'
     rcases hk' with⟨e1,e2⟩|e1
     ·exact .inl ⟨s i _ e1,e2⟩
     ·exact .inr e1
    ·simp only[hj,if_false]at hk'
     exact .inl ⟨s j _ hk',fun hh=>d i j (Ne.symm hj) k' (f.sub _ hh) hk'⟩
   ·intro j hj'
    by_cases hj:j=i
    ·simp only[hj,if_true]at hj'
     rcases hj' with⟨e1,e2⟩|e1
     ·exact nb i e1
     ·exact(hS _ e1).1 ⟨hb,nS'⟩
    ·simp only[hj,if_false]at hj'
     exact nb j hj'
   ·intro j1 j2 hne k' h1 h2
    by_cases e1:j1=i
    ·have e2:j2≠i:=fun h=>hne (e1.trans h.symm)
     simp only[e1,if_true]at h1;simp only[e2,if_false]at h2;rcases h1 with⟨g,_⟩|g
     ·exact d i j2 (Ne.symm e2) k' g h2
     ·exact(hS _ g).1 ⟨s j2 _ h2,fun hh=>d i j2 (Ne.symm e2) k' (f.sub _ hh) h2⟩
    ·simp only[e1,if_false]at h1
     by_cases e2:j2=i
     ·simp only[e2,if_true]at h2
      rcases h2 with⟨g,_⟩|g
      ·exact d i j1 (Ne.symm e1) k' g h1
      ·exact(hS _ g).1 ⟨s j1 _ h1,fun hh=>d i j1 (Ne.symm e1) k' (f.sub _ hh) h1⟩
     ·simp only[e2,if_false]at h2
      exact d j1 j2 hne k' h1 h2
   ·intro j v hv
    by_cases hj:j=i
    ·subst hj
     simp only[if_true];rw[List.getElem?_set_self hi]at hv;injection hv with hv;subst hv;rw[g5];exact hown2
    ·simp only[hj,if_false]
     rw[List.getElem?_set_ne (Ne.symm hj)]at hv;have hjl:j<xs.length:=by
      rcases Nat.lt_or_ge j xs.length with h|h
      ·exact h
      ·rw[List.getElem?_eq_none h]at hv;exact absurd hv (by simp)
     rw[z2 j hj (by omega)];refine((he j v hv).congr (fun k' hk'=>hF k' (.inl hk') (fun e=>hkF (e▸hk'))) (fun k' hk'=>hF k' (.inr ⟨s j _ hk',fun hh=>d i j (Ne.symm hj) k' (f.sub _ hh) hk'⟩) ?_)).mono hFF (fun _ h=>h)
     intro e;subst e;rcases hk1 with h|h
     ·subst h;exact nb j hk'
     ·exact d i j (Ne.symm hj) _ h hk'
 | .idx i::p,.arr n e,m,S,pl,cs,xs,σ,y,μ,hd,h,ho,hg,hm,hr=>by
  obtain⟨hn,hlen,Si,s,d,he⟩:=h;obtain⟨hi,hr⟩:=hr;have hin:(i+1)*e.size<=n*e.size:=Nat.mul_le_mul_right _ (by omega);rw[Nat.add_mul,Nat.one_mul]at hin;obtain⟨pl',cs',S',f⟩:=focus p (pl:=pl.part (i*e.size) e.size) (fun b hb=>hd b (s i b hb)) (Own.list_get he hi)
   (ho.part (s i) (by simpa[Ty.size]using hin) rfl) hg hm hr
  refine⟨pl',cs',S',?_,f.ok,f.own,fun b hb=>s i b (f.sub b hb),?_,?_,?_⟩
  ·simp only[loc];rw[if_pos (by omega)];exact f.loc
  ·intro k hk
   rcases f.blk k hk with h|h
   ·exact .inl (s i k h)
   ·exact .inr (aK.part_isB.1 h)
  ·intro k off o0 e1 e2
   have:=f.rng k off (o0+i*e.size) e1 (by rw[e2];simp[aK.part])
   simp[Ty.size];omega
  ·intro F2 w' k off S'' c' μ' m' y' x' hpl hFF hF2 hF hB hu hown hS hmm hx
   simp only[eM,Option.map_eq_some_iff]at hx;obtain⟨z,hz,rfl⟩:=hx;obtain⟨rfl,rfl⟩:μ'=μ/\m'=m:=by
    rcases hmm with h|h
    ·exact h
    ·simp[gC]at h
   obtain⟨cs2,hok,hown2⟩:=f.plug F2 w' k off S'' c' μ' m'.elem y' z hpl hFF (fun j hj=>⟨fun h=>(hF2 j hj).1 (s i j h),fun h=>(hF2 j hj).2 (aK.part_isB.1 h)⟩) (fun j hj hne=>hF j (hj.imp id fun hj=>⟨s i j hj.1,hj.2⟩) hne)
    (fun j hj hne=>hB j (aK.part_isB.1 hj) hne) hu hown
    (fun j hj=>⟨fun hh=>(hS j hj).1 ⟨s i j hh.1,hh.2⟩,(hS j hj).2.1,(hS j hj).2.2.1,fun hh=>(hS j hj).2.2.2 (aK.part_isB.1 hh)⟩) (.inl ⟨rfl,rfl⟩) hz
   have l2:=hown2.len
   have hkF:¬F k:=by have:=f.ok;rw[hpl]at this;exact this.2.1
   have hkj:∀j,j≠i->¬Si j k:=by
    intro j hj hh;rcases f.blk k (by rw[hpl];rfl)with h|h
    ·exact d i j (Ne.symm hj) k h hh
    ·have h:=aK.part_isB.1 h
     cases pl with
     |val _=>exact h
     |mem b0 o0=>cases h;exact ho.1 (s j _ hh)
   have hcs:∃cs3,fM F2 (fun k=>(S k/\¬S' k)∨S'' k) w' pl (n*e.size) cs3/\cs3.length=n*e.size/\seg cs3 (i*e.size) e.size=cs2/\
     ∀j,j≠i->j<n->seg cs3 (j*e.size) e.size=seg cs (j*e.size) e.size:=by
    cases pl with
    |val cs0=>
     have e1:cs0=cs:=ho
     have e2:seg cs0 (i*e.size) e.size=cs2:=hok
     exact⟨cs,e1,hlen,e1▸e2,fun _ _ _=>rfl⟩
    |mem b0 o0=>
     obtain⟨g1,g2,row',T',g3,g4,g5⟩:=hok;obtain⟨q1,q2,row,T,q3,q4,q5⟩:=ho;simp only[Ty.size]at q4 q5;have hsz:row'.size=row.size/\∀j,j≠i->j<n->seg row'.toList (o0+j*e.size) e.size=seg row.toList (o0+j*e.size) e.size:=by
      by_cases hbk:b0=k
      ·subst hbk
       obtain⟨jJ,r1,r2,r3,r4,r5⟩:=hu.other q3;rw[g3]at r1;injection r1 with r1;injection r1 with r1 r6;subst r1;have hrg:=f.rng b0 off (o0+i*e.size) hpl rfl;refine⟨r2,fun j hj hjc=> ?_⟩
       have hjn:(j+1)*e.size<=n*e.size:=Nat.mul_le_mul_right _ (by omega)
       rw[Nat.add_mul,Nat.one_mul]at hjn;refine r4 _ _ (by omega) ?_;rcases Nat.lt_or_gt_of_ne hj with h|h
       ·have:(j+1)*e.size<=i*e.size:=Nat.mul_le_mul_right _ (by omega)
        rw[Nat.add_mul,Nat.one_mul]at this;omega
       ·have:(i+1)*e.size<=j*e.size:=Nat.mul_le_mul_right _ (by omega)
        rw[Nat.add_mul,Nat.one_mul]at this;omega
      ·have r1:=hB b0 rfl hbk
       rw[q3,g3]at r1;injection r1 with r1;injection r1 with r1 r6;subst r1;exact⟨rfl,fun _ _ _=>rfl⟩
     refine⟨seg row'.toList o0 (n*e.size),⟨?_,fun h=>(hF2 _ h).2 rfl,row',T',g3,by omega,rfl⟩,?_,?_,?_⟩
     ·rintro (⟨e1,_⟩|e1)
      ·exact q1 e1
      ·exact(hS _ e1).2.2.2 rfl
     ·apply lT;simp;omega
     ·rw[dV _ _ _ _ _ (by omega)];exact g5
     ·intro j hj hjn
      have hjn':(j+1)*e.size<=n*e.size:=Nat.mul_le_mul_right _ (by omega)
      rw[Nat.add_mul,Nat.one_mul]at hjn';rw[dV _ _ _ _ _ (by omega),hsz.2 j hj hjn,<-q5,dV _ _ _ _ _ (by omega)]
   obtain⟨cs3,p1,p2,p3,p4⟩:=hcs;refine⟨cs3,p1,by simpa using hn,p2,fun j=>if j=i then(fun k=>(Si i k/\¬S' k)∨S'' k)else Si j,?_,?_,?_⟩
   ·intro j k' hk'
    by_cases hj:j=i
    ·simp only[hj,if_true]at hk'
     rcases hk' with⟨e1,e2⟩|e1
     ·exact .inl ⟨s i _ e1,e2⟩
     ·exact .inr e1
    ·simp only[hj,if_false]at hk'
     exact .inl ⟨s j _ hk',fun hh=>d i j (Ne.symm hj) k' (f.sub _ hh) hk'⟩
   ·intro j1 j2 hne k' h1 h2
    by_cases e1:j1=i
    ·have e2:j2≠i:=fun h=>hne (e1.trans h.symm)
     simp only[e1,if_true]at h1;simp only[e2,if_false]at h2;rcases h1 with⟨g,_⟩|g
     ·exact d i j2 (Ne.symm e2) k' g h2
     ·exact(hS _ g).1 ⟨s j2 _ h2,fun hh=>d i j2 (Ne.symm e2) k' (f.sub _ hh) h2⟩
    ·simp only[e1,if_false]at h1
     by_cases e2:j2=i
     ·simp only[e2,if_true]at h2
      rcases h2 with⟨g,_⟩|g
      ·exact d i j1 (Ne.symm e1) k' g h1
      ·exact(hS _ g).1 ⟨s j1 _ h1,fun hh=>d i j1 (Ne.symm e1) k' (f.sub _ hh) h1⟩
     ·simp only[e2,if_false]at h2
      exact d j1 j2 hne k' h1 h2
   ·intro j v hv
    by_cases hj:j=i
    ·subst hj
     simp only[if_true];rw[List.getElem?_set_self hi]at hv;injection hv with hv;subst hv;rw[p3];exact hown2
    ·simp only[hj,if_false]
     rw[List.getElem?_set_ne (Ne.symm hj)]at hv;have hjl:j<List.length xs:=by
      rcases Nat.lt_or_ge j (List.length xs)with h|h
      ·exact h
      ·rw[List.getElem?_eq_none h]at hv;exact absurd hv (by simp)
     rw[p4 j hj (by omega)];exact((he j v hv).congr (fun k' hk'=>hF k' (.inl hk') (fun e=>hkF (e▸hk'))) (fun k' hk'=>hF k' (.inr ⟨s j _ hk',fun hh=>d i j (Ne.symm hj) k' (f.sub _ hh) hk'⟩) (fun e=>hkj j hj (e▸hk')))).mono hFF (fun _ h=>h)
 | .fst::_,.int _,_,_,_,_,_,_,_,_,_,_,_,hg,_,_=>by simp[aN]at hg
 | .fst::_,.bool,_,_,_,_,_,_,_,_,_,_,_,hg,_,_=>by simp[aN]at hg
 | .fst::_,.str,_,_,_,_,_,_,_,_,_,_,_,hg,_,_=>by simp[aN]at hg
 | .fst::_,.abs _,_,_,_,_,_,_,_,_,_,_,_,hg,_,_=>by simp[aN]at hg
 | .fst::_,.unit,_,_,_,_,_,_,_,_,_,_,_,hg,_,_=>by simp[aN]at hg
 | .fst::_,.slice _,_,_,_,_,_,_,_,_,_,_,_,hg,_,_=>by simp[aN]at hg
 | .fst::_,.arr _ _,_,_,_,_,_,_,_,_,_,_,_,hg,_,_=>by simp[aN]at hg
 | .snd::_,.int _,_,_,_,_,_,_,_,_,_,_,_,hg,_,_=>by simp[aN]at hg
 | .snd::_,.bool,_,_,_,_,_,_,_,_,_,_,_,hg,_,_=>by simp[aN]at hg
 | .snd::_,.str,_,_,_,_,_,_,_,_,_,_,_,hg,_,_=>by simp[aN]at hg
 | .snd::_,.abs _,_,_,_,_,_,_,_,_,_,_,_,hg,_,_=>by simp[aN]at hg
 | .snd::_,.unit,_,_,_,_,_,_,_,_,_,_,_,hg,_,_=>by simp[aN]at hg
 | .snd::_,.slice _,_,_,_,_,_,_,_,_,_,_,_,hg,_,_=>by simp[aN]at hg
 | .snd::_,.arr _ _,_,_,_,_,_,_,_,_,_,_,_,hg,_,_=>by simp[aN]at hg
 | .idx _::_,.int _,_,_,_,_,_,_,_,_,_,_,_,hg,_,_=>by simp[aN]at hg
 | .idx _::_,.bool,_,_,_,_,_,_,_,_,_,_,_,hg,_,_=>by simp[aN]at hg
 | .idx _::_,.str,_,_,_,_,_,_,_,_,_,_,_,hg,_,_=>by simp[aN]at hg
 | .idx _::_,.abs _,_,_,_,_,_,_,_,_,_,_,_,hg,_,_=>by simp[aN]at hg
 | .idx _::_,.unit,_,_,_,_,_,_,_,_,_,_,_,hg,_,_=>by simp[aN]at hg
 | .idx _::_,.prod _ _,_,_,_,_,_,_,_,_,_,_,_,hg,_,_=>by simp[aN]at hg
 | .idx _::_,.slice _,.shr,_,_,_,_,_,_,_,_,_,_,_,hm,_=>by simp[bI]at hm
 | .idx _::_,.slice _,.pair _ _,_,_,_,_,_,_,_,_,_,_,_,hm,_=>by simp[bI]at hm

end Go.Lf
namespace Go.Lf

theorem aK.read_part{w:World}{pl:aK}{n o k:Nat}{cs:List Value}(h:pl.read w n=some cs)(hk:o+k<=n):
  (pl.part o k).read w k=some (seg cs o k):=by
 cases pl with
 |val cs'=>simp only[aK.read,Option.some.injEq]at h;subst h;rfl
 |mem b off=>
  simp only[aK.read,aK.part]at h⊢;split at h
  ·rename_i row T fr hr
   by_cases ho:off+n<=row.size
   ·rw[if_pos ho]at h
    injection h with h;rw[if_pos (by omega),<-h,dV _ _ _ _ _ hk]
   ·rw[if_neg ho]at h;cases h
  ·cases h

theorem cQ{F:aA}{w w':World}:∀(p:cM) {τ:Ty} {m:Md} {S:aA} {pl:aK} {cs:List Value} {x:τ.den} {μ:Md},
  Own F w τ m S cs x->pl.read w τ.size=some cs->pl.read w' τ.size=some cs->bI p τ m=some μ->inR p τ x->(∀b,S b->w'.heap[b]? =w.heap[b]?)->
  loc w' p τ pl=loc w p τ pl
 | [],_,_,_,_,_,_,_,_,_,_,_,_,_=>rfl
 | .fst::p,.prod a b,m,S,pl,cs,x,μ,h,h1,h2,hm,hr,hS=>by
  obtain⟨c1,c2,S1,S2,rfl,s1,s2,d,o1,o2⟩:=h;have l1:=o1.len;have e:=bP c1 c2 _ l1;exact cQ p o1 (e▸aK.read_part h1 (by simp[Ty.size])) (e▸aK.read_part h2 (by simp[Ty.size])) hm hr (fun b hb=>hS b (s1 b hb))
 | .snd::p,.prod a b,m,S,pl,cs,x,μ,h,h1,h2,hm,hr,hS=>by
  obtain⟨c1,c2,S1,S2,rfl,s1,s2,d,o1,o2⟩:=h;have l1:=o1.len;have e:=bL c1 c2 _ _ l1 o2.len;exact cQ p o2 (e▸aK.read_part h1 (by simp[Ty.size])) (e▸aK.read_part h2 (by simp[Ty.size])) hm hr (fun b hb=>hS b (s2 b hb))
 | .idx i::p,.slice e,.own me,S,pl,cs,xs,μ,h,h1,h2,hm,hr,hS=>by
  obtain⟨ao,cap,rfl,hc,hl,h⟩:=h;obtain⟨hi,hr⟩:=hr;rcases h with⟨_,h⟩|⟨b1,off1,row,T,Si,rfl,hb,hrow,hsz,s,nb,d,he⟩
  ·omega
  have hin:(i+1)*e.size<=cap*e.size:=Nat.mul_le_mul_right _ (by omega)
  rw[Nat.add_mul,Nat.one_mul]at hin;have hrow':=(hS b1 hb).trans hrow;have r1:pl.read w 1=_:=h1;have r2:pl.read w' 1=_:=h2;simp only[loc,r1,r2];rw[if_pos hi,if_pos hi];refine cQ p (Own.list_get he hi) ?_ ?_ hm hr (fun b hb=>hS b (s i b hb))
  ·simp only[aK.read,hrow];rw[if_pos (by omega)]
  ·simp only[aK.read,hrow'];rw[if_pos (by omega)]
 | .idx i::p,.arr n e,m,S,pl,cs,xs,μ,h,h1,h2,hm,hr,hS=>by
  obtain⟨hn,hlen,Si,s,d,he⟩:=h;obtain⟨hi,hr⟩:=hr;have hin:(i+1)*e.size<=n*e.size:=Nat.mul_le_mul_right _ (by omega);rw[Nat.add_mul,Nat.one_mul]at hin;simp only[loc];rw[if_pos (by omega),if_pos (by omega)];exact cQ p (Own.list_get he hi) (aK.read_part h1 (by simpa[Ty.size]using hin)) (aK.read_part h2 (by simpa[Ty.size]using hin)) hm hr (fun b hb=>hS b (s i b hb))
 | .fst::_,.int _,_,_,_,_,_,_,_,_,_,hm,_,_=>by simp[bI]at hm
 | .fst::_,.bool,_,_,_,_,_,_,_,_,_,hm,_,_=>by simp[bI]at hm
 | .fst::_,.str,_,_,_,_,_,_,_,_,_,hm,_,_=>by simp[bI]at hm
 | .fst::_,.abs _,_,_,_,_,_,_,_,_,_,hm,_,_=>by simp[bI]at hm
 | .fst::_,.unit,_,_,_,_,_,_,_,_,_,hm,_,_=>by simp[bI]at hm
 | .fst::_,.slice _,_,_,_,_,_,_,_,_,_,hm,_,_=>by simp[bI]at hm
 | .fst::_,.arr _ _,_,_,_,_,_,_,_,_,_,hm,_,_=>by simp[bI]at hm
 | .snd::_,.int _,_,_,_,_,_,_,_,_,_,hm,_,_=>by simp[bI]at hm
 | .snd::_,.bool,_,_,_,_,_,_,_,_,_,hm,_,_=>by simp[bI]at hm
 | .snd::_,.str,_,_,_,_,_,_,_,_,_,hm,_,_=>by simp[bI]at hm
 | .snd::_,.abs _,_,_,_,_,_,_,_,_,_,hm,_,_=>by simp[bI]at hm
 | .snd::_,.unit,_,_,_,_,_,_,_,_,_,hm,_,_=>by simp[bI]at hm
 | .snd::_,.slice _,_,_,_,_,_,_,_,_,_,hm,_,_=>by simp[bI]at hm
 | .snd::_,.arr _ _,_,_,_,_,_,_,_,_,_,hm,_,_=>by simp[bI]at hm
 | .idx _::_,.int _,_,_,_,_,_,_,_,_,_,hm,_,_=>by simp[bI]at hm
 | .idx _::_,.bool,_,_,_,_,_,_,_,_,_,hm,_,_=>by simp[bI]at hm
 | .idx _::_,.str,_,_,_,_,_,_,_,_,_,hm,_,_=>by simp[bI]at hm
 | .idx _::_,.abs _,_,_,_,_,_,_,_,_,_,hm,_,_=>by simp[bI]at hm
 | .idx _::_,.unit,_,_,_,_,_,_,_,_,_,hm,_,_=>by simp[bI]at hm
 | .idx _::_,.prod _ _,_,_,_,_,_,_,_,_,_,hm,_,_=>by simp[bI]at hm
 | .idx _::_,.slice _,.shr,_,_,_,_,_,_,_,_,hm,_,_=>by simp[bI]at hm
 | .idx _::_,.slice _,.pair _ _,_,_,_,_,_,_,_,_,hm,_,_=>by simp[bI]at hm

theorem fM.congr{F S:aA}{w w':World}{pl:aK}{n:Nat}{cs:List Value}(h:fM F S w pl n cs)(hb:∀k,pl.isB k->w'.heap[k]? =w.heap[k]?):fM F S w' pl n cs:=by
 cases pl with
 |val _=>exact h
 |mem b off=>obtain⟨h1,h2,row,T,h3,h4⟩:=h;exact⟨h1,h2,row,T,(hb b rfl).trans h3,h4⟩

structure sD(F:aA)(w:World)(τ:Ty)(m:Md)(S:aA)(pl:aK)(x:τ.den)(p:cM)(σ:Ty)(μ:Md)(pl':aK)(S':aA):Prop where
 loc:loc w p τ pl=some (σ,pl')
 sub:Sub S' S
 blk:∀b,pl'.isB b->S b∨pl.isB b
 out:∀b,pl'.isB b->¬S' b
 plug:∀(F2:aA) (w':World) (b off:Nat) (S'':aA) (c':List Value) (μ' m':Md) (y':σ.den) (x':τ.den),pl'= .mem b off->
  Sub F F2->(∀k,F2 k->¬S k/\¬pl.isB k)->
  (∀k,F k∨(S k/\¬S' k)->k≠b->w'.heap[k]? =w.heap[k]?)->(∀k,pl.isB k->k≠b->w'.heap[k]? =w.heap[k]?)->
  Upd w w' b off σ.size c'->Own F2 w' σ μ' S'' c' y'->(∀k,S'' k->¬(S k/\¬S' k)/\¬F k/\k≠b/\¬pl.isB k)->
  (μ'=μ/\m'=m∨gC p τ m μ'=some m')->eM p τ x σ y'=some x'->
  ∃cs2,fM F2 (fun k=>(S k/\¬S' k)∨S'' k) w' pl τ.size cs2/\Own F2 w' τ m' (fun k=>(S k/\¬S' k)∨S'' k) cs2 x'

theorem vU.toPlug{F:aA}{w:World}{τ:Ty}{m:Md}{S:aA}{pl:aK}{x:τ.den}{p:cM}{σ:Ty}{y:σ.den}{μ:Md}{pl':aK}{cs':List Value}{S':aA}
  (f:vU F w τ m S pl x p σ y μ pl' cs' S'):sD F w τ m S pl x p σ μ pl' S':=by
 refine⟨f.loc,f.sub,f.blk,?_,f.plug⟩
 intro b hb
 have h:=f.ok
 cases pl' with
 |val _=>exact hb.elim
 |mem b0 off=>cases hb;exact h.1

theorem sD.congr{F:aA}{w w':World}{τ:Ty}{m:Md}{S:aA}{pl:aK}{x:τ.den}{p:cM}{σ:Ty}{μ:Md}{pl':aK}{S':aA}
  (f:sD F w τ m S pl x p σ μ pl' S') (hl:Go.Lf.loc w' p τ pl=Go.Lf.loc w p τ pl)
  (hF:∀b,F b->w'.heap[b]? =w.heap[b]?) (hS:∀b,S b->¬S' b->w'.heap[b]? =w.heap[b]?) (hB:∀b,pl.isB b->w'.heap[b]? =w.heap[b]?):
  sD F w' τ m S pl x p σ μ pl' S':=by
 have hB':∀k,pl'.isB k->w'.heap[k]? =w.heap[k]? :=fun k hk=>(f.blk k hk).elim (fun h=>hS k h (f.out k hk)) (hB k)
 refine⟨hl.trans f.loc,f.sub,f.blk,f.out,?_⟩
 intro F2 w2 b off S'' c' μ' m' y' x' hpl e1 e2 h1 h2 hu
 refine f.plug F2 w2 b off S'' c' μ' m' y' x' hpl e1 e2 (fun k hk hne=>(h1 k hk hne).trans (hk.elim (hF k) fun hk=>hS k hk.1 hk.2)) (fun k hk hne=>(h2 k hk hne).trans (hB k hk)) ?_
 obtain⟨g1,row,row',T,g2,g3⟩:=hu
 exact⟨g1,row,row',T,by rw[<-hB' b (by rw[hpl];rfl)];exact g2,g3⟩

theorem sD.monoF{F F':aA}{w:World}{τ:Ty}{m:Md}{S:aA}{pl:aK}{x:τ.den}{p:cM}{σ:Ty}{μ:Md}{pl':aK}{S':aA}
  (f:sD F w τ m S pl x p σ μ pl' S') (hF:Sub F F') (hS:∀b,F' b->¬S b/\¬pl.isB b):sD F' w τ m S pl x p σ μ pl' S':=by
 refine⟨f.loc,f.sub,f.blk,f.out,?_⟩
 intro F2 w2 b off S'' c' μ' m' y' x' hpl e1 e2 h1 h2 hu ho h3
 exact f.plug F2 w2 b off S'' c' μ' m' y' x' hpl (fun b hb=>e1 b (hF b hb)) e2 (fun k hk hne=>h1 k (hk.imp (hF k) id) hne) h2 hu ho
   (fun k hk=>⟨(h3 k hk).1,fun h=>(h3 k hk).2.1 (hF k h),(h3 k hk).2.2⟩)

def aT(F:aA)(w:World)(τ:Ty)(m:Md)(S:aA)(v:Value)(x:τ.den):Prop:=∃cs,v=bH τ cs/\Own F w τ m S cs x

theorem aT.congr{F S:aA}{w w':World}{τ:Ty}{m:Md}{v:Value}{x:τ.den}(h:aT F w τ m S v x)(hF:∀b,F b->w'.heap[b]? =w.heap[b]?)
  (hS:∀b,S b->w'.heap[b]? =w.heap[b]?):aT F w' τ m S v x:=let⟨cs,h1,h2⟩:=h;⟨cs,h1,h2.congr hF hS⟩
theorem aT.mono{F F' S S':aA}{w:World}{τ:Ty}{m:Md}{v:Value}{x:τ.den}(h:aT F w τ m S v x)(hF:Sub F F')(hS:Sub S S'):aT F' w τ m S' v x:=
 let⟨cs,h1,h2⟩:=h;⟨cs,h1,h2.mono hF hS⟩

@[reducible] def sX:List Ty->Type
 | []=>Unit
 |t::ts=>t.den×sX ts

structure Fun(A:List Ty)(R:Ty) where
 pre:sX A->Prop
 fn:sX A->R.den

def mM(F:aA)(w:World):(A:List Ty)->List Value->sX A->Prop
 | [],vs,_=>vs=[]
 |t::ts,vs,x=>∃v r,vs=v::r/\aT F w t .shr none' v x.1/\mM F w ts r x.2

def dJ(F:aA)(w:World):(τ:Ty)->Md->aA->List Value->τ.den->Prop
 | .unit,_,_,vs,_=>vs=[]
 | .prod a b,m,S,vs,x=>∃v r S1 S2,vs=v::r/\Sub S1 S/\Sub S2 S/\Dis S1 S2/\aT F w a m.fst S1 v x.1/\dJ F w b m.snd S2 r x.2
 |_,_,_,_,_=>False

theorem dJ.congr{F:aA}{w w':World}(hF:∀b,F b->w'.heap[b]? =w.heap[b]?):
  ∀ {τ:Ty} {m:Md} {S:aA} {vs:List Value} {x:τ.den},(∀b,S b->w'.heap[b]? =w.heap[b]?)->dJ F w τ m S vs x->dJ F w' τ m S vs x
 | .unit,_,_,_,_,_,h=>h
 | .prod a b,m,S,vs,x,hS,h=>by
  obtain⟨v,r,S1,S2,h0,s1,s2,d,h1,h2⟩:=h;exact⟨v,r,S1,S2,h0,s1,s2,d,h1.congr hF (fun b hb=>hS b (s1 b hb)),dJ.congr hF (fun b hb=>hS b (s2 b hb)) h2⟩
 | .int _,_,_,_,_,_,h=>h.elim
 | .bool,_,_,_,_,_,h=>h.elim
 | .str,_,_,_,_,_,h=>h.elim
 | .abs _,_,_,_,_,_,h=>h.elim
 | .slice _,_,_,_,_,_,h=>h.elim
 | .arr _ _,_,_,_,_,_,h=>h.elim

theorem dJ.shr{F:aA}{w:World}:∀ {τ:Ty} {S:aA} {vs:List Value} {x:τ.den},dJ F w τ .shr S vs x->dJ F w τ .shr none' vs x
 | .unit,_,_,_,h=>h
 | .prod a b,S,vs,x,h=>by
  obtain⟨v,r,S1,S2,h0,s1,s2,d,⟨cs,h1,h2⟩,h3⟩:=h;exact⟨v,r,none',none',h0,fun _ h=>h,fun _ h=>h,fun _ h=>h.elim,⟨cs,h1,Own.shr h2⟩,dJ.shr h3⟩
 | .int _,_,_,_,h=>h.elim
 | .bool,_,_,_,h=>h.elim
 | .str,_,_,_,h=>h.elim
 | .abs _,_,_,_,h=>h.elim
 | .slice _,_,_,_,h=>h.elim
 | .arr _ _,_,_,_,h=>h.elim

theorem dJ.mono{F F':aA}{w:World}(hF:Sub F F'):
  ∀ {τ:Ty} {m:Md} {S S':aA} {vs:List Value} {x:τ.den},Sub S S'->dJ F w τ m S vs x->dJ F' w τ m S' vs x
 | .unit,_,_,_,_,_,_,h=>h
 | .prod a b,m,S,S',vs,x,hS,h=>by
  obtain⟨v,r,S1,S2,h0,s1,s2,d,h1,h2⟩:=h;exact⟨v,r,S1,S2,h0,fun b hb=>hS b (s1 b hb),fun b hb=>hS b (s2 b hb),d,h1.mono hF (fun _ h=>h),dJ.mono hF (fun _ h=>h) h2⟩
 | .int _,_,_,_,_,_,_,h=>h.elim
 | .bool,_,_,_,_,_,_,h=>h.elim
 | .str,_,_,_,_,_,_,h=>h.elim
 | .abs _,_,_,_,_,_,_,h=>h.elim
 | .slice _,_,_,_,_,_,_,h=>h.elim
 | .arr _ _,_,_,_,_,_,_,h=>h.elim

def RetV(F:aA)(w:World)(multi:Bool)(τ:Ty)(m:Md)(S:aA)(v:Value)(x:τ.den):Prop:=
 if multi then ∃vs,v= .tuple vs.toArray/\dJ F w τ m S vs x else aT F w τ m S v x

def mZ(F:aA)(w:World)(multi:Bool)(τ:Ty)(m:Md)(y:τ.den)(e:Ending)(w':World):Prop:=
 ∃v F' S,e= .returned v/\RowKit.Below w.heap.size w w'/\Sub F F'/\(∀b,F' b->¬F b->w.heap.size<=b)/\(∀b,F' b∨S b->b<w'.heap.size)/\
  (∀b,S b->w.heap.size<=b/\¬F' b)/\RetV F' w' multi τ m S v y

def fV(P:Program)(f:FuncId):Prop:=∀args w,(callFunc f args).run P w= .ok (.enter f args) w

def qO(P:Program)(F:aA)(w:World)(v:Value)(A:List Ty)(R:Ty)(g:Fun A R):Prop:=
 ∃f first cap,v= .func (.func f) first cap/\fV P f/\∀(w':World) (F':aA) vs xs,Sub F F'->(∀b,F' b->b<w'.heap.size)->(∀b,F b->w'.heap[b]? =w.heap[b]?)->
  mM F' w' A vs xs->g.pre xs->Calls P f (first++vs.toArray++cap) w' (mZ F' w' false R .shr (g.fn xs))

theorem qO.congr{P:Program}{F F':aA}{w w':World}{v:Value}{A:List Ty}{R:Ty}{g:Fun A R}(h:qO P F w v A R g)(hF:Sub F F')
  (hw:∀b,F b->w'.heap[b]? =w.heap[b]?):qO P F' w' v A R g:=by
 obtain⟨f,first,cap,h1,h2,h3⟩:=h
 exact⟨f,first,cap,h1,h2,fun w2 F2 vs xs s1 s2 s3 s4 s5=>h3 w2 F2 vs xs (fun b hb=>s1 b (hF b hb)) s2 (fun b hb=>(s3 b (hF b hb)).trans (hw b hb)) s4 s5⟩

def gV(F:aA)(w:World)(v:Value)(τ:Ty)(x:τ.den):Prop:=
 ∃b off row T fr,v= .pointer (some ⟨b,off,none⟩)/\F b/\w.heap[b]? =some (.cells row T fr)/\off+τ.size<=row.size/\Own F w τ .shr none' (seg row.toList off τ.size) x

theorem gV.congr{F F':aA}{w w':World}{v:Value}{τ:Ty}{x:τ.den}(h:gV F w v τ x)(hF:Sub F F')(hw:∀b,F b->w'.heap[b]? =w.heap[b]?):gV F' w' v τ x:=by
 obtain⟨b,off,row,T,fr,h1,h2,h3,h4,h5⟩:=h
 exact⟨b,off,row,T,fr,h1,hF b h2,(hw b h2).trans h3,h4,(h5.congr hw (fun _ h=>h.elim)).mono hF (fun _ h=>h)⟩

inductive Ent where
 |dead
 |shr (τ:Ty) (x:τ.den)
 |own (τ:Ty) (m:Md) (x:τ.den)
 |box (τ:Ty) (m:Md) (x:τ.den)
 |sub (r:Nat) (p:cM)
 |addr (r:Nat) (p:cM)
 |pend (r:Nat) (p:cM) (e:Ty) (me:Md) (x:List e.den)
 |rd (r:Nat) (τ:Ty) (x:τ.den)
 |raddr (r:Nat) (τ:Ty) (x:τ.den)
 |saddr (τ:Ty) (x:τ.den)
 |full (e:Ty) (x:List e.den)
 |nilS
 |fn (A:List Ty) (R:Ty) (g:Fun A R)
 |tup (τ:Ty) (m:Md) (x:τ.den)
 |pp (r:Nat)
 |nb (p q:Prop)
 |stup (τ:Ty) (x:τ.den)

abbrev St:=Nat->Ent

def Ent.isOwner:Ent->Bool
 | .own _ _ _=>true
 | .box _ _ _=>true
 | .tup _ _ _=>true
 |_=>false

def Ent.root:Ent->Option Nat
 | .sub r _=>some r
 | .addr r _=>some r
 | .pend r _ _ _ _=>some r
 | .rd r _ _=>some r
 | .raddr r _ _=>some r
 | .pp r=>some r
 |_=>none

def fH(F:aA)(w:World)(S:aA)(v:Value)(E:Ent)(τ:Ty)(m:Md)(x:τ.den)(pl:aK)(S0:aA)(cs:List Value):Prop:=
 (E= .own τ m x/\pl= .val cs/\S0=S/\v=bH τ cs∨
  E= .box τ m x/\∃b,pl= .mem b 0/\S0=(fun k=>S k/\k≠b)/\v= .pointer (some ⟨b,0,none⟩)/\S b)/\
 fM F S0 w pl τ.size cs/\Own F w τ m S0 cs x

def aF(P:Program)(F:aA)(w:World)(env:St)(V:Nat->Value)(S:Nat->aA)(t:Nat):Ent->Prop
 | .dead=>True
 | .shr τ x=>aT F w τ .shr none' (V t) x
 | .own τ m x=>∃pl S0 cs,fH F w (S t) (V t) (.own τ m x) τ m x pl S0 cs
 | .box τ m x=>∃pl S0 cs,fH F w (S t) (V t) (.box τ m x) τ m x pl S0 cs
 | .sub r p=>∃τ m x pl S0 cs σ μ pl' cs',fH F w (S r) (V r) (env r) τ m x pl S0 cs/\loc w p τ pl=some (σ,pl')/\pl'.read w σ.size=some cs'/\V t=bH σ cs'/\
   (aN p τ x).isSome/\bI p τ m=some μ/\inR p τ x
 | .addr r p=>∃τ m x pl S0 cs σ μ b off,fH F w (S r) (V r) (env r) τ m x pl S0 cs/\loc w p τ pl=some (σ,.mem b off)/\V t= .pointer (some ⟨b,off,none⟩)/\
   (aN p τ x).isSome/\bI p τ m=some μ/\inR p τ x
 | .pend r p e me x'=>∃τ m x pl S0 cs y pl' S' Sp cp,fH F w (S r) (V r) (env r) τ m x pl S0 cs/\sD F w τ m S0 pl x p (.slice e) (.own me) pl' S'/\
   bI p τ m=some (.own me)/\inR p τ x/\aN p τ x=some ⟨.slice e,y⟩/\V t=bH (.slice e) cp/\Own F w (.slice e) (.own me) Sp cp x'/\Sub Sp (S r)/\
   (∀k,Sp k->¬(S0 k/\¬S' k)/\¬pl.isB k)
 | .rd r τ x=>(env r).isOwner=true/\aT (fun b=>F b∨S r b) w τ .shr none' (V t) x
 | .raddr r τ x=>(env r).isOwner=true/\gV (fun b=>F b∨S r b) w (V t) τ x
 | .saddr τ x=>gV F w (V t) τ x
 | .full e x=>∃ao,V t= .slice ao x.length x.length/\aT F w (.slice e) .shr none' (V t) x
 | .nilS=>V t= .slice none 0 0
 | .fn A R g=>qO P F w (V t) A R g
 | .tup τ m x=>∃vs,V t= .tuple vs.toArray/\dJ F w τ m (S t) vs x
 | .pp r=>∃τ m x q S0 cs,fH F w (S r) (V r) (env r) τ m x (.mem q 0) S0 cs/\kV F w (V t) (.pointer (some ⟨q,0,none⟩))
 | .nb p q=>∃b,V t= .bool b/\(b=true->p)/\(b=false->q)
 | .stup τ x=>∃vs,V t= .tuple vs.toArray/\dJ F w τ .shr none' vs x

theorem fH.congr{F F':aA}{w w':World}{S:aA}{v:Value}{E:Ent}{τ:Ty}{m:Md}{x:τ.den}{pl:aK}{S0:aA}{cs:List Value}
  (h:fH F w S v E τ m x pl S0 cs) (hFF:Sub F F') (hFn:∀b,F' b->¬F b->¬S b) (hF:∀b,F b->w'.heap[b]? =w.heap[b]?) (hS:∀b,S b->w'.heap[b]? =w.heap[b]?):fH F' w' S v E τ m x pl S0 cs:=by
 obtain⟨h1,h2,h3⟩:=h
 have hS0:∀b,S0 b->S b:=by
  rcases h1 with⟨_,_,h,_⟩|⟨_,b,_,h,_⟩
  ·subst h;exact fun _ h=>h
  ·subst h;exact fun _ h=>h.1
 refine⟨h1,?_,(h3.congr hF (fun b hb=>hS b (hS0 b hb))).mono hFF (fun _ h=>h)⟩
 rcases h1 with⟨_,h,_,_⟩|⟨_,b,h,_,_,hb⟩
 ·subst h;exact h2
 ·subst h
  obtain⟨q1,q2,row,T,q3,q4⟩:=h2;exact⟨q1,fun h=>hFn b h q2 hb,row,T,(hS b hb).trans q3,q4⟩

theorem fH.isB{F:aA}{w:World}{S:aA}{v:Value}{E:Ent}{τ:Ty}{m:Md}{x:τ.den}{pl:aK}{S0:aA}{cs:List Value}
  (h:fH F w S v E τ m x pl S0 cs) {b:Nat} (hb:pl.isB b):S b:=by
 rcases h.1 with⟨_,h,_,_⟩|⟨_,b',h,_,_,hb'⟩
 ·subst h;exact hb.elim
 ·subst h;cases hb;exact hb'
theorem fH.sub{F:aA}{w:World}{S:aA}{v:Value}{E:Ent}{τ:Ty}{m:Md}{x:τ.den}{pl:aK}{S0:aA}{cs:List Value}
  (h:fH F w S v E τ m x pl S0 cs):Sub S0 S:=by
 rcases h.1 with⟨_,_,h,_⟩|⟨_,b',_,h,_⟩
 ·subst h;exact fun _ h=>h
 ·subst h;exact fun _ h=>h.1

end Go.Lf
namespace Go.Lf

theorem aK.read_congr{w w':World}{pl:aK}{n:Nat}(h:∀k,pl.isB k->w'.heap[k]? =w.heap[k]?):pl.read w' n=pl.read w n:=by
 cases pl with
 |val _=>rfl
 |mem b off=>simp only[aK.read,h b rfl]

structure Keeps(F F':aA)(w w':World)(env env':St)(V V':Nat->Value)(S S':Nat->aA)(r:Nat):Prop where
 henv:(env r).isOwner=true->env' r=env r
 hval:(env r).isOwner=true->V' r=V r
 foot:S' r=S r
 mem:∀b,S r b->w'.heap[b]? =w.heap[b]?
 apart:∀b,F' b->¬F b->¬S r b
 dis:∀b,S r b->¬F b

theorem fH.isOwner{F:aA}{w:World}{S:aA}{v:Value}{E:Ent}{τ:Ty}{m:Md}{x:τ.den}{pl:aK}{S0:aA}{cs:List Value}
  (h:fH F w S v E τ m x pl S0 cs):E.isOwner=true:=by
 rcases h.1 with⟨h,_⟩|⟨h,_⟩<;>rw[h]<;>rfl

theorem aF.keep{P:Program}{F F':aA}{w w':World}{env env':St}{V V':Nat->Value}{S S':Nat->aA}{t t':Nat}
  (hFF:Sub F F') (hF:∀b,F b->w'.heap[b]? =w.heap[b]?) (hV:V' t'=V t):
  ∀ {e:Ent},(∀r,e.root=some r->Keeps F F' w w' env env' V V' S S' r)->(e.isOwner=true->
   (S' t'=S t/\(∀b,S t b->w'.heap[b]? =w.heap[b]?)/\∀b,F' b->¬F b->¬S t b))->
  aF P F w env V S t e->aF P F' w' env' V' S' t' e
 | .dead,_,_,_=>trivial
 | .shr τ x,_,_,h=>by
  simp only[aF,hV]at *;exact(h.congr hF (fun _ h=>h.elim)).mono hFF (fun _ h=>h)
 | .own τ m x,_,ho,h=>by
  have ho:=ho rfl
  obtain⟨pl,S0,cs,h⟩:=h;simp only[aF,hV,ho.1];exact⟨pl,S0,cs,h.congr hFF ho.2.2 hF ho.2.1⟩
 | .box τ m x,_,ho,h=>by
  have ho:=ho rfl
  obtain⟨pl,S0,cs,h⟩:=h;simp only[aF,hV,ho.1];exact⟨pl,S0,cs,h.congr hFF ho.2.2 hF ho.2.1⟩
 | .tup τ m x,_,ho,h=>by
  have ho:=ho rfl
  obtain⟨vs,h1,h2⟩:=h;simp only[aF,hV,ho.1];exact⟨vs,h1,(h2.congr hF ho.2.1).mono hFF (fun _ h=>h)⟩
 | .sub r p,hr,_,h=>by
  have k:=hr r rfl
  obtain⟨τ,m,x,pl,S0,cs,σ,μ,pl',cs',h1,h2,h3,h4,h5,h6,h7⟩:=h;have h1':=h1.congr (F':=F') hFF k.apart hF k.mem;have hpl:=h1.2.1.congr (fun b hb=>k.mem b (h1.isB hb))
  have hl:=cQ p h1.2.2 h1.2.1.read hpl.read h6 h7 (fun b hb=>k.mem b (h1.sub b hb))
  obtain⟨⟨σ0,y⟩,hg⟩:=Option.isSome_iff_exists.1 h5;obtain⟨pl2,cs2,S2,f⟩:=focus p (fun b hb=>k.dis b (h1.sub b hb)) h1.2.2 h1.2.1 hg h6 h7
  have e:=f.loc.symm.trans h2
  simp only[Option.some.injEq,Prod.mk.injEq]at e;obtain⟨rfl,rfl⟩:=e;refine⟨τ,m,x,pl,S0,cs,σ0,μ,pl2,cs',by rw[k.henv h1.isOwner,k.hval h1.isOwner,k.foot];exact h1',hl.trans h2,?_,by rw[hV];exact h4,h5,h6,h7⟩
  rw[aK.read_congr (fun b hb=>k.mem b ((f.blk b hb).elim (h1.sub b) h1.isB))]
  exact h3
 | .addr r p,hr,_,h=>by
  have k:=hr r rfl
  obtain⟨τ,m,x,pl,S0,cs,σ,μ,b,off,h1,h2,h4,h5,h6,h7⟩:=h;have h1':=h1.congr (F':=F') hFF k.apart hF k.mem;have hpl:=h1.2.1.congr (fun b hb=>k.mem b (h1.isB hb))
  have hl:=cQ p h1.2.2 h1.2.1.read hpl.read h6 h7 (fun b hb=>k.mem b (h1.sub b hb))
  exact⟨τ,m,x,pl,S0,cs,σ,μ,b,off,by rw[k.henv h1.isOwner,k.hval h1.isOwner,k.foot];exact h1',hl.trans h2,by rw[hV];exact h4,h5,h6,h7⟩
 | .pend r p e me x',hr,_,h=>by
  have k:=hr r rfl
  obtain⟨τ,m,x,pl,S0,cs,y,pl',S1,Sp,cp,h1,h2,h3,h4,h5,h6,h7,h8,h9⟩:=h;have h1':=h1.congr (F':=F') hFF k.apart hF k.mem;have f:=(h2.congr (cQ p h1.2.2 h1.2.1.read (h1.2.1.congr (fun b hb=>k.mem b (h1.isB hb))).read h3 h4 (fun b hb=>k.mem b (h1.sub b hb))) hF (fun b hb _=>k.mem b (h1.sub b hb)) (fun b hb=>k.mem b (h1.isB hb))).monoF (F':=F') hFF
   (fun b hb=>⟨fun hs=>by
    by_cases hFb:F b
    ·exact k.dis b (h1.sub b hs) hFb
    ·exact k.apart b hb hFb (h1.sub b hs),fun hs=>by
    by_cases hFb:F b
    ·exact k.dis b (h1.isB hs) hFb
    ·exact k.apart b hb hFb (h1.isB hs)⟩)
  refine⟨τ,m,x,pl,S0,cs,y,pl',S1,Sp,cp,by rw[k.henv h1.isOwner,k.hval h1.isOwner,k.foot];exact h1',f,h3,h4,h5,by rw[hV];exact h6,?_,by rw[k.foot];exact h8,h9⟩
  exact(h7.congr hF (fun b hb=>k.mem b (h8 b hb))).mono hFF (fun _ h=>h)
 | .rd r τ x,hr,_,h=>by
  have k:=hr r rfl
  have ho:(env' r).isOwner=true:=by rw[k.henv h.1];exact h.1
  replace h:=h.2
  simp only[aF,hV,k.foot]at *;refine⟨ho,?_⟩;exact(h.congr (fun b hb=>hb.elim (hF b) (k.mem b)) (fun _ h=>h.elim)).mono (fun b hb=>hb.imp (hFF b) id) (fun _ h=>h)
 | .raddr r τ x,hr,_,h=>by
  have k:=hr r rfl
  have ho:(env' r).isOwner=true:=by rw[k.henv h.1];exact h.1
  replace h:=h.2
  simp only[aF,hV,k.foot]at *;refine⟨ho,?_⟩;exact h.congr (fun b hb=>hb.imp (hFF b) id) (fun b hb=>hb.elim (hF b) (k.mem b))
 | .saddr τ x,_,_,h=>by
  simp only[aF,hV]at *;exact h.congr hFF hF
 | .full e x,_,_,h=>by
  simp only[aF,hV]at *;obtain⟨ao,h1,h2⟩:=h;exact⟨ao,h1,(h2.congr hF (fun _ h=>h.elim)).mono hFF (fun _ h=>h)⟩
 | .nilS,_,_,h=>by simp only[aF,hV]at *;exact h
 | .fn A R g,_,_,h=>by
  simp only[aF,hV]at *;exact h.congr hFF hF
 | .pp r,hr,_,h=>by
  have k:=hr r rfl
  obtain⟨τ,m,x,q,S0,cs,h1,h2⟩:=h;exact⟨τ,m,x,q,S0,cs,by rw[k.henv h1.isOwner,k.hval h1.isOwner,k.foot];exact h1.congr (F':=F') hFF k.apart hF k.mem,by rw[hV];exact h2.congr hFF hF⟩
 | .nb p q,_,_,h=>by simp only[aF,hV]at *;exact h
 | .stup τ x,_,_,h=>by
  obtain⟨vs,h1,h2⟩:=h;simp only[aF,hV];exact⟨vs,h1,(h2.congr hF (fun _ h=>h.elim)).mono hFF (fun _ h=>h)⟩

def tabOf:Nat->Nat->Option (List Value)
 |1,0=>some ([0,1,56,2,57,49,28,3,61,58,42,50,38,29,17,4,62,47,59,36,45,43,51,22,53,39,33,30,24,18,12,5,63,55,48,27,60,41,37,16,46,35,44,21,52,32,23,11,54,26,40,15,34,20,31,10,25,14,19,9,13,8,7,6].map (Value.int .u8))
 |_,_=>none
def vV(w:World)(b:Nat)(l:List Value):Prop:=∃(row:Array Value) (T:TypeId) (fr:Nat×Nat),w.heap[b]? =some (.cells row T fr)/\∀(i:Nat) (v:Value),l[i]? =some v->row[i]? =some v
theorem vV.congr{w w':World}{b:Nat}{l:List Value}(h:vV w b l)(e:w'.heap[b]? =w.heap[b]?):vV w' b l:=by
 obtain⟨row,T,fr,h1,h2⟩:=h
 exact⟨row,T,fr,e.trans h1,h2⟩
def kQ(g:Nat)(F:aA)(w:World):Prop:=∀b o,tabOf g b=some o->F b/\vV w b o
theorem kQ.zero(F:aA)(w:World):kQ 0 F w:=fun b o h=>by cases h
theorem kQ.congr{g:Nat}{F F':aA}{w w':World}(h:kQ g F w)(hF:Sub F F')(hw:∀b,F b->w'.heap[b]? =w.heap[b]?):kQ g F' w':=
 fun b o hb=>⟨hF b (h b o hb).1,(h b o hb).2.congr (hw b (h b o hb).1)⟩

structure NP where
 n:Nat
 p:Option Nat
 q:Nat
 g:Nat
 ps:List (Nat×Nat)
def Wr(N:NP)(d:Nat):Prop:=d<N.n/\(∀s,N.p=some s->d≠s)/\∀z∈N.ps,d≠z.1
structure Slots(N:NP)(w0:World)(F0 H:aA)(a:Act):Prop where
 size:a.tmps.size=N.n
 pin:∀s,N.p=some s->a.tmps.getD s undef= .pointer (some ⟨N.q,0,none⟩)
 gl:∀b o,tabOf N.g b=some o->F0 b/\¬H b/\b<w0.heap.size/\vV w0 b o
 pins:∀z∈N.ps,a.tmps.getD z.1 undef= .pointer (some ⟨z.2,0,none⟩)

structure aJ(P:Program)(N:NP)(w0:World)(F0 H:aA)(env:St)(a:Act)(w:World)(F:aA)(S:Nat->aA):Prop where
 os:w.os=w0.os
 tape:w.tape=w0.tape
 output:w.output=w0.output
 size:w0.heap.size<=w.heap.size
 block:∀k,k<w0.heap.size->¬H k->w.heap[k]? =w0.heap[k]?
 fb:∀b,F b->b<w.heap.size
 f0:Sub F0 F
 fn:∀b,F b->¬F0 b->w0.heap.size<=b∨H b
 sb:∀t b,S t b->(w0.heap.size<=b∨H b)/\b<w.heap.size/\¬F b
 sd:∀t u,t≠u->Dis (S t) (S u)
 ent:∀t,aF P F w env (fun t=>a.tmps.getD t undef) S t (env t)
 defers:a.defers=[]
 slots:Slots N w0 F0 H a

def Inv(P:Program)(N:NP)(w0:World)(F0 H:aA)(env:St)(a:Act)(w:World):Prop:=∃F S,aJ P N w0 F0 H env a w F S

theorem aJ.glb{P:Program}{N:NP}{w0:World}{F0 H:aA}{env:St}{a:Act}{w:World}{F:aA}{S:Nat->aA}(hi:aJ P N w0 F0 H env a w F S):kQ N.g F w:=by
 intro b o h
 obtain⟨h1,h2,h3,h4⟩:=hi.slots.gl b o h
 exact⟨hi.f0 b h1,h4.congr (hi.block b h3 h2)⟩

def eY(r:Nat)(e:Ent):Ent:=match e.root with
 |some r'=>bif Nat.beq r' r then .dead else e
 |none=>e

def upd(env:St)(d:Nat)(e:Ent):St:=fun t=>bif Nat.beq t d then e else env t
def cV(env:St)(r:Nat):St:=fun t=>eY r (env t)
def put(env:St)(d:Nat)(e:Ent):St:=bif (env d).isOwner then upd (cV env d) d e else upd env d e
def drop(env:St)(r:Nat):St:=upd (cV env r) r .dead

theorem cE{a b:Nat}(h:a≠b):Nat.beq a b=false:=by
 cases h':Nat.beq a b
 ·rfl
 ·exact absurd (Nat.eq_of_beq_eq_true h') h
theorem bU(env:St)(d:Nat)(e:Ent):upd env d e d=e:=by simp[upd]
theorem bG(env:St){d t:Nat}(e:Ent)(h:t≠d):upd env d e t=env t:=by
 simp[upd,cE h]
theorem c9(env:St)(r t:Nat):cV env r t= .dead∨(cV env r t=env t/\(env t).root≠some r):=by
 unfold cV eY
 cases h:(env t).root with
 |none=>right;simp
 |some r'=>
  by_cases e:r'=r
  ·left;simp[e]
  ·right
   simp[cE e,e]

theorem Act.getD_put{a:Act}{d:Nat}{v:Value}{t:Nat}(hd:d<a.tmps.size):(a.put (some d) v).tmps.getD t undef=if t=d then v else a.tmps.getD t undef:=by
 simp only[Act.put,Array.getD_eq_getD_getElem?]
 by_cases h:t=d
 ·subst h;simp[hd]
 ·simp[h,Ne.symm h]
theorem Act.size_put{a:Act}{d:Option Nat}{v:Value}:(a.put d v).tmps.size=a.tmps.size:=by cases d<;>simp[Act.put]
theorem Act.defers_put{a:Act}{d:Option Nat}{v:Value}:(a.put d v).defers=a.defers:=by cases d<;>rfl


theorem aF.root_owner{P:Program}{F:aA}{w:World}{env:St}{V:Nat->Value}{S:Nat->aA}{t:Nat}{r:Nat}{e:Ent}(h:aF P F w env V S t e)
  (hr:e.root=some r):(env r).isOwner=true:=by
 cases e<;>simp only[Ent.root,Option.some.injEq,reduceCtorEq]at hr
 all_goals subst hr;simp only[aF]at h
 ·obtain⟨τ,m,x,pl,S0,cs,_,_,_,_,h,_⟩:=h
  exact h.isOwner
 ·obtain⟨τ,m,x,pl,S0,cs,_,_,_,_,h,_⟩:=h
  exact h.isOwner
 ·obtain⟨τ,m,x,pl,S0,cs,_,_,_,_,_,h,_⟩:=h
  exact h.isOwner
 ·exact h.1
 ·exact h.1
 ·obtain⟨τ,m,x,q,S0,cs,h,_⟩:=h
  exact h.isOwner

theorem Ent.owner_root{e:Ent}(h:e.isOwner=true):e.root=none:=by cases e<;>first|rfl|cases h

theorem aJ.put{P:Program}{N:NP}{w0:World}{F0 H:aA}{env:St}{a:Act}{w:World}{F:aA}{S:Nat->aA}(hi:aJ P N w0 F0 H env a w F S)
  {d:Nat} {e:Ent} {v:Value} {w':World} {F' Sd:aA} (hd:Wr N d) (hb:RowKit.Below w.heap.size w w')
  (hF:Sub F F') (hFb:∀b,F' b->b<w'.heap.size) (hFn:∀b,F' b->¬F b->(w0.heap.size<=b∨H b)/\∀t,t≠d->¬S t b)
  (hS:∀b,Sd b->(w0.heap.size<=b∨H b)/\b<w'.heap.size/\¬F' b/\∀t,t≠d->¬S t b)
  (he:aF P F' w' (Go.Lf.put env d e) (fun t=>(a.put (some d) v).tmps.getD t undef) (fun t=>if t=d then Sd else S t) d e):
  aJ P N w0 F0 H (Go.Lf.put env d e) (a.put (some d) v) w' F' (fun t=>if t=d then Sd else S t):=by
 have hdN:d<a.tmps.size:=by rw[hi.slots.size];exact hd.1
 refine⟨hb.os.trans hi.os,hb.tape.trans hi.tape,hb.output.trans hi.output,Nat.le_trans hi.size hb.size,?_,hFb,fun b hb=>hF b (hi.f0 b hb),?_,?_,?_,?_,?_,?_⟩
 ·intro k hk hH
  rw[hb.block k (Nat.lt_of_lt_of_le hk hi.size)];exact hi.block k hk hH
 ·intro b hb' h0
  by_cases hFb':F b
  ·exact hi.fn b hFb' h0
  ·exact(hFn b hb' hFb').1
 ·intro t b ht
  by_cases htd:t=d
  ·simp only[htd,if_true]at ht
   exact⟨(hS b ht).1,(hS b ht).2.1,(hS b ht).2.2.1⟩
  ·simp only[htd,if_false]at ht
   obtain⟨h1,h2,h3⟩:=hi.sb t b ht;refine⟨h1,Nat.lt_of_lt_of_le h2 hb.size,fun h=> ?_⟩
   exact(hFn b h h3).2 t htd ht
 ·intro t u htu b h1 h2
  by_cases htd:t=d
  ·have hud:u≠d:=fun h=>htu (htd.trans h.symm)
   simp only[htd,if_true]at h1;simp only[hud,if_false]at h2;exact(hS b h1).2.2.2 u hud h2
  ·simp only[htd,if_false]at h1
   by_cases hud:u=d
   ·simp only[hud,if_true]at h2
    exact(hS b h2).2.2.2 t htd h1
   ·simp only[hud,if_false]at h2
    exact hi.sd t u htu b h1 h2
 ·intro t
  by_cases htd:t=d
  ·subst htd
   have:Go.Lf.put env t e t=e:=by
    unfold Go.Lf.put;cases (env t).isOwner<;>simp[bU]
   rw[this];exact he
  ·have hVt:(a.put (some d) v).tmps.getD t undef=a.tmps.getD t undef:=by rw[Act.getD_put hdN,if_neg htd]
   have hcase:Go.Lf.put env d e t= .dead∨(Go.Lf.put env d e t=env t/\(env t).root≠some d):=by
    unfold Go.Lf.put;cases hk:(env d).isOwner
    ·right
     refine⟨by simp[bG _ _ htd],fun h=> ?_⟩
     have:=(hi.ent t).root_owner h
     rw[hk]at this;cases this
    ·simp only[cond_true,bG _ _ htd]
     exact c9 env d t
   rcases hcase with h|⟨h,hroot⟩
   ·rw[h];trivial
   ·rw[h]
    have hmem:∀r,(∀b,S r b->w'.heap[b]? =w.heap[b]?):=fun r b hb'=>hb.block b (hi.sb r b hb').2.1
    refine aF.keep (S:=S) (V:=fun t=>a.tmps.getD t undef) hF (fun b hb'=>hb.block b (hi.fb b hb')) hVt ?_ ?_ (hi.ent t)
    ·intro r hr
     have hrd:r≠d:=fun h=>hroot (h▸hr)
     refine⟨fun ho=> ?_,fun _=> ?_,by simp[hrd],hmem r,fun b h1 h2=>(hFn b h1 h2).2 r hrd,fun b hb'=>(hi.sb r b hb').2.2⟩
     ·unfold Go.Lf.put
      cases (env d).isOwner
      ·simp[bG _ _ hrd]
      ·simp only[cond_true,bG _ _ hrd]
       unfold cV eY;rw[Ent.owner_root ho]
     ·show(a.put (some d) v).tmps.getD r undef=a.tmps.getD r undef
      rw[Act.getD_put hdN,if_neg hrd]
    ·intro _
     exact⟨by simp[htd],hmem t,fun b h1 h2=>(hFn b h1 h2).2 t htd⟩
 ·rw[Act.defers_put];exact hi.defers
 ·refine⟨by rw[Act.size_put];exact hi.slots.size,fun s hs=> ?_,hi.slots.gl,fun z hz=> ?_⟩
  ·rw[Act.getD_put hdN,if_neg (fun h=>hd.2.1 s hs h.symm)];exact hi.slots.pin s hs
  ·rw[Act.getD_put hdN,if_neg (fun h=>hd.2.2 z hz h.symm)];exact hi.slots.pins z hz

theorem aJ.drop{P:Program}{N:NP}{w0:World}{F0 H:aA}{env:St}{a:Act}{w:World}{F:aA}{S:Nat->aA}(hi:aJ P N w0 F0 H env a w F S)(r:Nat):
  aJ P N w0 F0 H (Go.Lf.drop env r) a w F (fun t=>if t=r then none' else S t):=by
 refine⟨hi.os,hi.tape,hi.output,hi.size,hi.block,hi.fb,hi.f0,hi.fn,?_,?_,?_,hi.defers,hi.slots⟩
 ·intro t b ht
  by_cases h:t=r
  ·simp only[h,if_true]at ht;exact ht.elim
  ·simp only[h,if_false]at ht;exact hi.sb t b ht
 ·intro t u htu b h1 h2
  by_cases h:t=r
  ·simp only[h,if_true]at h1;exact h1.elim
  ·simp only[h,if_false]at h1
   by_cases h':u=r
   ·simp only[h',if_true]at h2;exact h2.elim
   ·simp only[h',if_false]at h2
    exact hi.sd t u htu b h1 h2
 ·intro t
  unfold Go.Lf.drop;by_cases h:t=r
  ·subst h;rw[bU];trivial
  ·rw[bG _ _ h]
   rcases c9 env r t with h'|⟨h',hne⟩
   ·rw[h'];trivial
   ·rw[h']
    refine aF.keep (fun _ h=>h) (fun _ _=>rfl) rfl ?_ ?_ (hi.ent t)
    ·intro q hq
     have hqr:q≠r:=fun e=>hne (e▸hq)
     refine⟨fun ho=> ?_,fun _=>rfl,by simp[hqr],fun _ _=>rfl,fun b h1 h2=>absurd h1 h2,fun b hb=>(hi.sb q b hb).2.2⟩
     rw[bG _ _ hqr];unfold cV eY;rw[Ent.owner_root ho]
    ·intro _
     exact⟨by simp[h],fun _ _=>rfl,fun b h1 h2=>absurd h1 h2⟩

theorem aJ.putSimple{P:Program}{N:NP}{w0:World}{F0 H:aA}{env:St}{a:Act}{w:World}{F:aA}{S:Nat->aA}(hi:aJ P N w0 F0 H env a w F S)
  {d:Nat} {e:Ent} {v:Value} (hd:Wr N d) (ho:e.isOwner=false) (hr:e.root≠some d)
  (he:aF P F w env (fun s=>if s=d then v else a.tmps.getD s undef) S d e):
  aJ P N w0 F0 H (Go.Lf.put env d e) (a.put (some d) v) w F (fun t=>if t=d then none' else S t):=by
 refine hi.put hd (RowKit.Below.refl _ _) (fun _ h=>h) hi.fb (fun b h1 h2=>absurd h1 h2) (fun _ h=>h.elim) ?_
 have hV:∀s,(a.put (some d) v).tmps.getD s undef=if s=d then v else a.tmps.getD s undef:=fun s=>Act.getD_put (by rw[hi.slots.size];exact hd.1)
 refine aF.keep (fun _ h=>h) (fun _ _=>rfl) (by simp[hV]) ?_ (fun h=>by rw[ho]at h;cases h) he
 intro r hr'
 have hrd:r≠d:=fun h=>hr (h▸hr')
 refine⟨fun h=> ?_,fun _=>by simp[hV],by simp[hrd],fun _ _=>rfl,fun b h1 h2=>absurd h1 h2,fun b hb=>(hi.sb r b hb).2.2⟩
 unfold Go.Lf.put
 cases (env d).isOwner
 ·simp[bG _ _ hrd]
 ·simp only[cond_true,bG _ _ hrd]
  unfold cV eY;rw[Ent.owner_root h]

end Go.Lf
namespace Go.Lf

def Ty.zero:Ty->List Value
 | .int k=>[.int k 0]
 | .bool=>[.bool false]
 | .str=>[.string ⟨#[]⟩]
 | .unit=>[]
 | .prod a b=>a.zero++b.zero
 | .slice _=>[.slice none 0 0]
 | .arr n e=>(List.replicate n e.zero).flatten
 | .abs .ptr=>[.pointer none]
 | .abs .thk=>[.nilFunc]
 | .abs .clo=>[.nilFunc]
 | .abs .kno=>[.nilFunc]
 | .abs .hole=>[.nilFunc]
 | .abs .map=>[.map none]
 | .abs .cap=>[.nilFunc]

inductive AK where
 |val (τ:Ty)
 |fn (A:List Ty) (R:Ty)
 |sptr (τ:Ty)

@[reducible] def AK.den:AK->Type
 | .val τ=>τ.den
 | .fn A R=>Fun A R
 | .sptr τ=>τ.den

@[reducible] def aH:List AK->Type
 | []=>Unit
 |k::ks=>k.den×aH ks

structure bD where
 args:List AK
 multi:Bool
 res:Ty
 mode:Md
 pre:aH args->Prop
 fn:aH args->res.den
 glb:Nat:=0
 ps:List (Nat×Nat):=[]

def qP(P:Program)(F:aA)(w:World):(k:AK)->Value->k.den->Prop
 | .val τ,v,x=>aT F w τ .shr none' v x
 | .fn A R,v,g=>qO P F w v A R g
 | .sptr τ,v,x=>gV F w v τ x

def cD(P:Program)(F:aA)(w:World):(ks:List AK)->List Value->aH ks->Prop
 | [],vs,_=>vs=[]
 |k::ks,vs,x=>∃v r,vs=v::r/\qP P F w k v x.1/\cD P F w ks r x.2

def FOk(P:Program)(f:FuncId)(s:bD):Prop:=
 fV P f/\∀(w:World) (F:aA) vs xs,kQ s.glb F w->(∀b,F b->b<w.heap.size)->cD P F w s.args vs xs->s.pre xs->Calls P f vs.toArray w (mZ F w s.multi s.res s.mode (s.fn xs))

structure dF where
 τ:Ty
 m:Md:= .shr
 args:List AK:=[]
 multi:Bool:=true
 res:Ty:= .unit
 rm:Md:= .shr
 pre:τ.den->aH args->Prop
 fn:τ.den->aH args->τ.den
 out:τ.den->aH args->res.den

def o5(F S0:aA)(w:World)(b:Nat)(s:dF)(x:s.τ.den)(y:aH s.args)(e:Ending)(w':World):Prop:=
 ∃v F' S' Sr cs',e= .returned v/\w'.os=w.os/\w'.tape=w.tape/\w'.output=w.output/\w.heap.size<=w'.heap.size/\
  (∀k,k<w.heap.size->k≠b->¬S0 k->w'.heap[k]? =w.heap[k]?)/\Sub F F'/\(∀k,F' k->¬F k->w.heap.size<=k∨S0 k)/\(∀k,F' k∨S' k∨Sr k->k<w'.heap.size)/\
  (∀k,S' k->(w.heap.size<=k∨S0 k)/\¬F' k)/\(∀k,Sr k->(w.heap.size<=k∨S0 k)/\¬F' k/\¬S' k/\k≠b)/\
  fM F' S' w' (.mem b 0) s.τ.size cs'/\Own F' w' s.τ s.m S' cs' (s.fn x y)/\RetV F' w' s.multi s.res s.rm Sr v (s.out x y)

def POk(P:Program)(f:FuncId)(s:dF)(only:Option Nat:=none):Prop:=
 fV P f/\∀(w:World) (F S0:aA) (b:Nat) (cs:List Value) (x:s.τ.den) vs (y:aH s.args),(∀q,only=some q->b=q)->b<w.heap.size->(∀k,F k->k<w.heap.size)->(∀k,S0 k->k<w.heap.size/\¬F k)->
  fM F S0 w (.mem b 0) s.τ.size cs->Own F w s.τ s.m S0 cs x->cD P F w s.args vs y->s.pre x y->
  Calls P f (.pointer (some ⟨b,0,none⟩)::vs).toArray w (o5 F S0 w b s x y)

structure ISpec where
 τ:Ty
 m:Md
 args:List AK:=[]
 res:Ty
 rm:Md
 pre:τ.den->aH args->Prop
 out:τ.den->aH args->res.den
def IPost(F S0:aA)(w:World)(s:ISpec)(x:s.τ.den)(y:aH s.args)(e:Ending)(w':World):Prop:=
 ∃v F' Sr,e= .returned v/\w'.os=w.os/\w'.tape=w.tape/\w'.output=w.output/\w.heap.size<=w'.heap.size/\
  (∀k,k<w.heap.size->¬S0 k->w'.heap[k]? =w.heap[k]?)/\Sub F F'/\(∀k,F' k->¬F k->w.heap.size<=k∨S0 k)/\(∀k,F' k∨Sr k->k<w'.heap.size)/\
  (∀k,Sr k->(w.heap.size<=k∨S0 k)/\¬F' k)/\aT F' w' s.res s.rm Sr v (s.out x y)
def IOk(P:Program)(f:FuncId)(s:ISpec):Prop:=
 fV P f/\∀(w:World) (F S0:aA) (v:Value) (x:s.τ.den) vs (y:aH s.args),(∀k,F k->k<w.heap.size)->(∀k,S0 k->k<w.heap.size/\¬F k)->
  aT F w s.τ s.m S0 v x->cD P F w s.args vs y->s.pre x y->Calls P f (v::vs).toArray w (IPost F S0 w s x y)

structure TSpec where
 τ:Ty
 m:Md
 pre:FuncId×List Int->τ.den->Prop
 fn:FuncId×List Int->τ.den->τ.den
def TSpec.at(t:TSpec)(z:FuncId×List Int):dF:={τ:=t.τ,m:=t.m,pre:=fun x _=>t.pre z x,fn:=fun x _=>t.fn z x,out:=fun _ _=>()}
def TOk(P:Program)(q:Nat)(t:TSpec):Prop:=
 ∀(z:FuncId×List Int) (w:World) (F S0:aA) (cs:List Value) (x:t.τ.den) (caps:List Value),q<w.heap.size->(∀k,F k->k<w.heap.size)->(∀k,S0 k->k<w.heap.size/\¬F k)->
  fM F S0 w (.mem q 0) t.τ.size cs->Own F w t.τ t.m S0 cs x->CapsOK F w q caps z.2->t.pre z x->fV P z.1/\Calls P z.1 caps.toArray w (o5 F S0 w q (t.at z) x ())

structure CSpec where
 A:List Ty
 R:Ty
 pre:FuncId×List Int->sX A->Prop
 fn:FuncId×List Int->sX A->R.den
def ClOk(P:Program)(t:CSpec):Prop:=
 ∀(z:FuncId×List Int) (w:World) (F:aA) (caps:List Value) vs (xs:sX t.A),(∀k,F k->k<w.heap.size)->jG F w caps z.2->mM F w t.A vs xs->t.pre z xs->
  fV P z.1/\Calls P z.1 (vs++caps).toArray w (mZ F w false t.R .shr (t.fn z xs))

structure KSpec where
 f:FuncId
 l:List KI
 τ:Ty
 m:Md
 args:List AK
 pre:τ.den->aH args->Prop
 fn:τ.den->aH args->τ.den
def KSpec.p(t:KSpec):dF:={τ:=t.τ,m:=t.m,args:=t.args,pre:=t.pre,fn:=t.fn,out:=fun _ _=>()}
def KnOK(P:Program)(q:Nat)(t:KSpec):Prop:=
 fV P t.f/\∀(w:World) (F S0:aA) (cs:List Value) (x:t.τ.den) (caps:Array Value) vs (y:aH t.args),q<w.heap.size->(∀k,F k->k<w.heap.size)->(∀k,S0 k->k<w.heap.size/\¬F k)->
  fM F S0 w (.mem q 0) t.τ.size cs->Own F w t.τ t.m S0 cs x->KIs F w (.func (.func t.f) #[] caps) caps.toList t.l->cD P F w t.args vs y->t.pre x y->
  Calls P t.f (vs.toArray++caps) w (o5 F S0 w q t.p x y)

def look{α:Type}:List (Nat×α)->Nat->Option α
 | [],_=>none
 |(k,v)::l,n=>bif Nat.beq k n then some v else look l n

structure Ctx where
 N:Nat
 tys:List (TypeId×Ty)
 fns:List (FuncId×bD)
 frz:List Nat:=[]
 wrp:List Nat:=[]
 mds:List (Nat×Md):=[]
 eqs:List TypeId:=[]
 pin:Option Nat:=none
 q:Nat:=0
 ptrs:List (FuncId×dF):=[]
 thk:Option TSpec:=none
 clo:Option CSpec:=none
 ded:List Nat:=[]
 fzs:List Nat:=[]
 cuts:List Nat:=[]
 ins:List (FuncId×ISpec):=[]
 take:List Nat:=[]
 kno:Option KSpec:=none
 mvs:List Nat:=[]
 fz1:List Nat:=[]
 asn:List Nat:=[]
 gow:List Nat:=[]
 glb:Nat:=0
 ps:List (Nat×Nat):=[]

def Ctx.np(C:Ctx):NP:=⟨C.N,C.pin,C.q,C.glb,C.ps⟩
def glbB(C:Ctx)(g:Nat):Bool:=Nat.beq g 0||Nat.beq g C.glb
theorem yP{C:Ctx}{g:Nat}(h:glbB C g=true){F:aA}{w:World}(hg:kQ C.glb F w):kQ g F w:=by
 simp only[glbB,Bool.or_eq_true]at h
 rcases h with h|h
 ·rw[Nat.eq_of_beq_eq_true h];exact kQ.zero F w
 ·rw[Nat.eq_of_beq_eq_true h];exact hg
def psB:List (Nat×Nat)->Nat->Bool
 | [],_=>true
 |z::l,d=> !Nat.beq d z.1&&psB l d
theorem psB_iff{d:Nat}:∀ {l:List (Nat×Nat)},psB l d=true->∀z∈l,d≠z.1
 | [],_,z,hz=>by cases hz
 |y::l,h,z,hz=>by
  simp only[psB,Bool.and_eq_true]at h;rcases List.mem_cons.1 hz with rfl|hz
  ·intro e
   rw[e,Nat.beq_refl]at h;cases h.1
  ·exact psB_iff h.2 z hz
def wrB(C:Ctx)(d:Nat):Bool:=Nat.blt d C.N&&(match C.pin with
 |some s=> !Nat.beq d s
 |none=>true)&&psB C.ps d
theorem eA{C:Ctx}{d:Nat}(h:wrB C d=true):Wr C.np d:=by
 simp only[wrB,Bool.and_eq_true]at h
 refine⟨Nat.le_of_ble_eq_true h.1.1,fun s hp h0=> ?_,psB_iff h.2⟩
 have hp:C.pin=some s:=hp
 subst h0
 rw[hp]at h
 simp at h

def cH(tys:List (TypeId×Ty)):List Field->Nat->Ty->Bool
 | [],_,.unit=>true
 |f::fs,off,.prod a b=>Nat.beq f.offset off&&decide (look tys f.type=some a)&& !Nat.beq a.size 0&&cH tys fs (off+a.size) b
 |_,_,_=>false

def iF(tys:List (TypeId×Ty)):Ty->TypeDesc->Bool
 | .int k,.int k'=>decide (k=k')
 | .bool,.bool=>true
 | .str,.string=>true
 | .abs .ptr,.pointer _=>true
 | .abs .thk,.func _ _ _=>true
 | .abs .clo,.func _ _ _=>true
 | .abs .kno,.func _ _ _=>true
 | .abs .map,.map _ _=>true
 | .abs .cap,.func _ _ _=>true
 | .slice e,.slice E=>decide (look tys E=some e)&& !Nat.beq e.size 0
 | .arr n e,.array n' E=>Nat.beq n n'&&decide (look tys E=some e)&& !Nat.beq e.size 0
 | .unit,.struct fs=>fs.toList.isEmpty
 | .prod a b,.struct fs=>cH tys fs.toList 0 (.prod a b)
 |_,_=>false

def bB(P:Program)(tys:List (TypeId×Ty))(T:TypeId)(τ:Ty):Prop:=
 ∃i d,P.info? T=some i/\P.underlying T=some d/\i.size=τ.size/\i.bytes<=65536/\i.zero=some (bH τ τ.zero)/\iF tys τ d=true

def EqRow(P:Program)(tys:List (TypeId×Ty))(eqs:List TypeId)(T:TypeId):Prop:=
 P.stoodInHeld T=false/\P.eqGuardType P.depth T=false/\
  ∀ f ∈ (match P.underlying T with | some (.struct fs) => fs.toList | _ => []), f.name ≠ "_" /\ ∀ τ, look tys f.type = some τ -> τ.isAgg = true -> f.type ∈ eqs

structure aG(P:Program)(C:Ctx):Prop where
 types:∀T τ,look C.tys T=some τ->bB P C.tys T τ
 funcs:∀f s,look C.fns f=some s->FOk P f s
 mixed:P.follows .mixedOrders=true
 eqs:∀T,T∈C.eqs->EqRow P C.tys C.eqs T
 ptrs:∀f s,look C.ptrs f=some s->∃o,POk P f s o/\∀q,o=some q->C.pin.isSome=true/\q=C.q
 thk:∀t,C.thk=some t->TOk P C.q t
 clo:∀t,C.clo=some t->ClOk P t
 ins:∀f s,look C.ins f=some s->IOk P f s
 kno:∀t,C.kno=some t->KnOK P C.q t

theorem Own.one{F:aA}{w:World}:∀ {τ:Ty} {m:Md} {S:aA} {cs:List Value} {x:τ.den},Own F w τ m S cs x->∀v∈cs,v.oneCell'=true
 | .int _,_,_,_,_,h,v,hv=>by simp[Own]at h;rw[h.1]at hv;simp at hv;subst hv;rfl
 | .bool,_,_,_,_,h,v,hv=>by simp[Own]at h;rw[h]at hv;simp at hv;subst hv;rfl
 | .str,_,_,_,_,h,v,hv=>by simp[Own]at h;rw[h.1]at hv;simp at hv;subst hv;rfl
 | .abs _,_,_,_,_,h,v,hv=>by obtain⟨u,h,h1⟩:=iI.one_cell h;rw[h,List.mem_singleton]at hv;rw[hv];exact h1
 | .unit,_,_,_,_,h,v,hv=>by simp[Own]at h;rw[h]at hv;simp at hv
 | .prod a b,m,S,cs,x,h,v,hv=>by
  obtain⟨c1,c2,S1,S2,rfl,_,_,_,h1,h2⟩:=h;rcases List.mem_append.1 hv with hv|hv
  ·exact h1.one v hv
  ·exact h2.one v hv
 | .slice e,m,S,cs,xs,h,v,hv=>by
  obtain⟨ao,cap,rfl,_⟩:=h;simp at hv;subst hv;rfl
 | .arr n e,m,S,cs,xs,h,v,hv=>by
  obtain⟨hn,hc,Si,s,d,he⟩:=h;obtain⟨j,hj,rfl⟩:=List.mem_iff_getElem.1 hv;rw[hc]at hj;have hs:0<e.size:=by
   rcases Nat.eq_zero_or_pos e.size with h|h
   ·rw[h]at hj;omega
   ·exact h
  have hi:j/e.size<n:=by rw[Nat.div_lt_iff_lt_mul hs];exact hj
  have hx:=Own.list_get he (i:=j/e.size) (by rw[hn];exact hi)
  refine hx.one _ ?_
  have hlen:=hx.len
  refine List.mem_iff_getElem.2 ⟨j%e.size,by rw[hlen];exact Nat.mod_lt _ hs,?_⟩
  simp only[seg,List.getElem_take,List.getElem_drop]
  congr 1
  rw[Nat.mul_comm];exact Nat.div_add_mod j e.size

theorem dK{τ:Ty}{cs:List Value}(hl:cs.length=τ.size)(h1:∀v∈cs,v.oneCell'=true):(bH τ cs).cells=cs.toArray:=by
 unfold bH
 cases hτ:τ.isAgg
 ·have hs:cs.length=1:=by rw[hl];cases τ<;>first|rfl|cases hτ
  obtain⟨v,rfl⟩:=List.length_eq_one_iff.1 hs;have:=h1 v (by simp);simp only[List.headD_cons,Bool.false_eq_true,if_false];cases v<;>first|rfl|simp[Value.oneCell']at this
 ·simp[Value.cells]

theorem aT.cells{F S:aA}{w:World}{τ:Ty}{m:Md}{v:Value}{x:τ.den}(h:aT F w τ m S v x):∃cs,v=bH τ cs/\v.cells=cs.toArray/\Own F w τ m S cs x:=by
 obtain⟨cs,h1,h2⟩:=h
 exact⟨cs,h1,by rw[h1];exact dK h2.len h2.one,h2⟩

section
variable {P:Program} {tys:List (TypeId×Ty)} {T:TypeId} {τ:Ty}

theorem bB.run_size(h:bB P tys T τ)(w:World):(sizeOf T).run P w= .ok τ.size w:=by
 obtain⟨i,d,h1,h2,h3,h4,h5,h6⟩:=h
 simp[sizeOf,typeInfo,h1,h3]
theorem bB.run_zero(h:bB P tys T τ)(w:World):(zeroValue T).run P w= .ok (bH τ τ.zero) w:=by
 obtain⟨i,d,h1,h2,h3,h4,h5,h6⟩:=h
 simp[zeroValue,typeInfo,h1,h5]
theorem bB.run_isAgg(h:bB P tys T τ)(w:World):(isAgg T).run P w= .ok τ.isAgg w:=by
 obtain⟨i,d,h1,h2,h3,h4,h5,h6⟩:=h
 have hd:(match d with| .struct _| .array _ _=>true|_=>false)=τ.isAgg:=by
  cases τ<;>cases d<;>first|rfl|simp[iF]at h6
 simp only[isAgg,Sem.run_bind,run_underlying h2,Result.andThen]
 rw[<-hd]
 cases d<;>rfl

theorem bB.loadVar(h:bB P tys T τ){w:World}{b off:Nat}{row:Array Value}{T0:TypeId}{fr:Nat×Nat}(hr:w.heap[b]? =some (.cells row T0 fr))(ho:off+τ.size<=row.size):
  (loadVar T ⟨b,off,none⟩).run P w= .ok (bH τ (seg row.toList off τ.size)) w:=by
 have hadd:∀j,(⟨b,off,none⟩:Addr).add j=⟨b,off+j,none⟩:=by intro j;unfold Addr.add;split<;>simp_all
 have hcell:∀j v,(seg row.toList off τ.size)[j]? =some v->w.cell? ((⟨b,off,none⟩:Addr).add j)=some v:=by
  intro j v hv;rw[hadd];simp only[World.cell?,hr];simp only[seg,List.getElem?_take,List.getElem?_drop]at hv;split at hv
  ·simpa using hv
  ·cases hv
 have hlen:=lT row.toList off τ.size (by simpa using ho)
 simp only[Go.loadVar,Sem.run_bind,h.run_isAgg,Result.andThen]
 cases hτ:τ.isAgg
 ·have hs:τ.size=1:=by cases τ<;>first|rfl|cases hτ
  simp only[Bool.false_eq_true,if_false];rw[hs]at hlen hcell⊢;obtain⟨v,hv⟩:=List.length_eq_one_iff.1 hlen;have:=hcell 0 v (by rw[hv];rfl);rw[hadd,Nat.add_zero]at this;simp[this,bH,hτ,hv]
 ·simp only[if_true,Sem.run_bind,h.run_size,Result.andThen]
  have:=run_loadCells_list (P:=P) w ⟨b,off,none⟩ _ hcell
  rw[hlen]at this;simp[this,bH,hτ]

theorem bB.storeVar(h:bB P tys T τ){w:World}{b off:Nat}{row:Array Value}{T0:TypeId}(hr:w.heap[b]? =some (.cells row T0 (0,0)))(ho:off+τ.size<=row.size)
  {cs:List Value} (hl:cs.length=τ.size) (h1:∀v∈cs,v.oneCell'=true):
  ∃w',(storeVar T ⟨b,off,none⟩ (bH τ cs)).run P w= .ok () w'/\Upd w w' b off τ.size cs/\(∀k,k≠b->w'.heap[k]? =w.heap[k]?)/\
   w'.heap.size=w.heap.size/\w'.os=w.os/\w'.tape=w.tape/\w'.output=w.output:=by
 have hs:=run_storeCells_at (P:=P) b off T0 cs 0 row w hr (by omega) h1
 have hc:=dK hl h1
 have hb:b<w.heap.size:=by
  rcases Nat.lt_or_ge b w.heap.size with h|h
  ·exact h
  ·rw[Array.getElem?_eq_none h]at hr;cases hr
 refine⟨w.setRow b (row.toList.take (off+0)++cs++row.toList.drop (off+0+cs.length)).toArray,?_,⟨hl,row,(row.toList.take (off+0)++cs++row.toList.drop (off+0+cs.length)).toArray,T0,hr,?_,by omega,?_⟩,?_,?_,rfl,rfl,rfl⟩
 ·simp only[Go.storeVar,Sem.run_bind,h.run_size,Result.andThen,hc,List.size_toArray,hl,ne_eq,not_true,if_false]
  rw[<-hl]
  simpa using hs
 ·simp[World.setRow,Array.getElem?_modify,hr]
 ·simp only[Nat.add_zero,hl]
 ·intro k hk
  simp only[World.setRow,Array.getElem?_modify];rw[if_neg (Ne.symm hk)]
 ·simp[World.setRow]

theorem uO(P:Program)(T:TypeId){τ:Ty}{cs:List Value}(hc:(bH τ cs).cells=cs.toArray)(w:World):
  (newVar T (bH τ cs)).run P w= .ok ⟨w.heap.size,0,none⟩ (w.alloc (.cells cs.toArray T)):=by
 simp[newVar,newRow,hc]
end

theorem Own.zero(F:aA)(w:World):∀(τ:Ty) (m:Md) (S:aA),Own F w τ m S τ.zero τ.dflt
 | .int k,_,_=>⟨rfl,by cases k<;>decide,by cases k<;>decide⟩
 | .bool,_,_=>rfl
 | .str,_,_=>⟨rfl,by simp[Ty.dflt,lim]⟩
 | .abs .ptr,_,_=>rfl
 | .abs .thk,_,_=>rfl
 | .abs .clo,_,_=>rfl
 | .abs .kno,_,_=>rfl
 | .abs .hole,_,_=>⟨_,rfl,rfl⟩
 | .abs .map,_,_=>⟨_,rfl,.inl ⟨rfl,fun _=>rfl⟩⟩
 | .abs .cap,_,_=>rfl
 | .unit,_,_=>rfl
 | .prod a b,m,S=>⟨a.zero,b.zero,none',none',rfl,fun _ h=>h.elim,fun _ h=>h.elim,fun _ h=>h.elim,Own.zero F w a m.fst none',Own.zero F w b m.snd none'⟩
 | .slice e,m,S=>by
  refine⟨none,0,rfl,by simp[Ty.dflt],by simp[Ty.dflt],?_⟩
  cases m with
  |own me=>exact .inl ⟨rfl,rfl⟩
  |shr=>exact .inl rfl
  |pair a b=>exact .inl rfl
 | .arr n e,m,S=>by
  have hz:∀(k:Nat),((List.replicate k e.zero).flatten).length=k*e.size:=by
   intro k;have:=(Own.zero F w e .shr none').len
   induction k with
   |zero=>simp
   |succ k ih=>simp[List.replicate_succ,ih,this,Nat.add_mul];omega
  refine⟨by simp[Ty.dflt],hz n,fun _=>none',fun _ _ h=>h.elim,fun _ _ _ _ h=>h.elim,?_⟩
  intro i x hx;simp only[Ty.dflt,List.getElem?_replicate]at hx;split at hx
  ·rename_i hi
   injection hx with hx;subst hx;have e1:seg (Ty.arr n e).zero (i*e.size) e.size=e.zero:=by
    have he:=(Own.zero F w e .shr none').len
    have hn:List.replicate n e.zero=List.replicate i e.zero++([e.zero]++List.replicate (n-i-1) e.zero):=by
     rw[show [e.zero]=List.replicate 1 e.zero from rfl,List.replicate_append_replicate,List.replicate_append_replicate]
     congr 1;omega
    simp only[Ty.zero];rw[hn,List.flatten_append,List.flatten_append];simp only[List.flatten_cons,List.flatten_nil,List.append_nil];unfold seg;rw[List.drop_append_of_le_length (by rw[hz];omega),List.drop_of_length_le (by rw[hz];omega),List.nil_append,
     List.take_append_of_le_length (by omega),List.take_of_length_le (by omega)]
   rw[e1];exact Own.zero F w e _ _
  ·cases hx

end Go.Lf
namespace Go.Lf

structure aP where
 e:Ent
 r:Ent
 s:Option Nat

def vJ:Value->Ent
 | .int k n=>bif decide (k.min<=n)&&decide (n<=k.max)then .shr (.int k) n else .dead
 | .bool b=> .shr .bool b
 | .string s=>bif decide (s.data.toList.length<=lim)then .shr .str s.data.toList else .dead
 | .slice none 0 0=> .nilS
 | .nilFunc=> .shr (.abs .clo) none
 | .pointer none=> .shr (.abs .ptr) none
 | .map none=> .shr (.abs .map) (fun _=>none)
 |_=> .dead

def mQ(env:St)(e:Ent):Ent:=match e.root with
 |some r=>env r
 |none=> .dead

def bR(env:St):Operand->aP
 | .tmp t=>⟨env t,mQ env (env t),some t⟩
 | .const v=>⟨vJ v,.dead,none⟩
 | .func f=>⟨.shr (.abs .clo) (some (f,[])),.dead,none⟩
 |_=>⟨.dead,.dead,none⟩

structure aU(P:Program)(F:aA)(w:World)(env:St)(V:Nat->Value)(S:Nat->aA)(v:Value)(vw:aP):Prop where
 ent:vw.e.isOwner=false->∀d,vw.e.root≠some d->aF P F w env (fun s=>if s=d then v else V s) S d vw.e
 own:vw.e.isOwner=true->∃t,vw.s=some t/\env t=vw.e/\v=V t
 root:vw.r=mQ env vw.e

theorem constE_ok(P:Program)(F:aA)(w:World)(env:St)(S:Nat->aA)(v:Value):
  (vJ v).isOwner=false/\(vJ v).root=none/\∀(d:Nat) (V:Nat->Value),V d=v->aF P F w env V S d (vJ v):=by
 unfold vJ
 split
 ·rename_i k n
  cases h:(decide (k.min<=n)&&decide (n<=k.max))
  ·exact⟨rfl,rfl,fun _ _ _=>trivial⟩
  ·simp only[Bool.and_eq_true,decide_eq_true_eq]at h
   exact⟨rfl,rfl,fun d V hV=>⟨[.int k n],by rw[hV];rfl,rfl,h.1,h.2⟩⟩
 ·exact⟨rfl,rfl,fun d V hV=>⟨[.bool _],by rw[hV];rfl,rfl⟩⟩
 ·rename_i s
  cases h:decide (s.data.toList.length<=lim)
  ·exact⟨rfl,rfl,fun _ _ _=>trivial⟩
  ·exact⟨rfl,rfl,fun d V hV=>⟨[.string s],by rw[hV];rfl,rfl,of_decide_eq_true h⟩⟩
 ·exact⟨rfl,rfl,fun d V hV=>hV⟩
 ·exact⟨rfl,rfl,fun d V hV=>⟨[.nilFunc],by rw[hV];rfl,rfl⟩⟩
 ·exact⟨rfl,rfl,fun d V hV=>⟨[.pointer none],by rw[hV];rfl,rfl⟩⟩
 ·exact⟨rfl,rfl,fun d V hV=>⟨[.map none],by rw[hV];rfl,_,rfl,.inl ⟨rfl,fun _=>rfl⟩⟩⟩
 ·exact⟨rfl,rfl,fun _ _ _=>trivial⟩

theorem aX{P:Program}{N:NP}{w0:World}{F0 H:aA}{env:St}{a:Act}{w:World}{F:aA}{S:Nat->aA}(hi:aJ P N w0 F0 H env a w F S)(x:Operand):
  aU P F w env (fun t=>a.tmps.getD t undef) S (a.eval x) (bR env x):=by
 cases x with
 |tmp t=>
  refine⟨fun ho d hd=> ?_,fun ho=>⟨t,rfl,rfl,rfl⟩,rfl⟩
  refine aF.keep (t:=t) (fun _ h=>h) (fun _ _=>rfl) (by simp[Act.eval]) ?_ (fun h=>by rw[ho]at h;cases h) (hi.ent t)
  intro r hr;have hrd:r≠d:=fun h=>hd (h▸hr)
  exact⟨fun _=>rfl,fun _=>by simp[hrd],rfl,fun _ _=>rfl,fun b h1 h2=>absurd h1 h2,fun b hb=>(hi.sb r b hb).2.2⟩
 |const v=>
  obtain⟨h1,h2,h3⟩:=constE_ok P F w env S v;exact⟨fun _ d _=>h3 d _ (by simp[Act.eval]),fun h=>absurd (h1.symm.trans h) (by simp),by simp[bR,mQ,h2]⟩
 |global g=>exact⟨fun _ _ _=>trivial,fun h=>(by cases h),rfl⟩
 |func f=>
  refine⟨fun _ d _=> ?_,fun h=>(by cases h),rfl⟩
  show aT F w (.abs .clo) .shr none' (if d=d then a.eval (.func f)else a.tmps.getD d undef) (some (f,[]))
  rw[if_pos rfl];exact⟨[.func (.func f) #[] #[]],by simp[Act.eval,bH,Ty.isAgg],#[],rfl,rfl⟩

def aP.val(v:aP):Option (Σ τ:Ty,τ.den):=
 match v.e with
 | .shr τ x=>some ⟨τ,x⟩
 | .own τ _ x=>some ⟨τ,x⟩
 | .sub _ p=>match v.r with
  | .own τ _ x=>aN p τ x
  | .box τ _ x=>aN p τ x
  |_=>none
 | .pend _ _ e _ x=>some ⟨.slice e,x⟩
 | .rd _ τ x=>some ⟨τ,x⟩
 | .full e x=>some ⟨.slice e,x⟩
 |_=>none

def FA(F:aA)(S:Nat->aA):aA:=fun b=>F b∨∃t,S t b

theorem aT.freeze{F S:aA}{w:World}{τ:Ty}{m:Md}{v:Value}{x:τ.den}(h:aT F w τ m S v x){F':aA}(hF:∀b,F b∨S b->F' b):aT F' w τ .shr none' v x:=by
 obtain⟨cs,h1,h2⟩:=h
 exact⟨cs,h1,(Own.freeze (S':=none') h2).mono hF (fun _ h=>h)⟩

theorem fH.own_inj{F:aA}{w:World}{S:aA}{v:Value}{τ0:Ty}{m0:Md}{x0:τ0.den}{τ:Ty}{m:Md}{x:τ.den}{pl:aK}{S0:aA}{cs:List Value}
  (h:fH F w S v (.own τ0 m0 x0) τ m x pl S0 cs):(⟨τ0,x0⟩:Σ τ:Ty,τ.den)=⟨τ,x⟩/\m0=m/\pl= .val cs/\S0=S/\v=bH τ cs:=by
 rcases h.1 with⟨h,h2,h3,h4⟩|⟨h,_⟩
 ·injection h with e1 e2 e3
  subst e1;subst e2;cases e3;exact⟨rfl,rfl,h2,h3,h4⟩
 ·cases h
theorem fH.box_inj{F:aA}{w:World}{S:aA}{v:Value}{τ0:Ty}{m0:Md}{x0:τ0.den}{τ:Ty}{m:Md}{x:τ.den}{pl:aK}{S0:aA}{cs:List Value}
  (h:fH F w S v (.box τ0 m0 x0) τ m x pl S0 cs):(⟨τ0,x0⟩:Σ τ:Ty,τ.den)=⟨τ,x⟩/\m0=m/\∃b,pl= .mem b 0/\S0=(fun k=>S k/\k≠b)/\v= .pointer (some ⟨b,0,none⟩)/\S b:=by
 rcases h.1 with⟨h,_⟩|⟨h,h2⟩
 ·cases h
 ·injection h with e1 e2 e3
  subst e1;subst e2;cases e3;exact⟨rfl,rfl,h2⟩

def ownerOf:Ent->Option (Bool×(Σ τ:Ty,Md×τ.den))
 | .own τ m x=>some (false,⟨τ,m,x⟩)
 | .box τ m x=>some (true,⟨τ,m,x⟩)
 |_=>none

theorem fH.ownerOf{F:aA}{w:World}{S:aA}{v:Value}{E:Ent}{τ:Ty}{m:Md}{x:τ.den}{pl:aK}{S0:aA}{cs:List Value}
  (h:fH F w S v E τ m x pl S0 cs):∃b,Go.Lf.ownerOf E=some (b,⟨τ,m,x⟩):=by
 rcases h.1 with⟨h,_⟩|⟨h,_⟩<;>subst h
 ·exact⟨false,rfl⟩
 ·exact⟨true,rfl⟩

theorem aP.val_ok{P:Program}{N:NP}{w0:World}{F0 H:aA}{env:St}{a:Act}{w:World}{F:aA}{S:Nat->aA}(hi:aJ P N w0 F0 H env a w F S)
  {v:Value} {vw:aP} (hv:aU P F w env (fun t=>a.tmps.getD t undef) S v vw) {τ:Ty} {y:τ.den} (h:vw.val=some ⟨τ,y⟩):aT (FA F S) w τ .shr none' v y:=by
 obtain⟨e,r,s⟩:=vw
 have hroot:=hv.root
 cases e with
 |shr σ z=>
  simp only[aP.val,Option.some.injEq,Sigma.mk.injEq]at h;obtain⟨rfl,h⟩:=h;cases h;have:=hv.ent rfl 0 (by simp[Ent.root]);simp only[aF,if_true]at this;exact this.mono (fun b hb=> .inl hb) (fun _ h=>h)
 |own σ m z=>
  simp only[aP.val,Option.some.injEq,Sigma.mk.injEq]at h;obtain⟨rfl,h⟩:=h;cases h;obtain⟨t,_,h2,rfl⟩:=hv.own rfl;have h3:=hi.ent t;rw[h2]at h3;obtain⟨pl,S0,cs,h3⟩:=h3;obtain⟨_,_,_,e1,e2⟩:=h3.own_inj;subst e1;exact aT.freeze ⟨cs,e2,h3.2.2⟩ (fun b hb=>hb.imp id fun hb=>⟨t,hb⟩)
 |sub q p=>
  simp only[aP.val]at h;have h1:=hv.ent rfl (q+1) (by simp[Ent.root]);simp only[aF,if_true]at h1;obtain⟨τ0,m0,x0,pl,S0,cs,σ,μ,pl',cs',g1,g2,g3,g4,g5,g6,g7⟩:=h1;simp only[show ¬(q=q+1)from by omega,if_false]at g1
  simp only[mQ,Ent.root]at hroot;obtain⟨⟨σ0,y0⟩,hg⟩:=Option.isSome_iff_exists.1 g5;have hgy:aN p τ0 x0=some ⟨τ,y⟩:=by
   rcases g1.1 with⟨hE,_⟩|⟨hE,_⟩<;> ·rw[hE]at hroot;subst hroot;exact h
  obtain⟨pl2,cs2,S2,f⟩:=focus p (fun b hb=>(hi.sb q b (g1.sub b hb)).2.2) g1.2.2 g1.2.1 hgy g6 g7
  have e:=f.loc.symm.trans g2
  simp only[Option.some.injEq,Prod.mk.injEq]at e;obtain⟨rfl,rfl⟩:=e;have e:=f.ok.read.symm.trans g3;simp only[Option.some.injEq]at e;subst e;exact aT.freeze ⟨cs2,g4,f.own⟩ (fun b hb=>hb.imp id fun hb=>⟨q,g1.sub b (f.sub b hb)⟩)
 |pend q p e me x'=>
  simp only[aP.val,Option.some.injEq,Sigma.mk.injEq]at h;obtain⟨rfl,h⟩:=h;cases h;have h1:=hv.ent rfl (q+1) (by simp[Ent.root]);simp only[aF,if_true]at h1;obtain⟨τ0,m0,x0,pl,S0,cs,y,pl',S',Sp,cp,g1,g2,g3,g4,g5,g6,g7,g8,g9⟩:=h1;exact aT.freeze ⟨cp,g6,g7⟩ (fun b hb=>hb.imp id fun hb=>⟨q,g8 b hb⟩)
 |rd q σ z=>
  simp only[aP.val,Option.some.injEq,Sigma.mk.injEq]at h;obtain⟨rfl,h⟩:=h;cases h;have h1:=hv.ent rfl (q+1) (by simp[Ent.root]);simp only[aF,if_true]at h1;exact h1.2.mono (fun b hb=>hb.imp id fun hb=>⟨q,hb⟩) (fun _ h=>h)
 |full e z=>
  simp only[aP.val,Option.some.injEq,Sigma.mk.injEq]at h;obtain⟨rfl,h⟩:=h;cases h;have:=hv.ent rfl 0 (by simp[Ent.root]);simp only[aF,if_true]at this;obtain⟨_,_,this⟩:=this;exact this.mono (fun b hb=> .inl hb) (fun _ h=>h)
 |_=>simp[aP.val]at h

theorem aT.int_eq{F S:aA}{w:World}{k:IntKind}{m:Md}{v:Value}{n:Int}(h:aT F w (.int k) m S v n):v= .int k n/\k.min<=n/\n<=k.max:=by
 obtain⟨cs,rfl,rfl,h⟩:=h;exact⟨rfl,h⟩
theorem aT.bool_eq{F S:aA}{w:World}{m:Md}{v:Value}{b:Bool}(h:aT F w .bool m S v b):v= .bool b:=by
 obtain⟨cs,rfl,rfl⟩:=h;rfl
theorem aT.str_eq{F S:aA}{w:World}{m:Md}{v:Value}{s:List UInt8}(h:aT F w .str m S v s):v= .string ⟨s.toArray⟩/\s.length<=lim:=by
 obtain⟨cs,rfl,rfl,h⟩:=h;exact⟨rfl,h⟩
theorem aT.slice_eq{F S:aA}{w:World}{e:Ty}{m:Md}{v:Value}{xs:List e.den}(h:aT F w (.slice e) m S v xs):∃ao cap,v= .slice ao xs.length cap/\xs.length<=cap/\xs.length<=lim:=by
 obtain⟨cs,rfl,ao,cap,rfl,h1,h2,_⟩:=h;exact⟨ao,cap,rfl,h1,h2⟩
theorem aT.mk_int(F S:aA)(w:World)(m:Md){k:IntKind}{n:Int}(h1:k.min<=n)(h2:n<=k.max):aT F w (.int k) m S (.int k n) n:=⟨[.int k n],rfl,rfl,h1,h2⟩
theorem aT.mk_bool(F S:aA)(w:World)(m:Md)(b:Bool):aT F w .bool m S (.bool b) b:=⟨[.bool b],rfl,rfl⟩
theorem aT.flat{F F' S S':aA}{w w':World}{τ:Ty}{m m':Md}{v:Value}{x:τ.den}(hf:τ.flat=true)(h:aT F w τ m S v x):aT F' w' τ m' S' v x:=by
 obtain⟨cs,h1,h2⟩:=h;exact⟨cs,h1,Own.flat hf h2⟩

end Go.Lf
