/- The maker of codes: loops and regions. -/
import Derived.Test.YtagdgckmikcllaaLfh
import Derived.BigQuiet
import Derived.WalkKit
import Derived.Lib.Walk
import Derived.Lib.SliceRun
import Derived.Laws.Rows
import Derived.Handy
set_option linter.unusedVariables false
set_option linter.unusedSimpArgs false
namespace Go.User
open Go.Proofs Go.Lf
set_option maxRecDepth 100000
theorem vc40:(eR C40 (hY C40) S40 L40 Try.f40)=(
let q0:Int:=(1:Int);
let q1:Int×Int×Unit:=(q0,(8:Int),());
let q2:Int:=(2:Int);
let q3:Int×Unit:=((4:Int),());
let q4:Int:=(3:Int);
∀(x:Unit),True->True->((True/\True)/\True)/\((True/\True/\True/\True/\True/\True/\True)/\True/\True)/\(((97:UInt8)::([]:List UInt8)),q0,q1)::(((102:UInt8)::([]:List UInt8)),q0,q2,q3)::(((115:UInt8)::([]:List UInt8)),q2,q1)::(((112:UInt8)::([]:List UInt8)),q4,q0,q3)::(((98:UInt8)::([]:List UInt8)),q2,q4,q3)::([]:List cC.den)=Sp.mX):=by kernel_rfl
theorem vc17:(eR C17 (hY C17) S17 L17 Try.f17)=(
∀(x:Int×Unit),True->aB tI x.1/\True->((True/\True)/\True)/\((True/\True/\True)/\True/\True)/\((2:Int),x.1,(0:Int),())=Sp.bK x.1):=by kernel_rfl
theorem vc19:(eR C19 (hY C19) S19 L19 Try.f19)=(
∀(x:Int×Unit),True->aB (Ty.int IntKind.i32) x.1/\True->((True/\True)/\True)/\((True/\True/\True)/\True/\True)/\((1:Int),(0:Int),x.1,())=Sp.fY x.1):=by kernel_rfl
theorem vc39:(∀q:Nat,rU (C39 q) (hY (C39 q)) S39 (L39 q) Try.f39)=(
let q0:=(True/\True)/\True;
let q1:Int:=(1:Int);
let q2:=True/\True/\True;
let q3:=True/\q2;
let q4:Int:=(0:Int);
∀(q:Nat) (x:Sp.Mk),
 let q5:Int:=x.2.1+q1;
 let q6:=x.1.length;
 let q7:Bool:=decide (q5>(↑q6:Int));
 let q8:=(x.1,q5,x.2.2)=Sp.nxM x;
 let q9:Int:=q5-q1;
 ∀(y:Unit),Sp.aL (5000:Nat) x->aB tMk x->True->q0/\((True/\True/\True/\True/\inK IntKind.i64 q5/\q2)/\True/\True)/\((True/\True/\True/\True/\True/\True/\True/\q3)/\True)/\(q7=true->q0/\q8/\q4=Sp.nxV x/\false=false)/\(q7=false->((True/\True/\True/\True/\True/\True/\True/\True/\inK IntKind.i64 q9/\inN q9 q6/\q3)/\True)/\q8/\x.1.getD q9.toNat q4=Sp.nxV x/\false=false)):=by kernel_rfl
theorem vc83:(∀q:Nat,rU (C83 q) (hY (C83 q)) S83 (L83 q) Try.f83)=(
let q0:=(2:Nat);
let q1:Int:=(0:Int);
let q2:Sp.Opd:=(q1,q1,q1,());
let q3:=aD.fst=aD.fst/\True;
let q4:=aD.snd=aD.snd/\aD.snd=aD.snd/\aD.fst=aD.fst/\aD.snd=aD.snd/\aD.snd=aD.snd/\aD.snd=aD.snd/\aD.snd=aD.snd/\aD.snd=aD.snd/\aD.snd=aD.snd/\aD.snd=aD.snd/\q3;
let q5:=True/\True/\True;
let q6:=True/\True/\True/\q5;
∀(q:Nat) (x:Sp.Mk),
 let q7:Int×Int×Int×List Sp.Arr×List Sp.Opd×List Sp.Block×Unit:=x.2.2.1.2.2;
 let q8:Int×Int×List Sp.Arr×List Sp.Opd×List Sp.Block×Unit:=q7.2;
 let q9:Int×List Sp.Arr×List Sp.Opd×List Sp.Block×Unit:=q8.2;
 let q10:List Sp.Arr×List Sp.Opd×List Sp.Block×Unit:=q9.2;
 let q11:List Sp.Opd×List Sp.Block×Unit:=q10.2;
 let q12:List Sp.Block×Unit:=q11.2;
 let q13:List Sp.Block:=q12.1;
 let q14:=q13.length;
 let q15:Int:=(↑q14:Int)-(1:Int);
 let q16:=inN q15 q14;
 let q17:=q15.toNat;
 let q18:Sp.Block:=q13.getD q17 (([]:List aC.den),(q1,q1,q2,q2,q2,List.replicate q0 q1,()),());
 let q19:List Sp.Inst:=q18.1;
 let q20:List aD:=aD.snd::aD.snd::aD.fst::aD.snd::aD.snd::aD.snd::aD.snd::aD.snd::aD.snd::aD.snd::aD.fst::aD.idx q17::aD.fst::([]:List aD);
 ∀(y:Sp.Inst×Unit),
 let q21:List Sp.Inst:=y.1::([]:List aC.den);
 Sp.aL (5000:Nat) x/\Sp.has x->aB (tU8.slice.prod (tI.prod ((tI.prod (tI.prod (tI.prod (tI.prod (tI.prod (cC.slice.prod (bC.slice.prod ((aC.slice.prod ((tI.prod (tI.prod (aM.prod (aM.prod (aM.prod ((Ty.arr q0 tI).prod Ty.unit)))))).prod Ty.unit)).slice.prod Ty.unit)))))))).prod Ty.unit))) x->aB aC y.1/\True->((True/\True)/\True)/\((True/\True/\True/\True/\True/\True/\inK IntKind.i64 q15/\True/\True)/\True)/\(((True/\True/\True/\True/\True/\True/\True/\True/\True/\True/\True/\True/\q16/\True/\True/\True/\True/\(↑(q19.length+q21.length):Int)<=bJ/\q16/\True/\True)/\True/\True/\True/\True/\True/\True/\True/\True/\True/\True/\True/\True/\True/\True/\True/\True/\True/\((True/\True/\True/\True/\q4/\True/\True/\True/\True/\True/\q4/\True/\True/\True/\(aD.snd=aD.snd/\aD.snd=aD.snd/\aD.fst=aD.fst/\aD.snd=aD.snd/\aD.snd=aD.snd/\aD.snd=aD.snd/\aD.snd=aD.snd/\aD.snd=aD.snd/\aD.snd=aD.snd/\aD.snd=aD.snd/\aD.fst=aD.fst/\aD.idx q17=aD.idx q17/\q3)/\q6)/\True/\True/\True/\True/\True/\True/\True/\True/\True/\True/\True/\True/\True/\True/\True/\True/\True/\True/\True/\True/\True/\True/\q4/\True/\True/\True/\True/\q6)/\q5)/\q20=q20/\True)/\(x.1,x.2.1,(x.2.2.1.1,x.2.2.1.2.1,q7.1,q8.1,q9.1,q10.1,q11.1,q13.set q17 (q19++q21,q18.2),q12.2),x.2.2.2)=Sp.eE x y.1/\(([]:List Go.ResultVar)).toArray.toList=([]:List Go.ResultVar)/\Ty.unit=Ty.unit):=by kernel_rfl
theorem vc43:(∀q:Nat,rU (C43 q) (hY (C43 q)) S43 (L43 q) Try.f43)=(
let q0:=(2:Nat);
let q1:Int:=(0:Int);
let q2:Sp.Opd:=(q1,q1,q1,());
let q3:List Sp.Block:=(([]:List aC.den),(q1,q1,q2,q2,q2,List.replicate q0 q1,()),())::([]:List eW.den);
let q4:List aD:=aD.snd::aD.snd::aD.fst::aD.snd::aD.snd::aD.snd::aD.snd::aD.snd::aD.snd::aD.snd::aD.fst::([]:List aD);
∀(q:Nat) (x:Sp.Mk),
 let q5:Int×Int×Int×List Sp.Arr×List Sp.Opd×List Sp.Block×Unit:=x.2.2.1.2.2;
 let q6:Int×Int×List Sp.Arr×List Sp.Opd×List Sp.Block×Unit:=q5.2;
 let q7:Int×List Sp.Arr×List Sp.Opd×List Sp.Block×Unit:=q6.2;
 let q8:List Sp.Arr×List Sp.Opd×List Sp.Block×Unit:=q7.2;
 let q9:List Sp.Opd×List Sp.Block×Unit:=q8.2;
 let q10:List Sp.Block×Unit:=q9.2;
 let q11:List Sp.Block:=q10.1;
 ∀(y:Unit),Sp.aL (5000:Nat) x->aB (tU8.slice.prod (tI.prod ((tI.prod (tI.prod (tI.prod (tI.prod (tI.prod (cC.slice.prod (bC.slice.prod ((aC.slice.prod ((tI.prod (tI.prod (aM.prod (aM.prod (aM.prod ((Ty.arr q0 tI).prod Ty.unit)))))).prod Ty.unit)).slice.prod Ty.unit)))))))).prod Ty.unit))) x->True->((True/\True/\True/\True/\True/\True/\True/\True/\True)/\(↑(q11.length+q3.length):Int)<=bJ/\True/\True/\True/\q4=q4/\True)/\(x.1,x.2.1,(x.2.2.1.1,x.2.2.1.2.1,q5.1,q6.1,q7.1,q8.1,q9.1,q11++q3,q10.2),x.2.2.2)=Sp.fG x/\(([]:List Go.ResultVar)).toArray.toList=([]:List Go.ResultVar)/\Ty.unit=Ty.unit):=by kernel_rfl
theorem vc44:(∀q:Nat,rU (C44 q) (hY (C44 q)) S44 (L44 q) Try.f44)=(
let q0:=(5000:Nat);
let q1:Int:=(6:Int);
∀(q:Nat) (x:Sp.Mk) (y:Unit),Sp.aL q0 x->aB tMk x->True->((True/\True)/\True)/\((True/\True)/\Sp.aL q0 x/\q1≠(0:Int)/\True/\True/\True)/\Sp.nxM x=Sp.nxM x/\Sp.bK ((Sp.nxV x).tmod q1)=Sp.d7 x):=by kernel_rfl
theorem vc45:(∀q:Nat,rU (C45 q) (hY (C45 q)) S45 (L45 q) Try.f45)=(
let q0:=(5000:Nat);
let q1:Int:=(3:Int);
let q2:Int:=(0:Int);
let q3:=q1≠q2;
let q4:Int:=(6:Int);
∀(q:Nat) (x:Sp.Mk),
 let q5:Bool:=(Sp.nxV x).tmod q1==q2;
 let q6:Int:=(Sp.nxV x).tdiv q1;
 let q7:=q3/\inK IntKind.i64 q6;
 let q8:=Sp.nxM x=Sp.nxM x;
 ∀(y:Unit),Sp.aL q0 x->aB tMk x->True->((True/\True)/\True)/\((True/\True)/\Sp.aL q0 x/\True/\True)/\((True/\q3/\True/\True)/\True)/\(q5=true->((True/\q7/\True/\True/\True/\True)/\True/\True)/\q8/\Sp.fY (IntKind.i32.wrap (IntKind.i32.wrap q6-(20:Int)))=Sp.eL x)/\(q5=false->((True/\q7/\q4≠q2/\True/\True)/\True/\True)/\q8/\Sp.bK (q6.tmod q4)=Sp.eL x)):=by kernel_rfl
end Go.User
namespace Sp
theorem aL.mono{n m:Nat}{s:Mk}(h:aL n s)(hm:n<=m):aL m s:=
 ⟨h.at0,by have:=h.at1;omega,h.arr,Nat.le_trans h.blk hm,fun b hb=>Nat.le_trans (h.ins b hb) hm,Nat.le_trans h.lps hm⟩
theorem aL.nx{n:Nat}{s:Mk}(h:aL n s):aL (n+1) (nxM s):=by
 have h0:=h.at0
 have h1:=h.at1
 exact⟨by show 0<=s.2.1+1;omega,by show s.2.1+1<=((n+1:Nat):Int);omega,h.arr,Nat.le_succ_of_le h.blk,fun b hb=>Nat.le_succ_of_le (h.ins b hb),Nat.le_succ_of_le h.lps⟩
theorem iR{α}{l:List α}{i:Nat}{a b:α}(h:b∈l.set i a):b∈l∨b=a:=List.mem_or_eq_of_mem_set h
theorem aL.put{n:Nat}{s:Mk}(h:aL n s)(i:Inst):aL (n+1) (eE s i):=by
 refine⟨h.at0,by have:=h.at1;show s.2.1<=((n+1:Nat):Int);omega,h.arr,?_,?_,Nat.le_succ_of_le h.lps⟩
 ·show(List.set _ _ _).length<=_
  rw[List.length_set];exact Nat.le_succ_of_le h.blk
 ·intro b hb
  rcases iR (show b∈List.set _ _ _ from hb)with hb|rfl
  ·exact Nat.le_succ_of_le (h.ins b hb)
  ·show(List.length (_++[i]))<=n+1
   rw[List.length_append];have:((cB s.2.2.1).getD ((cB s.2.2.1).length-1) bE).1.length<=n:=by
    rcases Nat.lt_or_ge ((cB s.2.2.1).length-1) (cB s.2.2.1).length with hl|hl
    ·rw[List.getD_eq_getElem?_getD,List.getElem?_eq_getElem hl];exact h.ins _ (List.getElem_mem hl)
    ·rw[List.getD_eq_getElem?_getD,List.getElem?_eq_none hl];exact Nat.zero_le _
   simpa using Nat.succ_le_succ this
theorem has.put{s:Mk}(h:has s)(i:Inst):has (eE s i):=by
 unfold has
 show 0<(List.set _ _ _).length
 rw[List.length_set];exact h
theorem aL.bl{n:Nat}{s:Mk}(h:aL n s):aL (n+1) (fG s):=by
 refine⟨h.at0,by have:=h.at1;show s.2.1<=((n+1:Nat):Int);omega,h.arr,?_,?_,Nat.le_succ_of_le h.lps⟩
 ·show(List.length (_++[bE]))<=n+1
  rw[List.length_append];exact Nat.succ_le_succ h.blk
 ·intro b hb
  rcases List.mem_append.1 (show b∈cB s.2.2.1++[bE]from hb)with hb|hb
  ·exact Nat.le_succ_of_le (h.ins b hb)
  ·rw[List.mem_singleton.1 hb];exact Nat.zero_le _
theorem has.bl{s:Mk}:has (fG s):=by
 show 0<(List.length (_++[bE]))
 rw[List.length_append];exact Nat.succ_pos _
theorem fB(s:Mk)(h:∀v∈s.1,0<=v/\v<=255):0<=nxV s/\nxV s<=255:=by
 unfold nxV
 split
 ·exact⟨Int.le_refl _,by omega⟩
 ·rw[List.getD_eq_getElem?_getD]
  rcases Nat.lt_or_ge s.2.1.toNat s.1.length with hl|hl
  ·rw[List.getElem?_eq_getElem hl];exact h _ (List.getElem_mem hl)
  ·rw[List.getElem?_eq_none hl];exact⟨Int.le_refl _,by decide⟩
end Sp
namespace Go.User
open Go.Lf Go.Proofs
theorem okM'{C:Ctx}(q:Nat)(h:∀f s,Lf.look C.fns f=some s->FOk Try.prog f s)(hp:∀f s,Lf.look C.ptrs f=some s->∃o,POk Try.prog f s o/\∀q,o=some q->C.pin.isSome=true/\q=C.q)(h1:C.tys=cS q)(h2:C.eqs=eqs)(h4:C.thk=none)(h5:C.clo=none)(h6:C.ins=[])(h7:C.kno=none):aG Try.prog C:=
 ctx_okQ q h1 h2 h hp (fun _ h=>by rw[h4]at h;cases h) (fun _ h=>by rw[h5]at h;cases h) (by rw[h6];exact ins_nil) (fun _ h=>by rw[h7]at h;cases h)
theorem eS{l:List Int}(h:aB (.slice tU8) l):∀v∈l,0<=v/\v<=255:=by
 intro v hv
 have:=h.2 v hv
 exact⟨this.1,this.2⟩
theorem uY{n:Nat}(h:0<n):inN ((n:Int)-1) n:=⟨by omega,by omega⟩
theorem ok40:FOk Try.prog 40 S40:=by
 have hC:aG Try.prog C40:=okC aS rfl rfl rfl rfl rfl rfl rfl
 refine FOk.intro hC (cU hC) Try.call40 Try.func40 (by kernel_rfl) (by kernel_rfl) L40 (vc40.mpr ?_)
 simp only[zz,zy]
 rfl
theorem ok17:FOk Try.prog 17 S17:=by
 refine FOk.intro (okA aS) (cU (okA aS)) Try.call17 Try.func17 (by kernel_rfl) (by kernel_rfl) L17 (vc17.mpr ?_)
 simp only[zz,zy]
 intros;rfl
theorem ok19:FOk Try.prog 19 S19:=by
 refine FOk.intro (okA aS) (cU (okA aS)) Try.call19 Try.func19 (by kernel_rfl) (by kernel_rfl) L19 (vc19.mpr ?_)
 simp only[zz,zy]
 intros;rfl
theorem pk39:POk Try.prog 39 S39:=by
 have hC:∀q,aG Try.prog (C39 q):=fun q=>okM' q aS dW rfl rfl rfl rfl rfl rfl
 refine POk.intro hC (fun q=>cU (hC q)) Try.call39 Try.func39 (fun q=>rfl) (by kernel_rfl) L39 (vc39.mpr ?_)
 simp only[zz,zy]
 intro x hM hx
 have h0:=hM.at0
 have h1:=hM.at1
 have h1:x.2.1<=5000:=h1
 refine⟨aQ (by omega) (by omega),fun h=>⟨rfl,?_⟩,fun h=>⟨⟨aQ (by omega) (by omega),by show 0<=_;omega,by show _<(List.length x.1:Int);omega⟩,rfl,?_⟩⟩
 ·show 0=Sp.nxV x
  unfold Sp.nxV;rw[if_pos h]
 ·show _=Sp.nxV x
  unfold Sp.nxV;rw[if_neg (by omega)];have e:(x.2.1+1-1).toNat=x.2.1.toNat:=by omega
  show x.1.getD (x.2.1+1-1).toNat 0=_
  rw[e]
theorem pk83:POk Try.prog 83 S83:=by
 have hC:∀q,aG Try.prog (C83 q):=fun q=>okM' q aS dW rfl rfl rfl rfl rfl rfl
 refine POk.intro hC (fun q=>cU (hC q)) Try.call83 Try.func83 (fun q=>rfl) (by kernel_rfl) L83 (vc83.mpr ?_)
 simp only[zz,zy]
 intro x y hM hx hy
 have hb:=hM.1.blk
 have hi:=hM.1.ins
 have hh:=hM.2
 unfold Sp.cB at hb hi
 unfold Sp.has Sp.cB at hh
 revert hb hi hh
 obtain⟨L,A,⟨c1,c2,c3,c4,c5,c6,c7,B,u⟩,u2⟩:=x
 intro hb hi hh
 have hb:B.length<=5000:=hb
 have hi:∀b∈B,b.1.length<=5000:=hi
 have hh:0<B.length:=hh
 have e:((B.length:Int)-1).toNat=B.length-1:=by omega
 have hin:=uY hh
 refine⟨aQ (by omega) (by omega),⟨hin,?_,hin⟩,?_⟩
 ·show((List.length (List.getD B ((B.length:Int)-1).toNat Sp.bE).1+1:Nat):Int)<=bJ
  rw[lC,e];have:(List.getD B (B.length-1) Sp.bE).1.length<=5000:=by
   rw[List.getD_eq_getElem?_getD,List.getElem?_eq_getElem (by omega)];exact hi _ (List.getElem_mem _)
  omega
 ·show(L,A,(c1,c2,c3,c4,c5,c6,c7,List.set B ((B.length:Int)-1).toNat ((List.getD B ((B.length:Int)-1).toNat Sp.bE).1++[y.1],(List.getD B ((B.length:Int)-1).toNat Sp.bE).2),u),u2)=_
  rw[e]
  rfl
theorem pk43:POk Try.prog 43 S43:=by
 have hC:∀q,aG Try.prog (C43 q):=fun q=>okM' q aS dW rfl rfl rfl rfl rfl rfl
 refine POk.intro hC (fun q=>cU (hC q)) Try.call43 Try.func43 (fun q=>rfl) (by kernel_rfl) L43 ?_
 rw[vc43]
 simp only[zz,zy]
 intro x hM hx
 have hb:=hM.blk
 unfold Sp.cB at hb
 refine⟨?_,rfl⟩
 rw[lC]
 have hb':((x.2.2.1.2.2.2.2.2.2.2.1.length:Nat):Int)<=5000:=Int.ofNat_le.mpr hb
 show((x.2.2.1.2.2.2.2.2.2.2.1.length+1:Nat):Int)<=2147483648
 omega
theorem pk44:POk Try.prog 44 S44:=by
 have hC:∀q,aG Try.prog (C44 q):=fun q=>okM' q (aE ok17 aS) (cG pk39 dW) rfl rfl rfl rfl rfl rfl
 refine POk.intro hC (fun q=>cU (hC q)) Try.call44 Try.func44 (fun q=>rfl) (by kernel_rfl) L44 (vc44.mpr ?_)
 simp only[zz,zy]
 intro x hM hx
 refine⟨⟨hM,by decide⟩,?_⟩
 rfl
theorem pk45:POk Try.prog 45 S45:=by
 have hC:∀q,aG Try.prog (C45 q):=fun q=>okM' q (aE ok17 (aE ok19 aS)) (cG pk39 dW) rfl rfl rfl rfl rfl rfl
 refine POk.intro hC (fun q=>cU (hC q)) Try.call45 Try.func45 (fun q=>rfl) (by kernel_rfl) L45 (vc45.mpr ?_)
 simp only[zz,zy]
 intro x hM hx
 have hb:=eS hx.1
 have hv:=Sp.fB x hb
 have hk:inK .i64 ((Sp.nxV x).tdiv 3):=by
  have h3:(Sp.nxV x).tdiv 3=Sp.nxV x/3:=Int.tdiv_eq_ediv_of_nonneg hv.1
  rw[h3];exact aQ (by omega) (by omega)
 refine⟨hM,by decide,fun h=>⟨⟨by decide,hk⟩,?_⟩,fun h=>⟨⟨⟨by decide,hk⟩,by decide⟩,?_⟩⟩
 ·show _=Sp.eL x
  unfold Sp.eL;rw[if_pos h]
 ·show _=Sp.eL x
  unfold Sp.eL;rw[if_neg h]
end Go.User
namespace Sp
def i3(op sub n:Int)(d a b:Opd):Inst:=(op,sub,n,d,a,b,bM,())
def plN(s:Mk)(p:Bool):Int:=if Int.tmod (nxV s) 5=3/\p=false then 0 else Int.tmod (nxV s) 5
def plD(s:Mk):Opd:=d7 (nxM s)
def plI(s:Mk)(p:Bool):Inst:=i3 3 17 0 (plD s) (eL (nxM (nxM s))) (fY (Go.IntKind.wrap .i32 ((mX.getD (plN s p).toNat ([],0,0,0,())).2.2.2.1-1)))
def plM(s:Mk)(p:Bool):Mk:=eE (nxM (nxM (nxM s))) (plI s p)
def inK(s:Mk):Int:=Int.tmod (nxV s) 16
def in0(s:Mk):Mk:=eE (nxM (nxM s)) (i3 5 (1+Int.tmod (nxV s) 7) 0 (d7 (nxM s)) bM bM)
def in3(s:Mk):Mk:=eE (nxM (nxM (nxM (nxM s)))) (i3 3 (10+Int.tmod (nxV s) 20) 0 (d7 (nxM s)) (eL (nxM (nxM s))) (eL (nxM (nxM (nxM s)))))
def in7(s:Mk):Mk:=eE (nxM (nxM (nxM s))) (i3 2 (1+Int.tmod (nxV s) 5) 0 (d7 (nxM s)) (eL (nxM (nxM s))) bM)
def in8(s:Mk):Mk:=eE (nxM (nxM (nxM (nxM s)))) (4,0,0,d7 s,eL (nxM s),eL (nxM (nxM s)),eL (nxM (nxM (nxM s))),())
def in9(s:Mk):Mk:=eE (nxM (nxM s)) (i3 1 0 0 (d7 s) (eL (nxM s)) bM)
def in10(s:Mk):Mk:=eE (nxM (nxM s)) (i3 6 0 (Int.tmod (nxV s) 3) (d7 (nxM s)) bM bM)
def in11(s:Mk):Mk:=eE (nxM s) (i3 10 (1+Int.tmod (nxV s) 2) 0 bM bM bM)
def ops6:List Int:=[10,22,23,17,18,19]
def in12(s:Mk):Mk:=eE (nxM (nxM (plM s false))) (i3 9 (ops6.getD (Int.tmod (nxV (plM s false)) 6).toNat 0) (plN s false) bM (plD s) (eL (nxM (plM s false))))
def in13(s:Mk):Mk:=eE (nxM (plM s true)) (i3 7 0 (plN s true) (d7 (plM s true)) (plD s) bM)
def in14(s:Mk):Mk:=eE (nxM (plM s true)) (i3 8 0 (plN s true) bM (plD s) (eL (plM s true)))
def i7(k:Int)(s:Mk):Mk:=
 if k<3 then in0 s else if k<7 then in3 s else if k=7 then in7 s else if k=8 then in8 s else if k=9 then in9 s else if k=10 then in10 s
 else if k=11 then in11 s else if k=12 then in12 s else if k=13 then in13 s else in14 s
def bX(s:Mk):Mk:=i7 (inK s) (nxM s)
def instN:Nat->Mk->Mk
 |0,s=>s
 |k+1,s=>instN k (bX s)
def insM(s:Mk):Mk:=instN (Int.tmod (nxV s) 5).toNat (nxM s)
end Sp
namespace Go.User
open Go.Lf
def S97:dF:={τ:=tMk,m:=mMk,args:=[.val .bool],multi:=true,res:= .prod tI (.prod aM .unit),pre:=fun s _=>Sp.aL 4900 s/\Sp.has s,fn:=fun s y=>Sp.plM s y.1,out:=fun s y=>(Sp.plN s y.1,Sp.plD s,())}
def C97(q:Nat):Ctx:=mkM 39 q [(19,S19)] [(39,S39),(44,S44),(45,S45),(83,S83)]
def L97(q:Nat)(x:S97.τ.den)(y:aH S97.args):List aW:=[]
def S84:dF:={τ:=tMk,m:=mMk,pre:=fun s _=>Sp.aL 4800 s/\Sp.has s,fn:=fun s y=>Sp.bX s,out:=fun _ _=>()}
def C84(q:Nat):Ctx:=mkM 133 q [] [(39,S39),(44,S44),(45,S45),(83,S83),(97,S97)]
def L84(q:Nat)(x:S84.τ.den)(y:aH S84.args):List aW:=[]
def S46:dF:={τ:=tMk,m:=mMk,pre:=fun s _=>Sp.aL 4500 s/\Sp.has s,fn:=fun s y=>Sp.insM s,out:=fun _ _=>()}
def C46(q:Nat):Ctx:=mkM 12 q [] [(39,S39),(84,S84)]
def L46(q:Nat)(x:S46.τ.den)(y:aH S46.args):List aW:=[
 {ι:=Nat×Sp.Mk,inv:=fun t=>t.1<=4/\Sp.aL (4700-10*t.1) t.2/\Sp.has t.2/\Sp.instN t.1 t.2=Sp.insM x,dec:=fun t=>t.1,ovr:=fun t=>[(0,.box tMk mMk t.2),(2,.shr tI (t.1:Int))],keep:=[]}]
end Go.User
namespace Go.User
open Go.Proofs Go.Lf
set_option maxRecDepth 100000
theorem vc97:(∀q:Nat,rU (C97 q) (hY (C97 q)) S97 (L97 q) Try.f97)=(
let q0:=True/\True/\True;
let q1:=(5000:Nat);
let q2:Int:=(5:Int);
let q3:Int:=(0:Int);
let q4:Int:=(3:Int);
let q5:Sp.Arr:=(([]:List UInt8),q3,q3,q3,());
let q6:Int:=(1:Int);
let q7:=(0:Nat);
let q8:=q7=q7;
let q9:=True/\q8/\([]:List aD)=([]:List aD);
let q10:List aD:=aD.snd::aD.snd::aD.fst::([]:List aD);
let q11:=True/\q8/\q10=q10;
let q12:List aD:=aD.snd::aD.snd::aD.fst::aD.snd::aD.snd::aD.snd::q10;
let q13:=True/\q8/\q12=q12;
let q14:=q9/\True;
let q15:=True/\q0;
let q16:=q15/\True/\True;
let q17:Int:=(17:Int);
let q18:Sp.Opd×Unit:=((q3,q3,q3,()),());
∀(q:Nat) (x:Sp.Mk),
 let q19:Int:=(Sp.nxV x).tmod q2;
 let q20:Bool:=q19==q4;
 let q21:=(true&&bif q20 then true else false)=true->True;
 let q22:=(True/\True)/\Sp.aL q1 (Sp.nxM x)/\q0;
 let q23:List Sp.Arr:=x.2.2.1.2.2.2.2.2.1;
 let q24:=q23.length;
 let q25:=inN q3 q24;
 let q26:Sp.Arr:=q23.getD q3.toNat q5;
 let q27:Int:=q26.2.2.2.1;
 let q28:Int:=q27-q6;
 let q29:=inK IntKind.i64 q28;
 let q30:=True/\Sp.d7 (Sp.nxM x)=Sp.d7 (Sp.nxM x);
 let q31:=True/\q23=q23;
 let q32:=True/\q27=q27;
 let q33:Int:=IntKind.i32.wrap q28;
 let q34:=q9/\q9/\q11/\q13/\q31/\(True/\q3=q3)/\(q25/\q26=q26)/\q32/\q32/\(q29/\q28=q28)/\(True/\q33=q33)/\True;
 let q35:=Sp.aL q1 (Sp.nxM (Sp.nxM x));
 let q36:=q9/\q30/\True;
 let q37:Sp.Mk:=Sp.nxM (Sp.nxM (Sp.nxM x));
 let q38:=Sp.aL q1 q37/\Sp.has q37;
 let q39:Sp.Opd:=Sp.eL (Sp.nxM (Sp.nxM x));
 let q40:Sp.Opd×Unit:=(Sp.d7 (Sp.nxM x),());
 let q41:=inN q19 q24;
 let q42:Sp.Arr:=q23.getD q19.toNat q5;
 let q43:Int:=q42.2.2.2.1;
 let q44:Int:=q43-q6;
 let q45:=inK IntKind.i64 q44;
 let q46:=True/\q43=q43;
 let q47:Int:=IntKind.i32.wrap q44;
 let q48:=q9/\q9/\q11/\q13/\q31/\(True/\q19=q19)/\(q41/\q42=q42)/\q46/\q46/\(q45/\q44=q44)/\(True/\q47=q47)/\True;
 ∀(y:Bool×Unit),
 let q49:Bool:=bif q20 then !y.1 else false;
 let q50:Int×Sp.Opd×Unit:=(Sp.plN x y.1,Sp.plD x,());
 Sp.aL (4900:Nat) x/\Sp.has x->aB tMk x->aB Ty.bool y.1/\True->(q0/\True)/\((True/\True)/\Sp.aL q1 x/\q2≠q3/\True/\True)/\((True/\True/\True/\q21/\q21/\True/\True)/\True)/\(q49=true->((True/\True)/\True)/\q22/\(True/\True/\True/\True/\True/\True/\True/\True/\True/\q25/\True/\True/\q29/\True/\True)/\(q9/\q30/\q9/\q34)/\(q35/\True/\(q9/\q30/\q34)/\(True/\True/\q36/\(True/\True/\q14/\(q38/\True/\True/\q16/\Sp.eE q37 (q4,q17,q3,Sp.d7 (Sp.nxM x),q39,Sp.fY q33,q18)=Sp.plM x y.1/\(q3,q40)=q50)/\True)/\True/\True)/\q0)/\q15)/\(q49=false->q22/\(True/\True/\True/\True/\True/\True/\True/\True/\True/\q41/\True/\True/\q45/\True/\True)/\(q9/\q30/\q9/\q48)/\(q35/\True/\(q9/\q30/\q48)/\(True/\True/\q36/\(True/\True/\q14/\(q38/\True/\True/\q16/\Sp.eE q37 (q4,q17,q3,Sp.d7 (Sp.nxM x),q39,Sp.fY q47,q18)=Sp.plM x y.1/\(q19,q40)=q50)/\True)/\True/\True)/\q0)/\q15)):=by kernel_rfl
theorem vc84:(∀q:Nat,rU (C84 q) (hY (C84 q)) S84 (L84 q) Try.f84)=(
let q0:=(5000:Nat);
let q1:Int:=(16:Int);
let q2:Int:=(0:Int);
let q3:=True/\True/\True;
let q4:=q3/\True;
let q5:Int:=(3:Int);
let q6:Int:=(7:Int);
let q7:Int:=(1:Int);
let q8:Int:=(5:Int);
let q9:Sp.Opd:=(q2,q2,q2,());
let q10:Sp.Opd×Unit:=(q9,());
let q11:Sp.Opd×Sp.Opd×Unit:=(q9,q10);
let q12:Sp.Opd×Sp.Opd×Sp.Opd×Unit:=(q9,q11);
let q13:=(([]:List Go.ResultVar)).toArray.toList=([]:List Go.ResultVar)/\Ty.unit=Ty.unit;
let q14:Int:=(20:Int);
let q15:Int:=(10:Int);
let q16:=True/\q3;
let q17:Int:=(2:Int);
let q18:Int:=(8:Int);
let q19:Int:=(9:Int);
let q20:Int:=(6:Int);
let q21:=True/\q16;
let q22:=True/\q21;
let q23:=(0:Nat);
let q24:=True/\q23=q23/\([]:List aD)=([]:List aD);
let q25:=q24/\True;
let q26:=q20≠q2;
let q27:List Int:=q15::(22:Int)::(23:Int)::(17:Int)::(18:Int)::(19:Int)::([]:List tI.den);
let q28:=(100:Nat);
∀(q:Nat) (x:Sp.Mk),
 let q29:Int:=(Sp.nxV x).tmod q1;
 let q30:Bool:=decide (q29<q5);
 let q31:=Sp.aL q0 (Sp.nxM x);
 let q32:Int:=q7+(Sp.nxV (Sp.nxM x)).tmod q6;
 let q33:=Sp.aL q0 (Sp.nxM (Sp.nxM x));
 let q34:Sp.Mk:=Sp.nxM (Sp.nxM (Sp.nxM x));
 let q35:=Sp.aL q0 q34;
 let q36:=True/\q33/\True/\(q35/\Sp.has q34)/\True;
 let q37:Sp.Opd:=Sp.d7 (Sp.nxM (Sp.nxM x));
 let q38:Sp.Opd×Sp.Opd×Sp.Opd×Sp.Opd×Unit:=(q37,q12);
 let q39:Bool:=decide (q29<q6);
 let q40:Int:=q15+(Sp.nxV (Sp.nxM x)).tmod q14;
 let q41:Sp.Mk:=Sp.nxM q34;
 let q42:=Sp.aL q0 q41;
 let q43:Sp.Mk:=Sp.nxM q41;
 let q44:=q33/\True/\q35/\True/\q42/\True/\(Sp.aL q0 q43/\Sp.has q43)/\True;
 let q45:Sp.Opd:=Sp.eL q34;
 let q46:Sp.Opd:=Sp.eL q41;
 let q47:Bool:=q29==q6;
 let q48:Int:=q7+(Sp.nxV (Sp.nxM x)).tmod q8;
 let q49:Bool:=q29==q18;
 let q50:Sp.Opd:=Sp.eL (Sp.nxM (Sp.nxM x));
 let q51:Bool:=q29==q19;
 let q52:Bool:=q29==q15;
 let q53:Bool:=q29==(11:Int);
 let q54:Int:=q7+(Sp.nxV (Sp.nxM x)).tmod q17;
 let q55:Bool:=q29==(12:Int);
 let q56:=(True/\True)/\(Sp.aL (4900:Nat) (Sp.nxM x)/\Sp.has (Sp.nxM x))/\True/\q22;
 let q57:Int:=Sp.plN (Sp.nxM x) false;
 let q58:=True/\q57=q57;
 let q59:=True/\Sp.plD (Sp.nxM x)=Sp.plD (Sp.nxM x);
 let q60:=q24/\q24/\q58/\q59/\q25;
 let q61:Sp.Mk:=Sp.plM (Sp.nxM x) false;
 let q62:=Sp.aL q0 q61;
 let q63:Int:=(Sp.nxV q61).tmod q20;
 let q64:=inN q63 q27.length;
 let q65:=q64/\True/\True;
 let q66:=q26/\q63=q63;
 let q67:=q63.toNat;
 let q68:List aD:=aD.idx q67::([]:List aD);
 let q69:Int:=q27.getD q67 q2;
 let q70:=q66/\(q64/\q28=q28/\q68=q68)/\(True/\q69=q69)/\True;
 let q71:Sp.Mk:=Sp.nxM q61;
 let q72:=Sp.aL q0 q71;
 let q73:Sp.Mk:=Sp.nxM q71;
 let q74:=(q24/\q58/\q59/\q70)/\(True/\True/\q25/\((Sp.aL q0 q73/\Sp.has q73)/\True/\True/\Sp.eE q73 (q19,q69,q57,q9,Sp.plD (Sp.nxM x),Sp.eL q71,q10)=Sp.bX x/\q13)/\True)/\True/\True;
 let q75:=(q24/\q58/\q59/\q24/\q70)/\(q72/\True/\q74)/\q3;
 let q76:=q66/\True;
 let q77:Bool:=q29==(13:Int);
 let q78:Int:=Sp.plN (Sp.nxM x) true;
 let q79:=True/\q78=q78;
 let q80:=True/\Sp.plD (Sp.nxM x)=Sp.plD (Sp.nxM x);
 let q81:=q80/\True;
 let q82:Sp.Mk:=Sp.plM (Sp.nxM x) true;
 let q83:=Sp.aL q0 q82;
 let q84:=q24/\q79/\q81;
 let q85:Sp.Mk:=Sp.nxM q82;
 let q86:=Sp.aL q0 q85/\Sp.has q85;
 ∀(y:Unit),Sp.aL (4800:Nat) x/\Sp.has x->aB tMk x->True->((True/\True)/\Sp.aL q0 x/\q1≠q2/\True/\True)/\q4/\(q30=true->(q3/\q31/\q6≠q2/\inK IntKind.i64 q32/\q36)/\Sp.eE q34 (q8,q32,q2,q38)=Sp.bX x/\q13)/\(q30=false->q4/\(q39=true->((True/\True)/\q31/\q14≠q2/\inK IntKind.i64 q40/\True/\True)/\(q16/\q44)/\Sp.eE q43 (q5,q40,q2,q37,q45,q46,q10)=Sp.bX x/\q13)/\(q39=false->q4/\(q47=true->(q3/\q31/\q8≠q2/\inK IntKind.i64 q48/\True/\q33/\True/\q35/\True/\(q42/\Sp.has q41)/\True)/\Sp.eE q41 (q17,q48,q2,q37,q45,q11)=Sp.bX x/\q13)/\(q47=false->q4/\(q49=true->(q3/\q31/\True/\q44)/\Sp.eE q43 ((4:Int),q2,q2,Sp.d7 (Sp.nxM x),q50,q45,q46,())=Sp.bX x/\q13)/\(q49=false->q4/\(q51=true->(q3/\q31/\q36)/\Sp.eE q34 (q7,q2,q2,Sp.d7 (Sp.nxM x),q50,q11)=Sp.bX x/\q13)/\(q51=false->q4/\(q52=true->(q3/\q31/\q5≠q2/\q36)/\Sp.eE q34 (q20,q2,(Sp.nxV (Sp.nxM x)).tmod q5,q38)=Sp.bX x/\q13)/\(q52=false->q4/\(q53=true->(q3/\q31/\q17≠q2/\inK IntKind.i64 q54/\True/\(q33/\Sp.has (Sp.nxM (Sp.nxM x)))/\True)/\Sp.eE (Sp.nxM (Sp.nxM x)) (q15,q54,q2,q9,q12)=Sp.bX x/\q13)/\(q53=false->q4/\(q55=true->q56/\q22/\q60/\(True/\True/\q60/\(q62/\(q26/\q65)/\q75)/\q16)/\(q62/\(q26/\True)/\(q24/\q58/\q59/\q24/\q76)/\(True/\q65/\q75)/\(q72/\True/\(q24/\q58/\q59/\q76)/\(True/\q65/\q74)/\q3)/\q3)/\q16)/\(q55=false->q56/\q4/\(q77=true->q21/\(q24/\q79/\q24/\q81)/\(q83/\True/\q84/\(True/\True/\q25/\(q86/\True/\True/\Sp.eE q85 (q6,q2,q78,Sp.d7 q82,Sp.plD (Sp.nxM x),q11)=Sp.bX x/\q13)/\True)/\True/\True)/\q3)/\(q77=false->q21/\(q24/\q79/\q80/\q25)/\(q83/\True/\q84/\(True/\True/\q25/\(q86/\True/\True/\Sp.eE q85 (q18,q2,q78,q9,Sp.plD (Sp.nxM x),Sp.eL q82,q10)=Sp.bX x/\q13)/\True)/\True/\True)/\q3)))))))))):=by kernel_rfl
theorem vc46:(∀q:Nat,rU (C46 q) (hY (C46 q)) S46 (L46 q) Try.f46)=(
let q0:Int:=(5:Int);
let q1:Int:=(0:Int);
let q2:Int:=(1:Int);
∀(q:Nat) (x:Sp.Mk) (y:Unit),
 Sp.aL (4500:Nat) x/\Sp.has x->
 aB tMk x->
 True->
 ((True/\True)/\Sp.aL (5000:Nat) x/\q0≠q1/\True/\True)/\
 (∃(x_1:Nat×Sp.Mk),(x_1.1<=(4:Nat)/\Sp.aL ((4700:Nat)-(10:Nat)*x_1.1) x_1.2/\Sp.has x_1.2/\Sp.instN x_1.1 x_1.2=Sp.insM x)/\Sp.nxM x=x_1.2/\(Sp.nxV x).tmod q0=(↑x_1.1:Int)/\True)/\
 ∀(x_1:Nat×Sp.Mk),
 let q3:Int:=(↑x_1.1:Int);
 let q4:Bool:=decide (q3>q1);
 let q5:Int:=q3-q2;
 x_1.1<=(4:Nat)/\Sp.aL ((4700:Nat)-(10:Nat)*x_1.1) x_1.2/\Sp.has x_1.2/\Sp.instN x_1.1 x_1.2=Sp.insM x->aB tMk x_1.2/\aB tI q3/\True->((True/\True/\True)/\True)/\(q4=true->((True/\True)/\(Sp.aL (4800:Nat) x_1.2/\Sp.has x_1.2)/\True)/\((True/\inK IntKind.i64 q5/\True/\True)/\True)/\∃(y:Nat×Sp.Mk),(y.1<=(4:Nat)/\Sp.aL ((4700:Nat)-(10:Nat)*y.1) y.2/\Sp.has y.2/\Sp.instN y.1 y.2=Sp.insM x)/\y.1<x_1.1/\Sp.bX x_1.2=y.2/\q5=(↑y.1:Int)/\True)/\(q4=false->x_1.2=Sp.insM x/\(([]:List Go.ResultVar)).toArray.toList=([]:List Go.ResultVar)/\Ty.unit=Ty.unit)):=by kernel_rfl
end Go.User
namespace Sp
theorem fW{a k:Int}(h0:0<=a)(hk:0<k):0<=a.tmod k/\a.tmod k<k:=by
 rw[Int.tmod_eq_emod_of_nonneg h0]
 exact⟨Int.emod_nonneg _ (by omega),Int.emod_lt_of_pos _ hk⟩
theorem aL.pl{n:Nat}{s:Mk}(h:aL n s)(p:Bool):aL (n+4) (plM s p):=h.nx.nx.nx.put _
theorem aL.inst{n:Nat}{s:Mk}(h:aL n s):aL (n+10) (bX s):=by
 unfold bX i7
 have h1:=h.nx
 split
 ·exact(h1.nx.nx.put _).mono (by omega)
 split
 ·exact(h1.nx.nx.nx.nx.put _).mono (by omega)
 split
 ·exact(h1.nx.nx.nx.put _).mono (by omega)
 split
 ·exact(h1.nx.nx.nx.nx.put _).mono (by omega)
 split
 ·exact(h1.nx.nx.put _).mono (by omega)
 split
 ·exact(h1.nx.nx.put _).mono (by omega)
 split
 ·exact(h1.nx.put _).mono (by omega)
 split
 ·exact((h1.pl false).nx.nx.put _).mono (by omega)
 split
 ·exact((h1.pl true).nx.put _).mono (by omega)
 ·exact((h1.pl true).nx.put _).mono (by omega)
theorem has.inst{s:Mk}(h:has s):has (bX s):=by
 unfold bX i7
 have hp:∀p,has (plM (nxM s) p):=fun p=>has.put (s:=nxM (nxM (nxM (nxM s)))) h _
 split
 ·exact has.put (s:=nxM (nxM (nxM s))) h _
 split
 ·exact has.put (s:=nxM (nxM (nxM (nxM (nxM s))))) h _
 split
 ·exact has.put (s:=nxM (nxM (nxM (nxM s)))) h _
 split
 ·exact has.put (s:=nxM (nxM (nxM (nxM (nxM s))))) h _
 split
 ·exact has.put (s:=nxM (nxM (nxM s))) h _
 split
 ·exact has.put (s:=nxM (nxM (nxM s))) h _
 split
 ·exact has.put (s:=nxM (nxM s)) h _
 split
 ·exact has.put (s:=nxM (nxM (plM (nxM s) false))) (hp false) _
 split
 ·exact has.put (s:=nxM (plM (nxM s) true)) (hp true) _
 ·exact has.put (s:=nxM (plM (nxM s) true)) (hp true) _
end Sp
namespace Go.User
open Go.Lf Go.Proofs
theorem uZ(s:Sp.Mk)(hb:∀v∈s.1,0<=v/\v<=255)(c k:Int)(hc:0<=c/\c<=1000)(hk:0<k/\k<=1000):inK .i64 (c+(Sp.nxV s).tmod k):=by
 have:=Sp.fW (Sp.fB s hb).1 hk.1
 exact aQ (by omega) (by omega)
theorem inN_t(s:Sp.Mk)(hb:∀v∈s.1,0<=v/\v<=255)(k:Nat)(hk:0<k):inN ((Sp.nxV s).tmod k) k:=by
 have:=Sp.fW (Sp.fB s hb).1 (k:=k) (by omega)
 exact⟨this.1,this.2⟩
theorem arr_len{s:Sp.Mk}{n:Nat}(h:Sp.aL n s):s.2.2.1.2.2.2.2.2.1=Sp.mX:=h.arr
theorem arrs_len(n:Int):inK .i64 ((Sp.mX.getD n.toNat ([],0,0,0,())).2.2.2.1-1):=by
 have:∀k:Nat,0<=(Sp.mX.getD k ([],0,0,0,())).2.2.2.1/\(Sp.mX.getD k ([],0,0,0,())).2.2.2.1<=8:=by
  intro k
  match k with
  |0=>decide
  |1=>decide
  |2=>decide
  |3=>decide
  |4=>decide
  |k+5=>exact⟨Int.le_refl _,by show(0:Int)<=8;decide⟩
 have:=this n.toNat
 exact aQ (by omega) (by omega)
theorem pk97:POk Try.prog 97 S97:=by
 have hC:∀q,aG Try.prog (C97 q):=fun q=>okM' q (aE ok19 aS) (cG pk39 (cG pk44 (cG pk45 (cG pk83 dW)))) rfl rfl rfl rfl rfl rfl
 refine POk.intro hC (fun q=>cU (hC q)) Try.call97 Try.func97 (fun q=>rfl) (by kernel_rfl) L97 ?_
 rw[vc97]
 simp only[zz,zy]
 intro x y hM hx hy
 have hb:=eS hx.1
 have ha:=arr_len hM.1
 have k0:Sp.aL 5000 x:=hM.1.mono (by decide)
 have k1:Sp.aL 5000 (Sp.nxM x):=hM.1.nx.mono (by decide)
 have k2:Sp.aL 5000 (Sp.nxM (Sp.nxM x)):=hM.1.nx.nx.mono (by decide)
 have k3:Sp.aL 5000 (Sp.nxM (Sp.nxM (Sp.nxM x))):=hM.1.nx.nx.nx.mono (by decide)
 have hh:Sp.has (Sp.nxM (Sp.nxM (Sp.nxM x))):=hM.2
 simp only[ha]
 have i0:inN 0 Sp.mX.length:=⟨by decide,by decide⟩
 have i1:inN ((Sp.nxV x).tmod 5) Sp.mX.length:=inN_t x hb 5 (by decide)
 refine⟨⟨k0,by decide⟩,fun h=> ?_,fun h=> ?_⟩
 ·have e:Sp.plN x y.1=0:=by unfold Sp.plN;rw[if_pos h]
  have E:∀A,A=Sp.eE (Sp.nxM (Sp.nxM (Sp.nxM x))) (Sp.i3 3 17 0 (Sp.d7 (Sp.nxM x)) (Sp.eL (Sp.nxM (Sp.nxM x))) (Sp.fY (IntKind.wrap .i32 ((Sp.mX.getD (Int.toNat 0) ([],0,0,0,())).2.2.2.1-1))))->A=Sp.plM x y.1:=by
   rintro A rfl
   unfold Sp.plM Sp.plI;rw[e];rfl
  have E2:((0:Int),Sp.d7 (Sp.nxM x),())=(Sp.plN x y.1,Sp.plD x,()):=by rw[e];rfl
  repeat' first|assumption|exact arrs_len _|exact E _ rfl|constructor
 ·have e:Sp.plN x y.1=(Sp.nxV x).tmod 5:=by
   unfold Sp.plN;rw[if_neg];rintro⟨h1,h2⟩;rw[h1,h2]at h;cases h
  have E:∀A,A=Sp.eE (Sp.nxM (Sp.nxM (Sp.nxM x))) (Sp.i3 3 17 0 (Sp.d7 (Sp.nxM x)) (Sp.eL (Sp.nxM (Sp.nxM x))) (Sp.fY (IntKind.wrap .i32 ((Sp.mX.getD ((Sp.nxV x).tmod 5).toNat ([],0,0,0,())).2.2.2.1-1))))->A=Sp.plM x y.1:=by
   rintro A rfl
   unfold Sp.plM Sp.plI;rw[e];rfl
  have E2:((Sp.nxV x).tmod 5,Sp.d7 (Sp.nxM x),())=(Sp.plN x y.1,Sp.plD x,()):=by rw[e];rfl
  repeat' first|assumption|exact arrs_len _|exact E _ rfl|constructor
theorem pk84:POk Try.prog 84 S84:=by
 have hC:∀q,aG Try.prog (C84 q):=fun q=>okM' q aS (cG pk39 (cG pk44 (cG pk45 (cG pk83 (cG pk97 dW))))) rfl rfl rfl rfl rfl rfl
 refine POk.intro hC (fun q=>cU (hC q)) Try.call84 Try.func84 (fun q=>rfl) (by kernel_rfl) L84 ?_
 rw[vc84]
 simp only[zz,zy]
 intro x hM hx
 have hb:=eS hx.1
 obtain⟨hM,hh⟩:=hM
 have k0:Sp.aL 5000 x:=hM.mono (by decide)
 have m1:=hM.nx
 have k1:Sp.aL 5000 (Sp.nxM x):=m1.mono (by decide)
 have k1':Sp.aL 4900 (Sp.nxM x):=m1.mono (by decide)
 have k2:Sp.aL 5000 (Sp.nxM (Sp.nxM x)):=m1.nx.mono (by decide)
 have k3:Sp.aL 5000 (Sp.nxM (Sp.nxM (Sp.nxM x))):=m1.nx.nx.mono (by decide)
 have k4:Sp.aL 5000 (Sp.nxM (Sp.nxM (Sp.nxM (Sp.nxM x)))):=m1.nx.nx.nx.mono (by decide)
 have k5:Sp.aL 5000 (Sp.nxM (Sp.nxM (Sp.nxM (Sp.nxM (Sp.nxM x))))):=m1.nx.nx.nx.nx.mono (by decide)
 have p0:∀p,Sp.aL 5000 (Sp.plM (Sp.nxM x) p):=fun p=>(m1.pl p).mono (by decide)
 have p1:∀p,Sp.aL 5000 (Sp.nxM (Sp.plM (Sp.nxM x) p)):=fun p=>(m1.pl p).nx.mono (by decide)
 have p2:∀p,Sp.aL 5000 (Sp.nxM (Sp.nxM (Sp.plM (Sp.nxM x) p))):=fun p=>(m1.pl p).nx.nx.mono (by decide)
 have hp:∀p,Sp.has (Sp.plM (Sp.nxM x) p):=fun p=>Sp.has.put (s:=Sp.nxM (Sp.nxM (Sp.nxM (Sp.nxM x)))) hh _
 have hp1:∀p,Sp.has (Sp.nxM (Sp.plM (Sp.nxM x) p)):=hp
 have hp2:∀p,Sp.has (Sp.nxM (Sp.nxM (Sp.plM (Sp.nxM x) p))):=hp
 have h1:Sp.has (Sp.nxM x):=hh
 have h2:Sp.has (Sp.nxM (Sp.nxM x)):=hh
 have h3:Sp.has (Sp.nxM (Sp.nxM (Sp.nxM x))):=hh
 have h4:Sp.has (Sp.nxM (Sp.nxM (Sp.nxM (Sp.nxM x)))):=hh
 have h5:Sp.has (Sp.nxM (Sp.nxM (Sp.nxM (Sp.nxM (Sp.nxM x))))):=hh
 have b1:∀v∈(Sp.nxM x).1,0<=v/\v<=255:=hb
 have b2:∀v∈(Sp.plM (Sp.nxM x) false).1,0<=v/\v<=255:=hb
 have c7:=uZ (Sp.nxM x) b1 1 7 (by decide) (by decide)
 have c20:=uZ (Sp.nxM x) b1 10 20 (by decide) (by decide)
 have c5:=uZ (Sp.nxM x) b1 1 5 (by decide) (by decide)
 have c2:=uZ (Sp.nxM x) b1 1 2 (by decide) (by decide)
 have n6:inN ((Sp.nxV (Sp.plM (Sp.nxM x) false)).tmod 6) 6:=inN_t _ b2 6 (by decide)
 refine⟨⟨k0,by decide⟩,fun g3=> ?_,fun g3=>⟨fun g7=> ?_,fun g7=>⟨fun e7=> ?_,fun e7=>⟨fun e8=> ?_,fun e8=>⟨fun e9=> ?_,fun e9=>⟨fun e10=> ?_,fun e10=>⟨fun e11=> ?_,fun e11=>⟨fun e12=> ?_,fun e12=>⟨⟨k1',h1⟩,fun e13=> ?_,fun e13=> ?_⟩⟩⟩⟩⟩⟩⟩⟩⟩
 ·have e:Sp.bX x=Sp.in0 (Sp.nxM x):=by unfold Sp.bX Sp.i7 Sp.inK;rw[if_pos g3]
  have E:∀A,A=Sp.in0 (Sp.nxM x)->A=Sp.bX x:=fun A h=>h.trans e.symm
  clear e
  repeat' first|assumption|exact hp1 _|exact hp2 _|exact p0 _|exact p1 _|exact p2 _|decide|exact E _ rfl|constructor
 ·have e:Sp.bX x=Sp.in3 (Sp.nxM x):=by unfold Sp.bX Sp.i7 Sp.inK;rw[if_neg (Int.not_lt.mpr g3),if_pos g7]
  have E:∀A,A=Sp.in3 (Sp.nxM x)->A=Sp.bX x:=fun A h=>h.trans e.symm
  clear e
  repeat' first|assumption|exact hp1 _|exact hp2 _|exact p0 _|exact p1 _|exact p2 _|decide|exact E _ rfl|constructor
 ·have e:Sp.bX x=Sp.in7 (Sp.nxM x):=by unfold Sp.bX Sp.i7 Sp.inK;rw[if_neg (Int.not_lt.mpr g3),if_neg (Int.not_lt.mpr g7),if_pos e7]
  have E:∀A,A=Sp.in7 (Sp.nxM x)->A=Sp.bX x:=fun A h=>h.trans e.symm
  clear e
  repeat' first|assumption|exact hp1 _|exact hp2 _|exact p0 _|exact p1 _|exact p2 _|decide|exact E _ rfl|constructor
 ·have e:Sp.bX x=Sp.in8 (Sp.nxM x):=by unfold Sp.bX Sp.i7 Sp.inK;rw[if_neg (Int.not_lt.mpr g3),if_neg (Int.not_lt.mpr g7),if_neg e7,if_pos e8]
  have E:∀A,A=Sp.in8 (Sp.nxM x)->A=Sp.bX x:=fun A h=>h.trans e.symm
  clear e
  repeat' first|assumption|exact hp1 _|exact hp2 _|exact p0 _|exact p1 _|exact p2 _|decide|exact E _ rfl|constructor
 ·have e:Sp.bX x=Sp.in9 (Sp.nxM x):=by unfold Sp.bX Sp.i7 Sp.inK;rw[if_neg (Int.not_lt.mpr g3),if_neg (Int.not_lt.mpr g7),if_neg e7,if_neg e8,if_pos e9]
  have E:∀A,A=Sp.in9 (Sp.nxM x)->A=Sp.bX x:=fun A h=>h.trans e.symm
  clear e
  repeat' first|assumption|exact hp1 _|exact hp2 _|exact p0 _|exact p1 _|exact p2 _|decide|exact E _ rfl|constructor
 ·have e:Sp.bX x=Sp.in10 (Sp.nxM x):=by unfold Sp.bX Sp.i7 Sp.inK;rw[if_neg (Int.not_lt.mpr g3),if_neg (Int.not_lt.mpr g7),if_neg e7,if_neg e8,if_neg e9,if_pos e10]
  have E:∀A,A=Sp.in10 (Sp.nxM x)->A=Sp.bX x:=fun A h=>h.trans e.symm
  clear e
  repeat' first|assumption|exact hp1 _|exact hp2 _|exact p0 _|exact p1 _|exact p2 _|decide|exact E _ rfl|constructor
 ·have e:Sp.bX x=Sp.in11 (Sp.nxM x):=by unfold Sp.bX Sp.i7 Sp.inK;rw[if_neg (Int.not_lt.mpr g3),if_neg (Int.not_lt.mpr g7),if_neg e7,if_neg e8,if_neg e9,if_neg e10,if_pos e11]
  have E:∀A,A=Sp.in11 (Sp.nxM x)->A=Sp.bX x:=fun A h=>h.trans e.symm
  clear e
  repeat' first|assumption|exact hp1 _|exact hp2 _|exact p0 _|exact p1 _|exact p2 _|decide|exact E _ rfl|constructor
 ·have e:Sp.bX x=Sp.in12 (Sp.nxM x):=by unfold Sp.bX Sp.i7 Sp.inK;rw[if_neg (Int.not_lt.mpr g3),if_neg (Int.not_lt.mpr g7),if_neg e7,if_neg e8,if_neg e9,if_neg e10,if_neg e11,if_pos e12]
  have E:∀A,A=Sp.in12 (Sp.nxM x)->A=Sp.bX x:=fun A h=>h.trans e.symm
  clear e
  repeat' first|assumption|exact hp1 _|exact hp2 _|exact p0 _|exact p1 _|exact p2 _|decide|exact E _ rfl|constructor
 ·have e:Sp.bX x=Sp.in13 (Sp.nxM x):=by unfold Sp.bX Sp.i7 Sp.inK;rw[if_neg (Int.not_lt.mpr g3),if_neg (Int.not_lt.mpr g7),if_neg e7,if_neg e8,if_neg e9,if_neg e10,if_neg e11,if_neg e12,if_pos e13]
  have E:∀A,A=Sp.in13 (Sp.nxM x)->A=Sp.bX x:=fun A h=>h.trans e.symm
  clear e
  repeat' first|assumption|exact hp1 _|exact hp2 _|exact p0 _|exact p1 _|exact p2 _|decide|exact E _ rfl|constructor
 ·have e:Sp.bX x=Sp.in14 (Sp.nxM x):=by unfold Sp.bX Sp.i7 Sp.inK;rw[if_neg (Int.not_lt.mpr g3),if_neg (Int.not_lt.mpr g7),if_neg e7,if_neg e8,if_neg e9,if_neg e10,if_neg e11,if_neg e12,if_neg e13]
  have E:∀A,A=Sp.in14 (Sp.nxM x)->A=Sp.bX x:=fun A h=>h.trans e.symm
  clear e
  repeat' first|assumption|exact hp1 _|exact hp2 _|exact p0 _|exact p1 _|exact p2 _|decide|exact E _ rfl|constructor
theorem pk46:POk Try.prog 46 S46:=by
 have hC:∀q,aG Try.prog (C46 q):=fun q=>okM' q aS (cG pk39 (cG pk84 dW)) rfl rfl rfl rfl rfl rfl
 refine POk.intro hC (fun q=>cU (hC q)) Try.call46 Try.func46 (fun q=>rfl) (by kernel_rfl) L46 ?_
 rw[vc46]
 simp only[zz,zy]
 intro x hM hx
 have hb:=eS hx.1
 obtain⟨hM,hh⟩:=hM
 have hv:=Sp.fW (Sp.fB x hb).1 (k:=5) (by decide)
 refine⟨⟨hM.mono (by decide),by decide⟩,⟨(((Sp.nxV x).tmod 5).toNat,Sp.nxM x),⟨by show(Int.toNat _)<=4;omega,hM.nx.mono (by show 4501<=4700-10*(Int.toNat _);omega),hh,rfl⟩,rfl,by show _=((Int.toNat _:Nat):Int);omega⟩,?_⟩
 rintro⟨k,t⟩ ⟨h1,h2,h3,h4⟩ _
 have h1:k<=4:=h1
 have h2:Sp.aL (4700-10*k) t:=h2
 have h3:Sp.has t:=h3
 have h4:Sp.instN k t=Sp.insM x:=h4
 refine⟨fun h5=>⟨⟨h2.mono (by omega),h3⟩,aQ (by show _<=(k:Int)-1;omega) (by show(k:Int)-1<=_;omega),⟨(k-1,Sp.bX t),⟨by show k-1<=4;omega,h2.inst.mono (by show _<=4700-10*(k-1);have:(0:Int)<k:=h5;omega),h3.inst,?_⟩,?_,rfl,?_⟩⟩,fun h5=> ?_⟩
 ·have:(0:Int)<k:=h5
  obtain⟨m,rfl⟩:∃m,k=m+1:=⟨k-1,by omega⟩
  exact h4
 ·have:(0:Int)<k:=h5
  show k-1<k
  omega
 ·have:(0:Int)<k:=h5
  show(k:Int)-1=((k-1:Nat):Int)
  omega
 ·have:(k:Int)<=0:=h5
  have:k=0:=by omega
  subst this;exact h4
end Go.User
namespace Go.Lf

structure mU where
 τ:Ty
 m:Md:= .shr
 T:TypeId
 p:cM
 res:Ty
 pre:τ.den->Prop
 num:τ.den->Int
 out:τ.den->res.den

def NOk(P:Program)(f:FuncId)(s:mU):Prop:=
 fV P f/\∀(w:World) (F S0:aA) (b off:Nat) (cs:List Value) (x:s.τ.den),b<w.heap.size->(∀k,F k->k<w.heap.size)->(∀k,S0 k->k<w.heap.size/\¬F k)->
  fM F S0 w (.mem b 0) s.τ.size cs->Own F w s.τ s.m S0 cs x->s.pre x->loc w s.p s.τ (.mem b 0)=some (.int .i64,.mem b off)->
  inK .i64 (s.num x)/\Calls P f #[.pointer (some ⟨b,0,none⟩)] w fun e w'=>∃w1 v,(storeVar s.T ⟨b,off,none⟩ (.int .i64 (s.num x))).run P w= .ok () w1/\RowKit.Below w1.heap.size w1 w'/\e= .returned v/\aT F w' s.res .shr none' v (s.out x)

def isI64:Option (Σ σ:Ty,σ.den)->Bool
 |some ⟨.int .i64,_⟩=>true
 |_=>false
def isSm{α:Type}:Option α->Bool
 |some _=>true
 |none=>false
def numE(C:Ctx)(d:Nat)(st:St)(s:mU)(v:aP):Option (Prop×St):=
 match v.addr? with
 |some l=>match l.p with
  | []=>bif (s.τ.flat||decide (l.m=s.m))&&s.res.flat&&decide (look C.tys s.T=some (.int .i64))&&jQ s.p&&isI64 (aN s.p l.τ l.x)&&isSm (bI s.p l.τ l.m)then(match bY (τ:=l.τ) (σ:=s.τ) l.x with
   |some x=>match eM s.p l.τ l.x (.int .i64) (s.num x)with
    |some x'=>some (s.pre x,put (upd (keepS st l.r l.τ) l.r (dR (st l.r) l.τ l.m x')) d (mkE C d s.res .shr (s.out x)))
    |none=>none
   |none=>none)else none
  |_=>none
 |none=>none
def numC(ns:List (FuncId×mU))(C:Ctx)(st:St)(o:Oper)(q:Call):Option (Prop×St):=
 match q.callee,q.args.toList,o.dst with
 | .value (.func f),[z],some d=>match look ns f with
  |some s=>bif wrB C d then numE C d st s (bR st z)else none
  |none=>none
 |_,_,_=>none
def stpN(ns:List (FuncId×mU))(C:Ctx)(st:St)(o:Oper):Option (Prop×St):=
 match o.op with
 | .call q=>match numC ns C st o q with
  |some r=>some r
  |none=>hY C st o
 |_=>hY C st o

section
variable {P:Program} {C:Ctx} {w0:World} {F0 H:aA} {env:St} {a:Act} {w:World} {F:aA} {S:Nat->aA} {d:Nat}

theorem numE_ok(hC:aG P C)(hi:aJ P C.np w0 F0 H env a w F S)(hd:Wr C.np d){f:FuncId}{s:mU}(hs:NOk P f s){z:Operand}{args:Array Operand}(hargs:args.toList=[z]){ts:Array TypeId}{o:Oper}
  (ho:o.op= .call {callee:= .value (.func f),args,argTypes:=ts}) (hod:o.dst=some d)
  {c:Prop} {env':St} (h:numE C d env s (bR env z)=some (c,env')) (hc:c) {K:Act->World->Prop} {Q:Exit->Act->World->Prop} (hK:∀a' w',Inv P C.np w0 F0 H env' a' w'->K a' w'):o.wp P a w K Q:=by
 have hv:=aX hi z
 unfold numE at h
 split at h
 ·rename_i l hl
  split at h
  ·rename_i hp
   cases hf:((s.τ.flat||decide (l.m=s.m))&&s.res.flat&&decide (look C.tys s.T=some (.int .i64))&&jQ s.p&&isI64 (aN s.p l.τ l.x)&&isSm (bI s.p l.τ l.m))
   ·rw[hf]at h;cases h
   rw[hf]at h;simp only[cond_true]at h;simp only[Bool.and_eq_true,Bool.or_eq_true,decide_eq_true_eq]at hf;obtain⟨⟨⟨⟨⟨hfm,hres⟩,hT⟩,hst⟩,hget⟩,hgm⟩:=hf;split at h
   ·rename_i x hx
    have:=aV hx
    obtain⟨σ,y0,μ,pl,S0,cs,b,off,hA,hval⟩:=gK hi hv hl;obtain⟨lr,lp,lτ,lm,lx⟩:=l;simp only at hp hx this h hfm hget hgm;subst hp;injection this with e1 e2;subst e1;cases e2;split at h
    ·rename_i x' hset
     simp only[Option.some.injEq,Prod.mk.injEq]at h;obtain⟨rfl,rfl⟩:=h;have hroot:=hA.root;have hloc:=hA.loc;simp only[Go.Lf.loc,Option.some.injEq,Prod.mk.injEq]at hloc;obtain⟨rfl,hpl⟩:=hloc;subst hpl;simp only at hroot;have hsb:S lr b:=hroot.isB rfl;obtain⟨hbox,hS0,hvr⟩:env lr= .box s.τ lm x/\S0=(fun k=>S lr k/\k≠b)/\off=0/\a.tmps.getD lr undef= .pointer (some ⟨b,0,none⟩):=by
      rcases hroot.1 with⟨_,h,_⟩|⟨h,b',h2,h3,h4,_⟩
      ·cases h
      ·injection h2 with h2 h5
       subst h2;exact⟨h,h3,h5,h4⟩
     obtain⟨rfl,hvr⟩:=hvr;have hb:=hi.sb lr b hsb;have hown:Own F w s.τ s.m S0 cs x:=by
      rcases hfm with hf|hf
      ·exact hroot.2.2.flat hf
      ·rw[<-hf];exact hroot.2.2
     obtain⟨y1,hy1⟩:∃y1:Int,aN s.p s.τ x=some ⟨.int .i64,y1⟩:=by
      unfold isI64 at hget;split at hget
      ·rename_i y1 hg;exact⟨y1,hg⟩
      ·cases hget
     obtain⟨ν,hν⟩:∃ν,bI s.p s.τ lm=some ν:=by
      unfold isSm at hgm;split at hgm
      ·rename_i ν hg;exact⟨ν,hg⟩
      ·cases hgm
     have hin:inR s.p s.τ x:=(lS (x2:=x) hst (by rw[hy1];rfl)).2
     obtain⟨pl2,cs2,S2,hfoc⟩:=focus s.p (fun k hk=>by rw[hS0]at hk;exact(hi.sb lr k hk.1).2.2) hroot.2.2 hroot.2.1 hy1 hν hin
     obtain⟨b1,off1,hpl2⟩:∃b1 off1,pl2= .mem b1 off1:=by
      cases pl2 with
      |val cs=>
       exfalso
       have:∀ {p:cM} {τ:Ty} {o:Nat} {σ:Ty} {cs:List Value},jQ p=true->loc w p τ (.mem b o)=some (σ,.val cs)->False:=by
        intro p
        induction p with
        |nil=>intro τ o σ cs _ h;simp only[loc,Option.some.injEq,Prod.mk.injEq]at h;cases h.2
        |cons st p ih=>
         intro τ o σ cs h1 h2;cases st with
         |idx i=>cases h1
         |fst=>cases τ<;>first|exact ih h1 h2|cases h2
         |snd=>cases τ<;>first|exact ih h1 h2|cases h2
       exact this hst hfoc.loc
      |mem b1 off1=>exact⟨b1,off1,rfl⟩
     subst hpl2;have hb1:b1=b:=oG hst hfoc.loc;subst hb1;obtain⟨hnum,hcall⟩:=hs.2 w F S0 b1 off1 cs x hb.2.1 hi.fb (fun k hk=>by
      rw[hS0]at hk;exact⟨(hi.sb lr k hk.1).2.1,(hi.sb lr k hk.1).2.2⟩) hroot.2.1 hown hc hfoc.loc
     have hrun:(execOp a.eval o).run P w= .ok (.enter f #[.pointer (some ⟨b1,0,none⟩)]) w:=by
      simp only[execOp,ho,resolve,Sem.run_bind,Act.eval,Deferred.ofValue,Sem.run_pure,Result.andThen,invoke];have:=hs.1 #[.pointer (some ⟨b1,0,none⟩)] w;rw[<-this]
      congr 1
      congr 1
      apply Array.ext'
      simp[hargs,<-hval]
     unfold Oper.wp;rw[hrun,Oper.upon_enter];refine hcall.mono ?_;rintro e w' ⟨w1,v,h1,h2,rfl,h3⟩;rw[hod];obtain⟨w2,g1,F2,S3,g2⟩:=o6 (σ:= .int .i64) hC hi hT hroot hfoc rfl (S1:=none') (v:= .int .i64 (s.num x)) (y:=s.num x) ⟨[.int .i64 (s.num x)],rfl,rfl,hnum⟩ hset;rw[h1]at g1;injection g1 with _ g1;subst g1;obtain⟨F4,S4,hh⟩:=g2.putNew (C:=C) (d:=d) (F':=F2) (Sd:=none') (m:= .shr) hd h2 (fun _ h=>h) (fun k hk=>Nat.lt_of_lt_of_le (g2.fb k hk) h2.size) (fun k q1 q2=>absurd q1 q2) (fun k hk=>hk.elim) (by
      obtain⟨c1,q1,q2⟩:=h3;exact⟨c1,q1,q2.flat hres⟩:aT F2 w' s.res .shr none' v (s.out x))
     exact hK _ _ ⟨F4,S4,hh⟩
    ·cases h
   ·cases h
  ·cases h
 ·cases h

theorem xM{ns:List (FuncId×mU)}(hC:aG P C)(hn:∀f s,look ns f=some s->NOk P f s):dM P C (stpN ns C):=by
 intro w0 F0 H env env' a w o c hi h hc K Q hK
 unfold stpN at h
 split at h
 ·rename_i q hop
  split at h
  ·rename_i r hr
   simp only[Option.some.injEq]at h;subst h;obtain⟨F,S,hi⟩:=hi;obtain⟨callee,args,ts⟩:=q;unfold numC at hr;simp only at hr;split at hr
   ·rename_i f z d hargs hod
    split at hr
    ·rename_i s hs
     cases hw:wrB C d
     ·rw[hw]at hr;cases hr
     rw[hw]at hr;exact numE_ok hC hi (eA hw) (hn f s hs) hargs hop hod hr hc hK
    ·cases hr
   ·cases hr
  ·exact cU hC hi h hc K Q hK
 ·exact cU hC hi h hc K Q hK
end
end Go.Lf
namespace Go.User
open Go Go.Proofs Go.RowKit Go.Lib Go.Lf
theorem drewN2(w:World)(a b:Nat):(w.drewN a).drewN b=w.drewN (a+b):=by
 simp[World.drewN,Nat.add_assoc]
set_option maxHeartbeats 1000000 in
set_option maxRecDepth 100000 in
theorem nx_walk0(w w1:World)(b n cap:Nat)(at0:Int)(lp:Option Addr)(h0:0<=at0)(h1:at0<=5000)
  (c1:w.cell? ⟨b,1,none⟩=some (.int .i64 at0)) (hf:w.frozen? ⟨b,1,none⟩=false)
  (hw:w.setCell ⟨b,1,none⟩ (.int .i64 (at0+1))=w1) (d0:w1.cell? ⟨b,0,none⟩=some (.slice lp n cap)) (d1:w1.cell? ⟨b,1,none⟩=some (.int .i64 (at0+1)))
  (hlt:(n:Int)<at0+1):Calls Try.prog 39 #[.pointer (some ⟨b,0,none⟩)] w fun e w'=>e= .returned (.int .i64 0)/\∃k,w'=w1.drewN k:=by
 have hk:IntKind.wrap .i64 (at0+1)=at0+1:=dH (aQ (by omega) (by omega))
 go_enter Try.func39,Try.ntmps39
 go_wp2
 go_quiet (fail)
 go_wp2
 go_ret
 exact⟨rfl,_,rfl⟩
set_option maxHeartbeats 1000000 in
set_option maxRecDepth 100000 in
theorem nx_walk1(w w1:World)(b n cap c o v:Nat)(at0:Int)(h0:0<=at0)(h1:at0<=5000)(hn:n<=9223372036854775807)
  (c1:w.cell? ⟨b,1,none⟩=some (.int .i64 at0)) (hf:w.frozen? ⟨b,1,none⟩=false)
  (hw:w.setCell ⟨b,1,none⟩ (.int .i64 (at0+1))=w1) (d0:∀k,(w1.drewN k).cell? ⟨b,0,none⟩=some (.slice (some ⟨c,o,none⟩) n cap)) (d1:∀k,(w1.drewN k).cell? ⟨b,1,none⟩=some (.int .i64 (at0+1)))
  (d0':w1.cell? ⟨b,0,none⟩=some (.slice (some ⟨c,o,none⟩) n cap)) (d1':w1.cell? ⟨b,1,none⟩=some (.int .i64 (at0+1)))
  (hv:v<=255) (hlt:¬(n:Int)<at0+1) (he:∀k,(w1.drewN k).cell? ⟨c,o+at0.toNat,none⟩=some (.int .u8 v)):
  Calls Try.prog 39 #[.pointer (some ⟨b,0,none⟩)] w fun e w'=>e= .returned (.int .i64 v)/\∃k,w'=w1.drewN k:=by
 have hk:IntKind.wrap .i64 (at0+1)=at0+1:=dH (aQ (by omega) (by omega))
 have hk2:IntKind.wrap .i64 (at0+1-1)=at0:=by rw[Int.add_sub_cancel];exact dH (aQ (by omega) (by omega))
 go_enter Try.func39,Try.ntmps39
 go_wp2
 go_quiet (fail)
 go_wp2
 go_quiet (fail)
 go_wp2
 go_ret
 exact⟨rfl,_,drewN2 _ _ _⟩
theorem fX{w:World}{b k:Nat}{row:Array Value}{T:TypeId}{v:Value}(h:w.heap[b]? =some (.cells row T (0,0))):
  (w.setCell ⟨b,k,none⟩ v).heap[b]? =some (.cells (row.setIfInBounds k v) T (0,0)):=by
 simp[World.setCell,Array.getElem?_modify,h]
theorem eT{w:World}{b c k:Nat}{v:Value}(h:c≠b):(w.setCell ⟨b,k,none⟩ v).heap[c]? =w.heap[c]? :=by
 simp[World.setCell,Array.getElem?_modify,Ne.symm h]
theorem kO{w:World}{b k:Nat}{row:Array Value}{T:TypeId}{fr:Nat×Nat}(h:w.heap[b]? =some (.cells row T fr)):w.cell? ⟨b,k,none⟩=row[k]? :=by
 simp[World.cell?,h]
theorem kW{w:World}{b k:Nat}{row:Array Value}{T:TypeId}{v0:Value}{n:Int}(h:w.heap[b]? =some (.cells row T (0,0)))(hk:row[k]? =some v0):
  (storeVar 3 ⟨b,k,none⟩ (.int .i64 n)).run Try.prog w= .ok () (w.setCell ⟨b,k,none⟩ (.int .i64 n)):=by
 have hc:w.cell? ⟨b,k,none⟩=some v0:=by rw[kO h,hk]
 have hf:w.frozen? ⟨b,k,none⟩=false:=by simp[World.frozen?,h]
 simp only[storeVar,sizeOf,Sem.run_bind,Sem.run_pure,Result.andThen]
 simp
 rw[if_pos (by rfl)]
 simp[storeCells,Value.cells,Sem.run_bind,Sem.run_pure,Result.andThen,hc,hf]
 rw[show (⟨b,k,none⟩:Addr).add 0=⟨b,k,none⟩from rfl]
 simp[store,Sem.run,hc,hf]
theorem uK(w:World)(F:aA)(b cap:Nat)(ao:Option Addr)(row:Array Value)(T:TypeId)(L:List Int)(at0:Int)(h0:0<=at0)(h1:at0<=5000)(hn:L.length<=lim)(hF:¬F b)
  (hrow:w.heap[b]? =some (.cells row T (0,0))) (r0:row[0]? =some (.slice ao L.length cap)) (r1:row[1]? =some (.int .i64 at0)) (hL:∀v∈L,0<=v/\v<=255)
  (ho:L=[]∨∃(c o:Nat) (rc:Array Value) (Tc:TypeId) (fr:Nat×Nat),ao=some ⟨c,o,none⟩/\F c/\w.heap[c]? =some (.cells rc Tc fr)/\∀i v,L[i]? =some v->rc[o+i]? =some (.int .u8 v)) (C:Sp.Code):
  Calls Try.prog 39 #[.pointer (some ⟨b,0,none⟩)] w fun e w'=>e= .returned (.int .i64 (Sp.nxV (L,at0,C,())))/\∃k,w'=(w.setCell ⟨b,1,none⟩ (.int .i64 (at0+1))).drewN k:=by
 have hlt:1<row.size:=by
  rcases Nat.lt_or_ge 1 row.size with h|h
  ·exact h
  ·rw[Array.getElem?_eq_none h]at r1;cases r1
 have c1:w.cell? ⟨b,1,none⟩=some (.int .i64 at0):=by rw[kO hrow,r1]
 have hf:w.frozen? ⟨b,1,none⟩=false:=by simp[World.frozen?,hrow]
 have hrow1:=fX (k:=1) (v:= .int .i64 (at0+1)) hrow
 have d0:(w.setCell ⟨b,1,none⟩ (.int .i64 (at0+1))).cell? ⟨b,0,none⟩=some (.slice ao L.length cap):=by
  rw[kO hrow1,Array.getElem?_setIfInBounds,if_neg (by omega),r0]
 have d1:(w.setCell ⟨b,1,none⟩ (.int .i64 (at0+1))).cell? ⟨b,1,none⟩=some (.int .i64 (at0+1)):=by
  rw[kO hrow1,Array.getElem?_setIfInBounds,if_pos rfl,if_pos hlt]
 by_cases hc:(L.length:Int)<at0+1
 ·have e:Sp.nxV (L,at0,C,())=0:=by unfold Sp.nxV;rw[if_pos hc]
  rw[e];exact nx_walk0 w _ b L.length cap at0 ao h0 h1 c1 hf rfl d0 d1 hc
 ·have hi:at0.toNat<L.length:=by omega
  rcases ho with rfl|⟨c,o,rc,Tc,fr,rfl,hFc,hrc,hel⟩
  ·simp at hi
  have hb:=hL (L[at0.toNat]) (List.getElem_mem hi)
  have he:=hel at0.toNat _ (List.getElem?_eq_getElem hi)
  have e:Sp.nxV (L,at0,C,())=L[at0.toNat]:=by
   unfold Sp.nxV;rw[if_neg hc];show L.getD at0.toNat 0=_;rw[List.getD_eq_getElem?_getD,List.getElem?_eq_getElem hi];rfl
  rw[e];obtain⟨v,hv⟩:=Int.eq_ofNat_of_zero_le hb.1;rw[hv]at he hb⊢;have hcb:c≠b:=fun e=>hF (e▸hFc)
  have hcell:(w.setCell ⟨b,1,none⟩ (.int .i64 (at0+1))).cell? ⟨c,o+at0.toNat,none⟩=some (.int .u8 v):=by
   rw[kO ((eT hcb).trans hrc),he]
  rw[lim_eq]at hn;obtain⟨w1,hw1⟩:∃w1,w1=w.setCell ⟨b,1,none⟩ (.int .i64 (at0+1)):=⟨_,rfl⟩;rw[<-hw1]at d0 d1 hcell⊢;exact nx_walk1 w w1 b L.length cap c o v at0 h0 h1 (by omega) c1 hf hw1.symm (fun _=>d0) (fun _=>d1) d0 d1 (by omega) hc (fun _=>hcell)
def N39:mU:={τ:=tMk,m:=mMk,T:=3,p:=[.snd,.fst],res:=tI,pre:=fun s=>Sp.aL 5000 s,num:=fun s=>s.2.1+1,out:=fun s=>Sp.nxV s}
theorem qB{w:World}{F S0:aA}{b off:Nat}{cs:List Value}{x:tMk.den}(hp:fM F S0 w (.mem b 0) tMk.size cs)(hown:Own F w tMk mMk S0 cs x)(hloc:loc w [.snd,.fst] tMk (.mem b 0)=some (.int .i64,.mem b off)):
  off=1/\¬F b/\List.length x.1<=lim/\∃(ao:Option Addr) (cap:Nat) (row:Array Value) (T:TypeId),w.heap[b]? =some (.cells row T (0,0))/\row[0]? =some (.slice ao (List.length x.1) cap)/\row[1]? =some (.int .i64 x.2.1)/\
   (x.1=[]∨∃(c o:Nat) (rc:Array Value) (Tc:TypeId) (fr:Nat×Nat),ao=some ⟨c,o,none⟩/\F c/\w.heap[c]? =some (.cells rc Tc fr)/\∀i v,x.1[i]? =some v->rc[o+i]? =some (.int .u8 v)):=by
 obtain⟨L,at0,C,u⟩:=x
 obtain⟨c1,c2,S1,S2,rfl,_,_,_,hL,h2⟩:=hown
 obtain⟨c3,c4,S3,S4,rfl,_,_,_,hAt,h4⟩:=h2
 obtain⟨ao,cap,rfl,g1,g2,hsl⟩:=hL
 obtain⟨rfl,a1,a2⟩:=hAt
 obtain⟨nS,nF,row,T,hrow,hsz,hseg⟩:=hp
 have hget:∀k,k<2->row[k]? =([Value.slice ao (List.length L) cap]++([.int .i64 at0]++c4))[k]? :=by
  intro k hk;rw[<-hseg];simp only[seg,List.drop_zero];have h2m:2<=tMk.size:=by decide
  rw[List.getElem?_take,if_pos (by omega)]
  simp
 refine⟨?_,nF,g2,ao,cap,row,T,hrow,hget 0 (by decide),hget 1 (by decide),?_⟩
 ·simp only[loc,aK.part,Option.some.injEq,Prod.mk.injEq,aK.mem.injEq]at hloc
  have:=hloc.2.2
  simp[Ty.size]at this
  omega
 ·rcases hsl with h|⟨c,o,rc,Tc,fr,q1,q2,q3,q4,q5⟩
  ·exact .inl h
  ·refine .inr ⟨c,o,rc,Tc,fr,q1,q2,q3,fun i v hv=> ?_⟩
   obtain⟨q6,_⟩:=q5 i v hv;have hs:seg rc.toList (o+i*Ty.size tU8) (Ty.size tU8)=[.int .u8 v]:=q6;have h1:Ty.size tU8=1:=rfl;rw[h1,Nat.mul_one]at hs;have:(seg rc.toList (o+i) 1)[0]? =some (.int .u8 v):=by rw[hs];rfl
   simpa[seg]using this
theorem nk39:NOk Try.prog 39 N39:=by
 refine⟨Try.call39,?_⟩
 intro w F S0 b off cs x hb hF hS0 hp hown hpre hloc
 obtain⟨hoff,nF,hlim,ao,cap,row,T,hrow,r0,r1,hel⟩:=qB hp hown hloc
 subst hoff
 have hbs:=eS (hown.fact).1
 have hpre:Sp.aL 5000 x:=hpre
 have h0:=hpre.at0
 have h1:=hpre.at1
 obtain⟨L,at0,C,u⟩:=x
 have hk:∀z:Int,0<=z->z<=5000->inK .i64 (z+1):=fun z _ _=>aQ (by omega) (by omega)
 refine⟨hk at0 h0 h1,(uK w F b cap ao row T L at0 h0 h1 hlim nF hrow r0 r1 hbs hel C).mono ?_⟩
 rintro e w' ⟨rfl,k,rfl⟩
 refine⟨_,_,kW hrow r1,⟨rfl,rfl,rfl,Nat.le_refl _,fun _ _=>rfl⟩,rfl,[_],rfl,rfl,?_⟩
 have:=Sp.fB (L,at0,C,()) hbs
 have b1:(-9223372036854775808:Int)<=Sp.nxV (L,at0,C,()):=by omega
 have b2:Sp.nxV (L,at0,C,())<=9223372036854775807:=by omega
 exact⟨b1,b2⟩
end Go.User
namespace Go.User
open Go Go.Proofs Go.RowKit Go.Lib Go.Lf
set_option maxHeartbeats 1000000 in
set_option maxRecDepth 100000 in
theorem rD(w:World)(n:Int):Calls Try.prog 17 #[.int .i64 n] w fun e w'=>e= .returned (.agg #[.int .i64 2,.int .i64 n,.int .i32 0])/\∃row T,w'=w.alloc (.cells row T):=by
 go_enter Try.func17,Try.ntmps17
 go_wp2

 go_returns

 exact⟨rfl,_,_,rfl⟩
set_option maxHeartbeats 1000000 in
set_option maxRecDepth 100000 in
theorem xC(w:World)(n:Int):Calls Try.prog 19 #[.int .i32 n] w fun e w'=>e= .returned (.agg #[.int .i64 1,.int .i64 0,.int .i32 n])/\∃row T,w'=w.alloc (.cells row T):=by
 go_enter Try.func19,Try.ntmps19
 go_wp2
 go_returns
 exact⟨rfl,_,_,rfl⟩
def After(w:World)(b:Nat)(n:Int)(g:Nat)(row:Array Value)(w':World):Prop:=
 RowKit.Below w.heap.size (w.setCell ⟨b,1,none⟩ (.int .i64 n)) w'/\w'.heap[g]? =some (.cells row 53 (0,0))
theorem own3{W:World}{g:Nat}{x y z:Value}(h:W.heap[g]? =some (.cells #[x,y,z] 53 (0,0)))(a b c:Value):
  W.cell? ⟨g,0,none⟩=some x/\W.frozen? ⟨g,0,none⟩=false/\(W.setCell ⟨g,0,none⟩ a).cell? ⟨g,1,none⟩=some y/\(W.setCell ⟨g,0,none⟩ a).frozen? ⟨g,1,none⟩=false/\
   ((W.setCell ⟨g,0,none⟩ a).setCell ⟨g,1,none⟩ b).cell? ⟨g,2,none⟩=some z/\((W.setCell ⟨g,0,none⟩ a).setCell ⟨g,1,none⟩ b).frozen? ⟨g,2,none⟩=false/\
   (((W.setCell ⟨g,0,none⟩ a).setCell ⟨g,1,none⟩ b).setCell ⟨g,2,none⟩ c).heap[g]? =some (.cells #[a,b,c] 53 (0,0)):=by
 have h1:=fX (k:=0) (v:=a) h
 have h2:=fX (k:=1) (v:=b) h1
 have h3:=fX (k:=2) (v:=c) h2
 exact⟨by rw[kO h];rfl,by simp[World.frozen?,h],by rw[kO h1];rfl,by simp[World.frozen?,h1],by rw[kO h2];rfl,by simp[World.frozen?,h2],h3⟩
theorem below3{w w0 W:World}{g:Nat}(h:RowKit.Below w.heap.size w0 W)(hg:w.heap.size<=g)(a b c:Value):RowKit.Below w.heap.size w0 (((W.setCell ⟨g,0,none⟩ a).setCell ⟨g,1,none⟩ b).setCell ⟨g,2,none⟩ c):=by
 refine⟨h.os,h.tape,h.output,?_,fun k hk=> ?_⟩
 ·simpa[World.setCell]using h.size
 ·have hne:k≠g:=by omega
  rw[eT hne,eT hne,eT hne];exact h.block k hk
set_option maxHeartbeats 1000000 in
set_option maxRecDepth 100000 in
theorem reg_walk(w:World)(b:Nat)(n:Int)(v:Int)(h0:0<=v)(h1:v<=255)
  (H:∀(o:Array Value),Calls Try.prog 39 #[.pointer (some ⟨b,0,none⟩)] (w.alloc (.cells o 53)) fun e w'=>e= .returned (.int .i64 v)/\After w b n w.heap.size o w')
  (H2:∀(m:Int) (W:World),W.heap[w.heap.size]? =some (.cells #[.int .i64 0,.int .i64 0,.int .i32 0] 53 (0,0))->RowKit.Below w.heap.size (w.setCell ⟨b,1,none⟩ (.int .i64 n)) W->Calls Try.prog 17 #[.int .i64 m] W fun e W'=>e= .returned (.agg #[.int .i64 2,.int .i64 m,.int .i32 0])/\
   W'.heap[w.heap.size]? =some (.cells #[.int .i64 0,.int .i64 0,.int .i32 0] 53 (0,0))/\RowKit.Below w.heap.size (w.setCell ⟨b,1,none⟩ (.int .i64 n)) W'):
  Calls Try.prog 44 #[.pointer (some ⟨b,0,none⟩)] w fun e w'=>e= .returned (.agg #[.int .i64 2,.int .i64 (v%6),.int .i32 0])/\RowKit.Below w.heap.size (w.setCell ⟨b,1,none⟩ (.int .i64 n)) w':=by
 have hk:IntKind.wrap .i64 (v%6)=v%6:=dH (aQ (by omega) (by omega))
 go_enter Try.func44,Try.ntmps44
 go_wp2_with (first|(go_at_call 39;refine(H _).mono ?_;rintro e w' ⟨rfl,hA,hB⟩)|(go_at_call 17;refine(H2 _ _ hB hA).mono ?_;rintro e W ⟨rfl,hB2,hA2⟩;obtain⟨q0,q1,q2,q3,q4,q5,q6⟩:=own3 hB2 (.int .i64 2) (.int .i64 (v%6)) (.int .i32 0)))
 refine bodyPost_ret (results_cell_row rfl _ _ w.heap.size 53 #[.int .i64 2,.int .i64 (v%6),.int .i32 0] (0,0) _ rfl q6 Try.underlying53 rfl rfl) rfl ?_
 exact⟨rfl,below3 hA2 (Nat.le_refl _) _ _ _⟩
theorem j6{w:World}{o:Obj}{k:Nat}(h:k<w.heap.size):(w.alloc o).heap[k]? =w.heap[k]? :=heap_alloc_old w o h
theorem uQ{w:World}{k:Nat}{o:Obj}(h:w.heap[k]? =some o):k<w.heap.size:=by
 rcases Nat.lt_or_ge k w.heap.size with h'|h'
 ·exact h'
 ·rw[Array.getElem?_eq_none h']at h;cases h
theorem vR(w:World)(o:Obj):(w.alloc o).heap.size=w.heap.size+1:=by
 show(w.heap.push o).size=_
 simp
theorem pP{w:World}{F:aA}{b cap:Nat}{ao:Option Addr}{row:Array Value}{T:TypeId}{L:List Int}{at0:Int}(h0:0<=at0)(h1:at0<=5000)(hn:L.length<=lim)(hF:¬F b)(hFb:∀k,F k->k<w.heap.size)
  (hrow:w.heap[b]? =some (.cells row T (0,0))) (r0:row[0]? =some (.slice ao L.length cap)) (r1:row[1]? =some (.int .i64 at0)) (hL:∀v∈L,0<=v/\v<=255)
  (ho:L=[]∨∃(c o:Nat) (rc:Array Value) (Tc:TypeId) (fr:Nat×Nat),ao=some ⟨c,o,none⟩/\F c/\w.heap[c]? =some (.cells rc Tc fr)/\∀i v,L[i]? =some v->rc[o+i]? =some (.int .u8 v)) (C:Sp.Code) (o:Array Value):
  Calls Try.prog 39 #[.pointer (some ⟨b,0,none⟩)] (w.alloc (.cells o 53)) fun e w'=>e= .returned (.int .i64 (Sp.nxV (L,at0,C,())))/\After w b (at0+1) w.heap.size o w':=by
 have hb:=uQ hrow
 have hrow':(w.alloc (.cells o 53)).heap[b]? =some (.cells row T (0,0)):=(j6 hb).trans hrow
 refine(uK (w.alloc (.cells o 53)) F b cap ao row T L at0 h0 h1 hn hF hrow' r0 r1 hL ?_ C).mono ?_
 ·rcases ho with h|⟨c,o2,rc,Tc,fr,g1,g2,g3,g4⟩
  ·exact .inl h
  ·exact .inr ⟨c,o2,rc,Tc,fr,g1,g2,(j6 (hFb c g2)).trans g3,g4⟩
 ·rintro e w' ⟨rfl,k,rfl⟩
  refine⟨rfl,⟨rfl,rfl,rfl,?_,fun j hj=> ?_⟩,?_⟩
  ·show(w.setCell _ _).heap.size<=((w.alloc _).setCell _ _).heap.size
   simp only[World.setCell,Array.size_modify];rw[vR];omega
  ·show((w.alloc _).setCell _ _).heap[j]? =(w.setCell _ _).heap[j]?
   by_cases hjb:j=b
   ·subst hjb
    rw[fX hrow',fX hrow]
   ·rw[eT hjb,eT hjb,j6 hj]
  ·show((w.alloc _).setCell _ _).heap[w.heap.size]? =_
   rw[eT (by omega)];exact heap_alloc_new w _
theorem lP{w w0 W:World}{g:Nat}{o:Obj}(row:Obj)(h:W.heap[g]? =some o)(hs:w0.heap.size=w.heap.size)(hA:RowKit.Below w.heap.size w0 W):(W.alloc row).heap[g]? =some o/\RowKit.Below w.heap.size w0 (W.alloc row):=by
 have hg:=uQ h
 refine⟨(j6 hg).trans h,hA.os,hA.tape,hA.output,by rw[vR];have:=hA.size;omega,fun k hk=> ?_⟩
 have:=hA.size
 rw[j6 (by omega)];exact hA.block k hk
theorem x6(F:aA)(w:World){k n v:Int}(h1:inK .i64 k)(h2:inK .i64 n)(h3:inK .i32 v):Own F w aM .shr none' [.int .i64 k,.int .i64 n,.int .i32 v] (k,n,v,()):=
 ⟨[_],[_,_],none',none',rfl,fun _ h=>h,fun _ h=>h,fun _ h=>h.elim,⟨rfl,h1⟩,[_],[_],none',none',rfl,fun _ h=>h,fun _ h=>h,fun _ h=>h.elim,⟨rfl,h2⟩,[_],[],none',none',rfl,fun _ h=>h,fun _ h=>h,fun _ h=>h.elim,⟨rfl,h3⟩,rfl⟩
def N44:mU:={τ:=tMk,m:=mMk,T:=3,p:=[.snd,.fst],res:=aM,pre:=fun s=>Sp.aL 5000 s,num:=fun s=>s.2.1+1,out:=fun s=>Sp.d7 s}
theorem nk44:NOk Try.prog 44 N44:=by
 refine⟨Try.call44,?_⟩
 intro w F S0 b off cs x hb hF hS0 hp hown hpre hloc
 obtain⟨hoff,nF,hlim,ao,cap,row,T,hrow,r0,r1,hel⟩:=qB hp hown hloc
 subst hoff
 have hbs:=eS (hown.fact).1
 have hpre:Sp.aL 5000 x:=hpre
 have h0:=hpre.at0
 have h1:=hpre.at1
 obtain⟨L,at0,C,u⟩:=x
 have hk:∀z:Int,0<=z->z<=5000->inK .i64 (z+1):=fun z _ _=>aQ (by omega) (by omega)
 have hv:=Sp.fB (L,at0,C,()) hbs
 refine⟨hk at0 h0 h1,(reg_walk w b (at0+1) _ hv.1 hv.2 (fun o=>pP h0 h1 hlim nF hF hrow r0 r1 hbs hel C o) (fun m W hW hA=>(rD W m).mono ?_)).mono ?_⟩
 ·rintro e w' ⟨rfl,r,T',rfl⟩
  exact⟨rfl,lP _ hW (by simp[World.setCell]) hA⟩
 ·rintro e w' ⟨rfl,hB⟩
  refine⟨_,_,kW hrow r1,⟨hB.os,hB.tape,hB.output,hB.size,fun k hk=>hB.block k (by simpa[World.setCell]using hk)⟩,rfl,[_,_,_],rfl,?_⟩
  have e1:(Sp.nxV (L,at0,C,())).tmod 6=Sp.nxV (L,at0,C,())%6:=Int.tmod_eq_emod_of_nonneg hv.1
  have e2:N44.out (L,at0,C,u)=(2,Sp.nxV (L,at0,C,())%6,0,()):=by
   show Sp.d7 (L,at0,C,())=_
   unfold Sp.d7 Sp.bK;rw[e1]
  rw[e2];exact x6 F _ ⟨by decide,by decide⟩ (aQ (by omega) (by omega)) ⟨by decide,by decide⟩
set_option maxHeartbeats 1000000 in
set_option maxRecDepth 100000 in
theorem val_walk0(w:World)(b:Nat)(n:Int)(v:Int)(h0:0<=v)(h1:v<=255)(hc:(v%3==0)=true)
  (H:∀(o:Array Value),Calls Try.prog 39 #[.pointer (some ⟨b,0,none⟩)] (w.alloc (.cells o 53)) fun e w'=>e= .returned (.int .i64 v)/\After w b n w.heap.size o w')
  (H2:∀(m:Int) (W:World),W.heap[w.heap.size]? =some (.cells #[.int .i64 0,.int .i64 0,.int .i32 0] 53 (0,0))->RowKit.Below w.heap.size (w.setCell ⟨b,1,none⟩ (.int .i64 n)) W->Calls Try.prog 17 #[.int .i64 m] W fun e W'=>e= .returned (.agg #[.int .i64 2,.int .i64 m,.int .i32 0])/\
   W'.heap[w.heap.size]? =some (.cells #[.int .i64 0,.int .i64 0,.int .i32 0] 53 (0,0))/\RowKit.Below w.heap.size (w.setCell ⟨b,1,none⟩ (.int .i64 n)) W')
  (H3:∀(m:Int) (W:World),W.heap[w.heap.size]? =some (.cells #[.int .i64 0,.int .i64 0,.int .i32 0] 53 (0,0))->RowKit.Below w.heap.size (w.setCell ⟨b,1,none⟩ (.int .i64 n)) W->Calls Try.prog 19 #[.int .i32 m] W fun e W'=>e= .returned (.agg #[.int .i64 1,.int .i64 0,.int .i32 m])/\
   W'.heap[w.heap.size]? =some (.cells #[.int .i64 0,.int .i64 0,.int .i32 0] 53 (0,0))/\RowKit.Below w.heap.size (w.setCell ⟨b,1,none⟩ (.int .i64 n)) W'):
  Calls Try.prog 45 #[.pointer (some ⟨b,0,none⟩)] w fun e w'=>e= .returned (.agg #[.int .i64 1,.int .i64 0,.int .i32 (v/3-20)])/\RowKit.Below w.heap.size (w.setCell ⟨b,1,none⟩ (.int .i64 n)) w':=by
 have hk1:IntKind.wrap .i64 (v/3)=v/3:=dH (aQ (by omega) (by omega))
 have hk2:IntKind.wrap .i64 (v%3)=v%3:=dH (aQ (by omega) (by omega))
 have hk3:IntKind.wrap .i64 (v/3%6)=v/3%6:=dH (aQ (by omega) (by omega))
 have hk4:IntKind.wrap .i32 (v/3)=v/3:=dH (k:= .i32) ⟨by show(-2147483648:Int)<=_;omega,by show _<=(2147483647:Int);omega⟩
 have hk5:IntKind.wrap .i32 (v/3-20)=v/3-20:=dH (k:= .i32) ⟨by show(-2147483648:Int)<=_;omega,by show _<=(2147483647:Int);omega⟩
 go_enter Try.func45,Try.ntmps45
 go_wp2_with (first|(go_at_call 39;refine(H _).mono ?_;rintro e w' ⟨rfl,hA,hB⟩)|(go_at_call 19;refine(H3 _ _ hB hA).mono ?_;rintro e W ⟨rfl,hB2,hA2⟩;obtain⟨q0,q1,q2,q3,q4,q5,q6⟩:=own3 hB2 (.int .i64 1) (.int .i64 0) (.int .i32 (v/3-20))))
 refine bodyPost_ret (results_cell_row rfl _ _ w.heap.size 53 #[.int .i64 1,.int .i64 0,.int .i32 (v/3-20)] (0,0) _ rfl q6 Try.underlying53 rfl rfl) rfl ?_
 exact⟨rfl,below3 hA2 (Nat.le_refl _) _ _ _⟩
set_option maxHeartbeats 1000000 in
set_option maxRecDepth 100000 in
theorem val_walk1(w:World)(b:Nat)(n:Int)(v:Int)(h0:0<=v)(h1:v<=255)(hc:(v%3==0)=false)
  (H:∀(o:Array Value),Calls Try.prog 39 #[.pointer (some ⟨b,0,none⟩)] (w.alloc (.cells o 53)) fun e w'=>e= .returned (.int .i64 v)/\After w b n w.heap.size o w')
  (H2:∀(m:Int) (W:World),W.heap[w.heap.size]? =some (.cells #[.int .i64 0,.int .i64 0,.int .i32 0] 53 (0,0))->RowKit.Below w.heap.size (w.setCell ⟨b,1,none⟩ (.int .i64 n)) W->Calls Try.prog 17 #[.int .i64 m] W fun e W'=>e= .returned (.agg #[.int .i64 2,.int .i64 m,.int .i32 0])/\
   W'.heap[w.heap.size]? =some (.cells #[.int .i64 0,.int .i64 0,.int .i32 0] 53 (0,0))/\RowKit.Below w.heap.size (w.setCell ⟨b,1,none⟩ (.int .i64 n)) W')
  (H3:∀(m:Int) (W:World),W.heap[w.heap.size]? =some (.cells #[.int .i64 0,.int .i64 0,.int .i32 0] 53 (0,0))->RowKit.Below w.heap.size (w.setCell ⟨b,1,none⟩ (.int .i64 n)) W->Calls Try.prog 19 #[.int .i32 m] W fun e W'=>e= .returned (.agg #[.int .i64 1,.int .i64 0,.int .i32 m])/\
   W'.heap[w.heap.size]? =some (.cells #[.int .i64 0,.int .i64 0,.int .i32 0] 53 (0,0))/\RowKit.Below w.heap.size (w.setCell ⟨b,1,none⟩ (.int .i64 n)) W'):
  Calls Try.prog 45 #[.pointer (some ⟨b,0,none⟩)] w fun e w'=>e= .returned (.agg #[.int .i64 2,.int .i64 (v/3%6),.int .i32 0])/\RowKit.Below w.heap.size (w.setCell ⟨b,1,none⟩ (.int .i64 n)) w':=by
 have hk1:IntKind.wrap .i64 (v/3)=v/3:=dH (aQ (by omega) (by omega))
 have hk2:IntKind.wrap .i64 (v%3)=v%3:=dH (aQ (by omega) (by omega))
 have hk3:IntKind.wrap .i64 (v/3%6)=v/3%6:=dH (aQ (by omega) (by omega))
 have hk4:IntKind.wrap .i32 (v/3)=v/3:=dH (k:= .i32) ⟨by show(-2147483648:Int)<=_;omega,by show _<=(2147483647:Int);omega⟩
 have hk5:IntKind.wrap .i32 (v/3-20)=v/3-20:=dH (k:= .i32) ⟨by show(-2147483648:Int)<=_;omega,by show _<=(2147483647:Int);omega⟩
 go_enter Try.func45,Try.ntmps45
 go_wp2_with (first|(go_at_call 39;refine(H _).mono ?_;rintro e w' ⟨rfl,hA,hB⟩)|(go_at_call 17;refine(H2 _ _ hB hA).mono ?_;rintro e W ⟨rfl,hB2,hA2⟩;obtain⟨q0,q1,q2,q3,q4,q5,q6⟩:=own3 hB2 (.int .i64 2) (.int .i64 (v/3%6)) (.int .i32 0)))
 refine bodyPost_ret (results_cell_row rfl _ _ w.heap.size 53 #[.int .i64 2,.int .i64 (v/3%6),.int .i32 0] (0,0) _ rfl q6 Try.underlying53 rfl rfl) rfl ?_
 exact⟨rfl,below3 hA2 (Nat.le_refl _) _ _ _⟩
def N45:mU:={τ:=tMk,m:=mMk,T:=3,p:=[.snd,.fst],res:=aM,pre:=fun s=>Sp.aL 5000 s,num:=fun s=>s.2.1+1,out:=fun s=>Sp.eL s}
theorem nk45:NOk Try.prog 45 N45:=by
 refine⟨Try.call45,?_⟩
 intro w F S0 b off cs x hb hF hS0 hp hown hpre hloc
 obtain⟨hoff,nF,hlim,ao,cap,row,T,hrow,r0,r1,hel⟩:=qB hp hown hloc
 subst hoff
 have hbs:=eS (hown.fact).1
 have hpre:Sp.aL 5000 x:=hpre
 have h0:=hpre.at0
 have h1:=hpre.at1
 obtain⟨L,at0,C,u⟩:=x
 have hk:∀z:Int,0<=z->z<=5000->inK .i64 (z+1):=fun z _ _=>aQ (by omega) (by omega)
 have hv:=Sp.fB (L,at0,C,()) hbs
 have e1:(Sp.nxV (L,at0,C,())).tmod 3=Sp.nxV (L,at0,C,())%3:=Int.tmod_eq_emod_of_nonneg hv.1
 have e2:(Sp.nxV (L,at0,C,())).tdiv 3=Sp.nxV (L,at0,C,())/3:=Int.tdiv_eq_ediv_of_nonneg hv.1
 have e3:(Sp.nxV (L,at0,C,())/3).tmod 6=Sp.nxV (L,at0,C,())/3%6:=Int.tmod_eq_emod_of_nonneg (by omega)
 have hst:∀ {w':World},RowKit.Below w.heap.size (w.setCell ⟨b,1,none⟩ (.int .i64 (at0+1))) w'->RowKit.Below (w.setCell ⟨b,1,none⟩ (.int .i64 (at0+1))).heap.size (w.setCell ⟨b,1,none⟩ (.int .i64 (at0+1))) w':=
  fun hB=>⟨hB.os,hB.tape,hB.output,hB.size,fun k hk=>hB.block k (by simpa[World.setCell]using hk)⟩
 refine⟨hk at0 h0 h1,?_⟩
 have hO:N45.out (L,at0,C,u)=Sp.eL (L,at0,C,()):=rfl
 by_cases hc:Sp.nxV (L,at0,C,())%3=0
 ·refine(val_walk0 w b (at0+1) _ hv.1 hv.2 (by rw[hc];rfl) (fun o=>pP h0 h1 hlim nF hF hrow r0 r1 hbs hel C o) (fun m W hW hA=>(rD W m).mono ?_) (fun m W hW hA=>(xC W m).mono ?_)).mono ?_
  ·rintro e w' ⟨rfl,r,T',rfl⟩
   exact⟨rfl,lP _ hW (by simp[World.setCell]) hA⟩
  ·rintro e w' ⟨rfl,r,T',rfl⟩
   exact⟨rfl,lP _ hW (by simp[World.setCell]) hA⟩
  ·rintro e w' ⟨rfl,hB⟩
   refine⟨_,_,kW hrow r1,hst hB,rfl,[_,_,_],rfl,?_⟩
   have k4:IntKind.wrap .i32 (Sp.nxV (L,at0,C,())/3)=Sp.nxV (L,at0,C,())/3:=dH (k:= .i32) ⟨by show(-2147483648:Int)<=_;omega,by show _<=(2147483647:Int);omega⟩
   have k5:IntKind.wrap .i32 (Sp.nxV (L,at0,C,())/3-20)=Sp.nxV (L,at0,C,())/3-20:=dH (k:= .i32) ⟨by show(-2147483648:Int)<=_;omega,by show _<=(2147483647:Int);omega⟩
   have e4:N45.out (L,at0,C,u)=(1,0,Sp.nxV (L,at0,C,())/3-20,()):=by
    rw[hO];unfold Sp.eL Sp.fY;rw[e1,if_pos hc,e2,k4,k5]
   rw[e4];exact x6 F _ ⟨by decide,by decide⟩ ⟨by decide,by decide⟩ ⟨by show(-2147483648:Int)<=_;omega,by show _<=(2147483647:Int);omega⟩
 ·refine(val_walk1 w b (at0+1) _ hv.1 hv.2 (by simpa using hc) (fun o=>pP h0 h1 hlim nF hF hrow r0 r1 hbs hel C o) (fun m W hW hA=>(rD W m).mono ?_) (fun m W hW hA=>(xC W m).mono ?_)).mono ?_
  ·rintro e w' ⟨rfl,r,T',rfl⟩
   exact⟨rfl,lP _ hW (by simp[World.setCell]) hA⟩
  ·rintro e w' ⟨rfl,r,T',rfl⟩
   exact⟨rfl,lP _ hW (by simp[World.setCell]) hA⟩
  ·rintro e w' ⟨rfl,hB⟩
   refine⟨_,_,kW hrow r1,hst hB,rfl,[_,_,_],rfl,?_⟩
   have e4:N45.out (L,at0,C,u)=(2,Sp.nxV (L,at0,C,())/3%6,0,()):=by
    rw[hO];unfold Sp.eL Sp.bK;rw[e1,if_neg hc,e2,e3]
   rw[e4];exact x6 F _ ⟨by decide,by decide⟩ (aQ (by omega) (by omega)) ⟨by decide,by decide⟩
def yE:List (FuncId×mU):=[(39,N39),(44,N44),(45,N45)]
theorem nums_ok:∀f s,Lf.look yE f=some s->NOk Try.prog f s:=by
 intro f s hs
 unfold yE at hs
 simp only[Lf.look]at hs
 cases h1:Nat.beq 39 f
 ·rw[h1]at hs
  simp only[cond_false]at hs;cases h2:Nat.beq 44 f
  ·rw[h2]at hs
   simp only[cond_false]at hs;cases h3:Nat.beq 45 f
   ·rw[h3]at hs;cases hs
   ·rw[h3]at hs
    have:=Nat.eq_of_beq_eq_true h3
    simp only[cond_true,Option.some.injEq]at hs;rw[<-this,<-hs];exact nk45
  ·rw[h2]at hs
   have:=Nat.eq_of_beq_eq_true h2
   simp only[cond_true,Option.some.injEq]at hs;rw[<-this,<-hs];exact nk44
 ·rw[h1]at hs
  have:=Nat.eq_of_beq_eq_true h1
  simp only[cond_true,Option.some.injEq]at hs;rw[<-this,<-hs];exact nk39
end Go.User
namespace Go.Lf

def wpK(C:Ctx)(stp:St->Oper->Option (Prop×St))(L:List aW):List (Option aW)->Code->Nat->St->(St->Prop)->(Nat->St->Prop)->(St->Prop)->Prop
 |some l::fl,.seq a b,k,st,Qn,Qx,Qr=>wpI C stp L a k st (fun st'=>(∃x,l.inv x/\atX l (kC st' l.frz) x (kC st' l.frz))/\∀x,l.inv x->mF (l.ovr x) []->wpK C stp L fl b (k+nl a) (stx l (kC st' l.frz) x) Qn Qx Qr) Qx Qr
 |none::fl,.seq a b,k,st,Qn,Qx,Qr=>wpI C stp L a k st (fun st'=>wpK C stp L fl b (k+nl a) st' Qn Qx Qr) Qx Qr
 | [],c,k,st,Qn,Qx,Qr=>wpI C stp L c k st Qn Qx Qr
 |_,_,_,_,_,_,_=>False

def funPK(C:Ctx)(stp:St->Oper->Option (Prop×St))(s:dF)(L:s.τ.den->aH s.args->List aW)(K:s.τ.den->aH s.args->List (Option aW))(fn:Func):Prop:=
 match fn.body with
 |some c=>∀x y,s.pre x y->aB s.τ x->gE s.args y->wpK C stp (L x y) (K x y) c 0 (ofL ((0,.box s.τ s.m x)::bZ s.args y 1)) (oW C s fn.results.toList (s.fn x y) (s.out x y)) (fun _ _=>False) (oW C s fn.results.toList (s.fn x y) (s.out x y))
 |none=>False
section
variable {P:Program} {C:Ctx} {w0:World} {F0 H:aA}

theorem wpK_ok(hC:aG P C){stp:St->Oper->Option (Prop×St)}(hstp:dM P C stp){L:List aW}:
  ∀(fl:List (Option aW)) (c:Code) {k:Nat} {st:St} {Qn:St->Prop} {Qx:Nat->St->Prop} {Qr:St->Prop} {Q:Exit->Act->World->Prop} {a:Act} {w:World},wpK C stp L fl c k st Qn Qx Qr->Inv P C.np w0 F0 H st a w->
   (∀st a w,Qn st->Inv P C.np w0 F0 H st a w->Q .normal a w)->(∀i st a w,Qx i st->Inv P C.np w0 F0 H st a w->Q (.exit i) a w)->(∀st a w,Qr st->Inv P C.np w0 F0 H st a w->Q .ret a w)->c.wp P Q a w
 | [],c,k,st,Qn,Qx,Qr,Q,a,w,h,hi,hn,hx,hr=>by
  simp only[wpK]at h;exact cT hC hstp c h hi hn hx hr
 |none::fl,c,k,st,Qn,Qx,Qr,Q,a,w,h,hi,hn,hx,hr=>by
  cases c with
  |seq x y=>
   simp only[wpK]at h;refine wp_seq (cT hC hstp x h hi ?_ ?_ ?_)
   ·intro st1 a1 w1 h1 hi1
    exact wpK_ok hC hstp fl y h1 hi1 hn hx hr
   ·exact hx
   ·exact hr
  |_=>simp[wpK]at h
 |some l::fl,c,k,st,Qn,Qx,Qr,Q,a,w,h,hi,hn,hx,hr=>by
  cases c with
  |seq x y=>
   simp only[wpK]at h;refine wp_seq (cT hC hstp x h hi ?_ ?_ ?_)
   ·intro st1 a1 w1 h1 hi1
    obtain⟨⟨z,g1,g2⟩,h3⟩:=h1;have hi2:=mI g2 (iT (l:=l.frz) hi1);exact wpK_ok hC hstp fl y (h3 z g1 (iN hi2 (f:=l.ovr z) (fun t e h=>by simp only[stx,h]) (l.ovr z) [] (fun t e _ h=>h))) hi2 hn hx hr
   ·exact hx
   ·exact hr
  |_=>simp[wpK]at h

theorem POk.introQK{q:Nat}(hC:aG P C){stp:St->Oper->Option (Prop×St)}(hstp:dM P C stp){f:FuncId}{s:dF}{fn:Func}(hdef:fV P f)(hf:P.funcs[f]? =some fn)
  (hN:C.np=⟨fn.ntmps,some 0,q,0,[]⟩) (hlen:Nat.ble (s.args.length+1) fn.ntmps=true) (L:s.τ.den->aH s.args->List aW) (K:s.τ.den->aH s.args->List (Option aW)) (h:funPK C stp s L K fn):POk P f s (some q):=by
 refine⟨hdef,?_⟩
 intro w F S0 b cs x vs y hq hb hF hS0 h1 h2 ha hpre
 have hq:=hq q rfl
 subst hq
 unfold funPK at h
 split at h
 ·rename_i c hbd
  have hl:=cD.len ha
  have hlen':s.args.length+1<=fn.ntmps:=Nat.le_of_ble_eq_true hlen
  have hst:=aJ.startP (P:=P) (n:=fn.ntmps) hb hF hS0 h1 h2 ha (by omega)
  rw[<-hN]at hst;refine calls_of_wp hf hbd ?_;have hend:∀st a w',oW C s fn.results.toList (s.fn x y) (s.out x y) st->Inv P C.np w F (fun k=>S0 k∨k=b) st a w'->bodyPost P fn (o5 F S0 w b s x y) .normal a w':=by
   intro st a w' hq hi;have hqq:C.np.q=b:=by rw[hN]
   have:=tY (N:=C.np) hC (by rw[hN]) (x:=x) (y:=y) (S0:=S0) (by rw[hqq]) hq hi
   rwa [hqq]at this
  refine wpK_ok hC hstp (K x y) c (h x y hpre h2.fact (d4 ha)) ⟨F,_,by simpa using hst⟩ ?_ (fun _ _ _ _ h=>h.elim) ?_
  ·intro st a w' hq hi
   exact hend st a w' hq hi
  ·intro st a w' hq hi
   exact hend st a w' hq hi
 ·cases h
theorem POk.introK{C:Nat->Ctx}(hC:∀q,aG P (C q)){stp:Nat->St->Oper->Option (Prop×St)}(hstp:∀q,dM P (C q) (stp q)){f:FuncId}{s:dF}{fn:Func}(hdef:fV P f)(hf:P.funcs[f]? =some fn)
  (hN:∀q,(C q).np=⟨fn.ntmps,some 0,q,0,[]⟩) (hlen:Nat.ble (s.args.length+1) fn.ntmps=true) (L:Nat->s.τ.den->aH s.args->List aW) (K:Nat->s.τ.den->aH s.args->List (Option aW)) (h:∀q,funPK (C q) (stp q) s (L q) (K q) fn):POk P f s:=
 POk.all fun q=>POk.introQK (hC q) (hstp q) hdef hf (hN q) hlen (L q) (K q) (h q)
end
end Go.Lf
namespace Sp
def setR(c:Code)(n:Int):Code:=(c.1,c.2.1,n,c.2.2.2)
def setL(c:Code)(l:List Loop):Code:=(c.1,c.2.1,c.2.2.1,c.2.2.2.1,c.2.2.2.2.1,c.2.2.2.2.2.1,l,c.2.2.2.2.2.2.2)
def wR(s:Mk)(n:Int):Mk:=(s.1,s.2.1,setR s.2.2.1 n,())
def wL(s:Mk)(l:Loop):Mk:=(s.1,s.2.1,setL s.2.2.1 (cL s.2.2.1++[l]),())
def qW(B:List Block)(b:Int)(t:Term):List Block:=B.set b.toNat ((B.getD b.toNat bE).1,t,(B.getD b.toNat bE).2.2)
def wT(s:Mk)(b:Int)(t:Term):Mk:=wB s (qW (cB s.2.2.1) b t)
def nB(s:Mk):Int:=((cB s.2.2.1).length:Int)
def tJ(k:Int)(a b:Int):Term:=(k,0,bM,bM,bM,[a,b],())
def tB(o:Opd)(a b:Int):Term:=(2,0,bM,o,bM,[a,b],())
def lpN(s:Mk):Int:=6+2*((cL s.2.2.1).length:Int)
def lpB(s:Mk):Int:=1+Int.tmod (nxV s) 3
def lp1(s:Mk):Mk:=eE (wR (nxM s) (lpN s+2)) (i3 1 0 0 (bK (lpN s)) (fY 0) bM)
def lp2(s:Mk):Mk:=fG (wL (wT (lp1 s) (nB s-1) (tJ 1 (nB s) 0)) (nB s,lpN s,lpB s,()))
def lp3(s:Mk):Mk:=eE (lp2 s) (i3 3 26 0 (bK (lpN s+1)) (bK (lpN s)) (fY (Go.IntKind.wrap .i32 (lpB s))))
def lp4(s:Mk):Mk:=fG (wT (lp3 s) (nB s) (tB (bK (lpN s+1)) (nB s+1) (nB s+2)))
def lp5(s:Mk):Mk:=insM (eE (lp4 s) (i3 3 10 0 (bK (lpN s)) (bK (lpN s)) (fY 1)))
def lp6(s:Mk):Mk:=wT (lp5 s) (nB s+1) (tJ 1 (nB s) 0)
def lpM(s:Mk):Mk:=if Int.tmod (nxV (lp6 s)) 3=0 then wT (nxM (nxM (lp6 s))) (nB s+1) (tB (d7 (nxM (lp6 s))) (nB s) (nB s+2))else nxM (lp6 s)
end Sp
namespace Go.User
open Go.Lf
def S42:dF:={τ:=tMk,m:=mMk,pre:=fun s _=>Sp.aL 4000 s/\Sp.has s,fn:=fun s y=>Sp.lpM s,out:=fun _ _=>()}
def C42(q:Nat):Ctx:={mkM 136 q [(17,S17),(19,S19)] [(83,S83),(43,S43),(46,S46)]with mds:=[(57,.own .shr)]}
def L42(q:Nat)(x:S42.τ.den)(y:aH S42.args):List aW:=[]
def o3(keep:List Nat)(x:Sp.Mk)(o:List (Nat×Ent)):Option aW:=some {ι:=Unit,inv:=fun _=>True,dec:=fun _=>0,ovr:=fun _=>(0,.box tMk mMk x)::o,keep:=keep}
def K42(q:Nat)(x:S42.τ.den)(y:aH S42.args):List (Option aW):=
 let n:=Ent.shr tI (Sp.lpN x)
 let b:=Ent.shr tI (Sp.lpB x)
 let h:=Ent.shr tI (Sp.nB x)
 [none,o3 [] (Sp.nxM x) [(2,n),(3,b)],o3 [] (Sp.wR (Sp.nxM x) (Sp.lpN x+2)) [(2,n),(3,b)],o3 [] (Sp.wR (Sp.nxM x) (Sp.lpN x+2)) [(2,n),(3,b),(4,h)],o3 [] (Sp.lp1 x) [(2,n),(3,b),(4,h)],
  o3 [] (Sp.wT (Sp.lp1 x) (Sp.nB x-1) (Sp.tJ 1 (Sp.nB x) 0)) [(2,n),(3,b),(4,h)],none,o3 [] (Sp.lp2 x) [(2,n),(3,b),(4,h)],o3 [] (Sp.lp3 x) [(2,n),(3,b),(4,h)],none,o3 [] (Sp.lp4 x) [(2,n),(3,b),(4,h)],none,o3 [] (Sp.lp5 x) [(2,n),(3,b),(4,h)],o3 [] (Sp.lp6 x) [(2,n),(3,b),(4,h)]]
end Go.User
