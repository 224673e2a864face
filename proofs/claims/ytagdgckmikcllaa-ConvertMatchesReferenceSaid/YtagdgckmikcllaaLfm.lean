/- convert.renamed, convert.copyArm: their walks. -/
import Derived.Test.YtagdgckmikcllaaLfl
import Derived.WalkKit
import Derived.Lib.Walk
import Derived.Lib.SliceRun
import Derived.Laws.Rows
import Derived.Handy
import Derived.Maps.OwnSet
import Derived.Maps.OwnIn
set_option linter.unusedVariables false
set_option linter.unusedSimpArgs false
namespace Go.User
open Go.Proofs Go.Lf
set_option maxRecDepth 100000
theorem vc85:(oZ C85 (dL [] C85) S85 T85 Try.f85)=(
let q0:=(2:Nat);
let q1:=True/\True/\True;
let q2:=q1/\True;
let q3:Int:=(0:Int);
let q4:=True/\q1;
let q5:Int:=(1:Int);
let q6:Sp.Opd:=(q3,q3,q3,());
let q7:Sp.Block:=(([]:List aC.den),(q3,q3,q6,q6,q6,List.replicate q0 q3,()),());
let q8:=(1:Nat);
∀(x:Sp.Code×Unit),
 let q9:List Sp.Block:=x.1.2.2.2.2.2.2.2.1;
 let q10:=q9.length;
 let q11:Int:=(↑q10:Int);
 let q12:List Bool:=List.replicate q11.toNat false;
 let q13:=x.1=x.1;
 let q14:=q13/\True;
 Sp.okT x.1->
 aB (tI.prod (tI.prod (tI.prod (tI.prod (tI.prod (cC.slice.prod (bC.slice.prod ((aC.slice.prod ((tI.prod (tI.prod (aM.prod (aM.prod (aM.prod ((Ty.arr q0 tI).prod Ty.unit)))))).prod Ty.unit)).slice.prod Ty.unit)))))))) x.1/\True->
 q2/\
 ((True/\True/\True/\((0:tI.den)<=q11/\q11<=q11/\q11<=bJ)/\True)/\True/\True)/\
 ((True/\inN q3 q12.length/\True)/\True/\True)/\
 ((True/\True)/\True/\True)/\
 (∃(x_1:List Bool×List Int),Sp.RI x.1 x_1.1 x_1.2/\q12.set q3.toNat true=x_1.1/\q3::([]:List tI.den)=x_1.2/\q14)/\
 ∀(x_1:List Bool×List Int),
 let q15:=x_1.2.length;
 let q16:Int:=(↑q15:Int);
 let q17:Bool:=decide (q16>q3);
 let q18:Int:=q16-q5;
 let q19:=inK IntKind.i64 q18;
 let q20:=q18.toNat;
 let q21:Int:=x_1.2.getD q20 q3;
 let q22:Sp.Term:=(q9.getD q21.toNat q7).2.1;
 let q23:Int:=x_1.2.getD (x_1.2.length-q8) q3;
 let q24:=q0*Sp.nf x_1.1+x_1.2.length;
 let q25:List Int:=Sp.aR q22;
 let q26:=q25.length;
 let q27:Int:=(↑q26:Int);
 let q28:=q13/\q25=q25/\q27=q27/\True;
 let q29:=(Sp.aR (Sp.trm x.1 q23.toNat)).length;
 Sp.RI x.1 x_1.1 x_1.2->
 aB Ty.bool.slice x_1.1/\aB tI.slice x_1.2/\True->
 (q4/\True)/\
 (q17=true->
 ((True/\True/\True/\q19/\inN q18 q15/\q1)/\True)/\
 ((True/\True/\True/\q19/\vW q3 q18 q15/\True)/\True/\True)/\
 ((True/\True/\True/\inN q21 q10/\True/\True/\q22.2.2.2.2.2.1.length=q0/\q1)/\True)/\
 (∃(x_2:List Bool×List Int×Nat),Sp.RJ x.1 q23 q24 x_2.1 x_2.2.1 x_2.2.2/\x_1.1=x_2.1/\List.take q20 x_1.2=x_2.2.1/\q3=(↑x_2.2.2:Int)/\q28)/\
 ∀(x_2:List Bool×List Int×Nat),
 let q30:Int:=(↑x_2.2.2:Int);
 let q31:Bool:=decide (q30<q27);
 let q32:Int:=q25.getD q30.toNat q3;
 let q33:=inN q32 x_2.1.length;
 let q34:=q32.toNat;
 let q35:Bool:= !x_2.1.getD q34 false;
 let q36:List Int:=q32::([]:List tI.den);
 let q37:Int:=q30+q5;
 let q38:=(inK IntKind.i64 q37/\True/\True)/\True;
 Sp.RJ x.1 q23 q24 x_2.1 x_2.2.1 x_2.2.2->aB Ty.bool.slice x_2.1/\aB tI.slice x_2.2.1/\aB tI q30/\True->((True/\True)/\True)/\(q31=true->((inN q30 q26/\q1)/\True)/\((True/\True/\q33/\q1)/\True)/\(q35=true->((True/\True/\q33/\True)/\True/\True)/\(q4/\(↑(x_2.2.1.length+q36.length):Int)<=bJ/\True/\True)/\q38/\∃(y:List Bool×List Int×Nat),Sp.RJ x.1 q23 q24 y.1 y.2.1 y.2.2/\q29-y.2.2<q29-x_2.2.2/\x_2.1.set q34 true=y.1/\x_2.2.1++q36=y.2.1/\q37=(↑y.2.2:Int)/\q28)/\(q35=false->q38/\∃(y:List Bool×List Int×Nat),Sp.RJ x.1 q23 q24 y.1 y.2.1 y.2.2/\q29-y.2.2<q29-x_2.2.2/\x_2.1=y.1/\x_2.2.1=y.2.1/\q37=(↑y.2.2:Int)/\q28))/\(q31=false->∃(y:List Bool×List Int),Sp.RI x.1 y.1 y.2/\q0*Sp.nf y.1+y.2.length<q24/\x_2.1=y.1/\x_2.2.1=y.2/\q14))/\
 (q17=false->q2/\x_1.1=Sp.eP x.1)):=by kernel_rfl
theorem vc52:(eR C52 (dL [] C52) S52 L52 Try.f52)=(
∀(x:Int×Unit),True->aB tI x.1/\True->((True/\True)/\True)/\((True/\True/\True)/\True/\True)/\((2:Int),x.1,(0:Int),())=Sp.bK x.1):=by kernel_rfl
theorem vc53:(eR C53 (dL [] C53) S53 L53 Try.f53)=(
let q0:=(True/\True)/\True;
∀(x:List Sp.Inst×Unit),
 let q1:=x.1.length;
 q1<=(5000:Nat)->aB aC.slice x.1/\True->q0/\((True/\True/\True)/\True)/\(x.1=([]:List aC.den)->q0/\([]:List aC.den)=x.1)/\(True->((True/\True/\(↑((0:Nat)+q1):Int)<=bJ/\True)/\True/\True)/\x.1=x.1)):=by kernel_rfl
theorem vc99:(eR C99 (dL [] C99) S99 L99 Try.f99)=(
let q0:=(True/\True/\True)/\True;
let q1:Int:=(1:Int);
let q2:=(True/\True)/\True;
let q3:Int:=(2:Int);
let q4:Int:=(3:Int);
let q5:Int:=(4:Int);
let q6:Int:=(5:Int);
∀(x:Sp.Inst×Unit),
 let q7:Bool:=x.1.1==q1;
 let q8:=q7=true;
 let q9:=q2/\true=Sp.gA x.1;
 let q10:=q7=false;
 let q11:=q2/\false=Sp.gA x.1;
 let q12:Bool:=x.1.1==q3;
 let q13:=q12=true;
 let q14:=q12=false;
 let q15:Bool:=x.1.1==q4;
 let q16:=q15=true;
 let q17:=q15=false;
 let q18:Bool:=x.1.1==q5;
 let q19:=q18=true;
 let q20:=q18=false;
 let q21:Bool:=x.1.1==q6;
 let q22:=q21=true;
 let q23:=q21=false;
 let q24:Bool:=x.1.1==(6:Int);
 True->aB aC x.1/\True->q0/\q0/\q0/\(q8->(q8->q9)/\(q10->q11))/\(q10->q0/\(q13->(q13->q9)/\(q14->q11))/\(q14->q0/\(q16->(q16->q9)/\(q17->q11))/\(q17->q0/\(q19->(q19->q9)/\(q20->q11))/\(q20->q0/\(q22->(q22->q9)/\(q23->q11))/\(q23->q0/\(q24=true->q9)/\(q24=false->q11))))))):=by kernel_rfl
theorem vc98:(eR C98 (dL [] C98) S98 L98 Try.f98)=(
let q0:=True/\True/\True;
∀(x:Sp.Inst×Unit),
 let q1:Bool:= !Sp.gA x.1;
 True->aB aC x.1/\True->(q0/\True)/\((True/\True/\q0)/\True)/\q1=q1):=by kernel_rfl
theorem vc75:(eR C75 (dL [] C75) S75 L75 Try.f75)=(
let q0:List Ty:=aC::([]:List Ty);
let q1:=(True/\True)/\True;
let q2:=True/\True/\True;
let q3:Int:=(0:Int);
let q4:=q0=q0;
let q5:=q2/\True;
let q6:Sp.Opd:=(q3,q3,q3,());
let q7:Int:=(1:Int);
∀(x:List Sp.Inst×Fun q0 Ty.bool×Unit),
 let q8:=x.1.length;
 let q9:Int:=(↑q8:Int);
 let q10:=x.1=x.1/\(∃(h1:q4),∃(h2:Ty.bool=Ty.bool),x.2.1=x.2.1)/\q9=q9/\True;
 let q11:Int:=Sp.qH (fun(e:Sp.Inst)=>x.2.1.2 (e,())) x.1;
 (∀(e:Sp.Inst),x.2.1.1 (e,()))->
 aB aC.slice x.1/\True->
 q1/\
 ((True/\q2)/\True)/\
 (∃(x_1:Nat),(x_1<=q8/\∀(e:Sp.Inst),e∈List.take x_1 x.1->x.2.1.2 (e,())=false)/\q3=(↑x_1:Int)/\q10)/\
 ∀(x_1:Nat),
 let q12:Bool:=decide ((↑x_1:Int)<q9);
 let q13:Sp.Inst×Unit:=(x.1.getD (↑x_1:Int).toNat (q3,q3,q3,q6,q6,q6,q6,()),());
 let q14:Bool:=x.2.1.2 q13;
 let q15:Int:=(↑x_1:Int)+q7;
 (x_1<=q8/\∀(e:Sp.Inst),e∈List.take x_1 x.1->x.2.1.2 (e,())=false)->aB tI (↑x_1:Int)/\True->q1/\(q12=true->q5/\((True/\True/\True/\inN (↑x_1:Int) q8/\True/\x.2.1.1 q13/\True)/\True)/\(q14=true->q5/\(↑x_1:Int)=q11)/\(q14=false->((inK IntKind.i64 q15/\True/\True)/\True)/\∃(y:Nat),(y<=q8/\∀(e:Sp.Inst),e∈List.take y x.1->x.2.1.2 (e,())=false)/\q8-y<q8-x_1/\q15=(↑y:Int)/\q10))/\(q12=false->q1/\ -q7=q11)):=by kernel_rfl
theorem vc35:(eR C35 (dL [] C35) S35 L35 Try.f35)=(
∀(x:List Sp.Inst×Fun (aC::([]:List Ty)) Ty.bool×Unit),
 let q0:=∀(e:Sp.Inst),x.2.1.1 (e,());
 q0->aB aC.slice x.1/\True->((True/\True)/\True)/\((True/\True/\q0/\True/\True/\True)/\True)/\decide (Sp.qH (fun(e:Sp.Inst)=>x.2.1.2 (e,())) x.1≥(0:Int))=x.1.any fun(e:aC.den)=>x.2.1.2 (e,())):=by kernel_rfl
theorem vc50:(funB C50 (dL [] C50) S50 T50 Try.f50)=(
let q0:=(2:Nat);
let q1:=True/\True/\True;
let q2:=q1/\True;
let q3:=True/\q1;
let q4:Int:=(0:Int);
let q5:=([]:List aD)=([]:List aD);
let q6:=(True/\True)/\True;
let q7:Sp.Opd:=(q4,q4,q4,());
let q8:Sp.Block:=(([]:List aC.den),(q4,q4,q7,q7,q7,List.replicate q0 q4,()),());
let q9:Int:=(1:Int);
∀(x:Sp.Code×Unit),
 let q10:Int×List Sp.Arr×List Sp.Opd×List Sp.Block×Unit:=x.1.2.2.2.2;
 let q11:List Sp.Arr×List Sp.Opd×List Sp.Block×Unit:=q10.2;
 let q12:List Sp.Opd×List Sp.Block×Unit:=q11.2;
 let q13:List Sp.Block×Unit:=q12.2;
 let q14:List Sp.Block:=q13.1;
 let q15:=q14.length;
 let q16:Int:=(↑q15:Int);
 let q17:=(Sp.cB x.1).length;
 let q18:=x.1=x.1;
 let q19:=Sp.eP x.1=Sp.eP x.1;
 let q20:=(Sp.eP x.1).length;
 let q21:Int:=(↑q20:Int);
 let q22:=q21=q21;
 let q23:=q18/\q19/\q22/\True;
 Sp.okT x.1->
 aB (tI.prod (tI.prod (tI.prod (tI.prod (tI.prod (cC.slice.prod (bC.slice.prod ((aC.slice.prod ((tI.prod (tI.prod (aM.prod (aM.prod (aM.prod ((Ty.arr q0 tI).prod Ty.unit)))))).prod Ty.unit)).slice.prod Ty.unit)))))))) x.1/\True->
 q2/\
 ((True/\True/\Sp.okT x.1/\True/\True/\True/\((0:tI.den)<=q16/\q16<=q16/\q16<=bJ)/\q3)/\True)/\
 ((True/\True/\True/\q15<=(5000:Nat)/\q3)/\True/\True)/\
 ((True/\True/\True/\q3)/\True)/\
 (∃(x_1:Nat),x_1<=q17/\((x.1.1,x.1.2.1,x.1.2.2.1,x.1.2.2.2.1,q10.1,q11.1,q12.1,q14,q13.2),Sp.eP x.1,List.replicate q16.toNat q4,())=(x.1,Sp.eP x.1,Sp.frN x.1 x_1,())/\q5/\q4=(↑x_1:Int)/\q23)/\
 ∀(x_1:Nat),
 let q24:Sp.Wk:=(x.1,Sp.eP x.1,Sp.frN x.1 x_1,());
 let q25:Bool:=decide ((↑x_1:Int)<q21);
 let q26:=(↑x_1:Int).toNat;
 let q27:Bool:=(Sp.eP x.1).getD q26 false;
 let q28:Sp.Term:=(q14.getD q26 q8).2.1;
 let q29:=(Sp.aR (Sp.trm x.1 x_1)).length;
 let q30:List Int:=Sp.aR q28;
 let q31:=q30.length;
 let q32:Int:=(↑q31:Int);
 let q33:=q18/\q19/\q22/\(↑x_1:Int)=(↑x_1:Int)/\q30=q30/\q32=q32/\True;
 let q34:Int:=(↑x_1:Int)+q9;
 let q35:=(inK IntKind.i64 q34/\True/\True)/\True;
 x_1<=q17->
 aB ((tI.prod (tI.prod (tI.prod (tI.prod (tI.prod (cC.slice.prod (bC.slice.prod ((aC.slice.prod ((tI.prod (tI.prod (aM.prod (aM.prod (aM.prod ((Ty.arr q0 tI).prod Ty.unit)))))).prod Ty.unit)).slice.prod Ty.unit)))))))).prod (Ty.bool.slice.prod jB)) q24/\True/\aB tI (↑x_1:Int)/\True->
 q6/\
 (q25=true->
 ((True/\inN (↑x_1:Int) q20/\q3)/\True)/\
 q6/\
 (q27=true->
 ((True/\True/\True/\inN (↑x_1:Int) q15/\True/\True/\q28.2.2.2.2.2.1.length=q0/\q1)/\True)/\
 (∃(x_2:Nat),x_2<=q29/\q24=(x.1,Sp.eP x.1,Sp.frM x.1 x_1 x_2,())/\q5/\q4=(↑x_2:Int)/\q33)/\
 ∀(x_2:Nat),
 let q36:List Int:=Sp.frM x.1 x_1 x_2;
 let q37:Sp.Wk:=(x.1,Sp.eP x.1,q36,());
 let q38:Bool:=decide ((↑x_2:Int)<q32);
 let q39:Int:=q30.getD (↑x_2:Int).toNat q4;
 let q40:=inN q39 q36.length;
 let q41:=q39.toNat;
 let q42:Int:=q36.getD q41 q4+q9;
 let q43:Int:=(↑x_2:Int)+q9;
 x_2<=q29->aB ((tI.prod (tI.prod (tI.prod (tI.prod (tI.prod (cC.slice.prod (bC.slice.prod ((aC.slice.prod ((tI.prod (tI.prod (aM.prod (aM.prod (aM.prod ((Ty.arr q0 tI).prod Ty.unit)))))).prod Ty.unit)).slice.prod Ty.unit)))))))).prod (Ty.bool.slice.prod jB)) q37/\True/\aB tI (↑x_2:Int)/\True->q6/\(q38=true->((inN (↑x_2:Int) q31/\q1)/\True)/\((True/\True/\True/\True/\True/\q40/\True/\inK IntKind.i64 q42/\q40/\True)/\True/\True)/\((inK IntKind.i64 q43/\True/\True)/\True)/\∃(y:Nat),y<=q29/\q29-y<q29-x_2/\(x.1,Sp.eP x.1,q36.set q41 q42,())=(x.1,Sp.eP x.1,Sp.frM x.1 x_1 y,())/\q5/\q43=(↑y:Int)/\q33)/\(q38=false->q35/\∃(y:Nat),y<=q17/\q17-y<q17-x_1/\q37=(x.1,Sp.eP x.1,Sp.frN x.1 y,())/\q5/\q34=(↑y:Int)/\q23))/\
 (q27=false->q35/\∃(y:Nat),y<=q17/\q17-y<q17-x_1/\q24=(x.1,Sp.eP x.1,Sp.frN x.1 y,())/\q5/\q34=(↑y:Int)/\q23))/\
 (q25=false->q2/\q24=(x.1,Sp.eP x.1,Sp.frL x.1,()))):=by kernel_rfl
end Go.User
namespace Go.User
open Go.Lf Go.Proofs
theorem dG{C:Ctx}(hC:aG Try.prog C):dM Try.prog C (dL [] C):=oF (bs:=[]) hC (fun _ _ h=>by cases h)
theorem ok52:FOk Try.prog 52 S52:=by
 have hC:aG Try.prog C52:=okA aS
 refine FOk.intro hC (dG hC) Try.call52 Try.func52 (by kernel_rfl) (by kernel_rfl) L52 (vc52.mpr ?_)
 simp only[zz,zy]
 intro x _;rfl
theorem ok53:FOk Try.prog 53 S53:=by
 have hC:aG Try.prog C53:=okA aS
 refine FOk.intro hC (dG hC) Try.call53 Try.func53 (by kernel_rfl) (by kernel_rfl) L53 ?_
 rw[vc53]
 simp only[zz,zy]
 rintro⟨l,u⟩ h _
 dsimp only
 exact⟨fun h=>h.symm,gW (by have h:List.length l<=5000:=h;omega)⟩
theorem ok99:FOk Try.prog 99 S99:=by
 have hC:aG Try.prog C99:=okA aS
 refine FOk.intro hC (dG hC) Try.call99 Try.func99 (by kernel_rfl) (by kernel_rfl) L99 ?_
 rw[vc99]
 simp only[zz,zy]
 rintro⟨x,u⟩ _
 dsimp only
 unfold Sp.gA
 generalize x.1=o
 have ht:∀(h:1<=o/\o<=6),true=decide (1<=o/\o<=6):=fun h=>(decide_eq_true h).symm
 have hf:∀(h:¬(1<=o/\o<=6)),false=decide (1<=o/\o<=6):=fun h=>(decide_eq_false h).symm
 refine⟨fun h=>⟨fun _=>ht (by omega),fun g=>absurd h g⟩,fun h1=>⟨fun h=>⟨fun _=>ht (by omega),fun g=>absurd h g⟩,fun h2=>⟨fun h=>⟨fun _=>ht (by omega),fun g=>absurd h g⟩,fun h3=>⟨fun h=>⟨fun _=>ht (by omega),fun g=>absurd h g⟩,fun h4=>⟨fun h=>⟨fun _=>ht (by omega),fun g=>absurd h g⟩,fun h5=>⟨fun h=>ht (by omega),fun h6=>hf (by omega)⟩⟩⟩⟩⟩⟩
theorem ok98:FOk Try.prog 98 S98:=by
 have hC:aG Try.prog C98:=okA (aE ok99 aS)
 refine FOk.intro hC (dG hC) Try.call98 Try.func98 (by kernel_rfl) (by kernel_rfl) L98 ?_
 rw[vc98]
 simp only[zz,zy]
theorem ok75:FOk Try.prog 75 S75:=by
 have hC:aG Try.prog C75:=okA aS
 refine FOk.intro hC (dG hC) Try.call75 Try.func75 (by kernel_rfl) (by kernel_rfl) L75 ?_
 rw[vc75]
 simp only[zz,zy]
 intro x hp hx
 refine⟨⟨0,⟨Nat.zero_le _,by simp⟩,rfl⟩,?_⟩
 intro i hi hk
 refine⟨fun hlt=>⟨⟨eZ hlt,hp _⟩,fun h=>Sp.findX_at hi.2 (by omega) h,fun h=>⟨d9 hlt hx.1,i+1,⟨by omega,Sp.all_take hi.2 (by omega) h⟩,by omega,by omega⟩⟩,fun hge=> ?_⟩
 have:=hi.2
 rw[List.take_of_length_le (by omega)]at this
 exact Sp.findX_none this
theorem ok35:FOk Try.prog 35 S35:=by
 have hC:aG Try.prog C35:=okA (aE ok75 aS)
 refine FOk.intro hC (dG hC) Try.call35 Try.func35 (by kernel_rfl) (by kernel_rfl) L35 ?_
 rw[vc35]
 simp only[zz,zy]
 intro x hp hx
 exact⟨hp,Sp.findX_any _ _⟩
theorem ok85(h87:FOk Try.prog 87 S87):FOk Try.prog 85 S85:=by
 have hC:aG Try.prog C85:=okC (aE h87 aS) rfl rfl rfl rfl rfl rfl rfl
 refine FOk.introT hC (dG hC) Try.call85 Try.func85 rfl (by kernel_rfl) T85 ?_
 rw[vc85]
 simp only[zz,zy]
 rintro⟨c,u⟩ h _
 have h:Sp.okT c:=h
 dsimp only
 have hb0:(([],(0,0,(0,0,0,()),(0,0,0,()),(0,0,0,()),List.replicate 2 0,()),()):Sp.Block)=Sp.bE:=rfl
 have hcB:c.2.2.2.2.2.2.2.1=Sp.cB c:=rfl
 simp only[hb0,hcB]
 have hne:=h.ne
 have hbd:=h.bd
 refine⟨⟨Int.natCast_nonneg _,Int.le_refl _,gW (by omega)⟩,⟨by omega,by rw[List.length_replicate];omega⟩,⟨(_,_),Sp.RI.start h,rfl,rfl⟩,?_⟩
 rintro⟨out,left⟩ hr _
 dsimp only at hr⊢
 refine⟨fun hl=> ?_,fun hl=>Sp.RI.fin h hr (by omega)⟩
 have hl:0<left.length:=by omega
 have hll:=hr.ms
 have e1:((left.length:Int)-1).toNat=left.length-1:=by omega
 have hst:=Sp.RJ.start h hr hl
 rw[e1]
 have hbo:=hst.bo
 have htr:∀b:Nat,((Sp.cB c).getD b Sp.bE).2.1=Sp.trm c b:=fun _=>rfl
 simp only[htr]
 generalize left.getD (left.length-1) 0=b at *
 refine⟨⟨aQ (by omega) (by omega),by omega,by omega⟩,⟨aQ (by omega) (by omega),by omega,by omega,by omega⟩,⟨⟨hbo.1,hbo.2.1⟩,h.two _ (by omega)⟩,⟨(_,_,0),hst,rfl,rfl,rfl⟩,?_⟩
 rintro⟨out2,left2,j⟩ hj _
 dsimp only at hj⊢
 have hms:=hj.ms
 have hs2:=(Sp.lR (h.two b.toNat (by omega))).2
 refine⟨fun hlt=> ?_,fun hge=>⟨(out2,left2),hj.fin (by omega) (by omega),by show 2*Sp.nf out2+left2.length<_;omega,rfl,rfl⟩⟩
 have hlt:j<(Sp.aR (Sp.trm c b.toNat)).length:=by omega
 obtain⟨_,g2,g3⟩:=Sp.xL h ⟨hbo.1,hbo.2.1⟩ hlt
 have hlen:=hj.len
 refine⟨⟨by omega,by omega⟩,⟨by omega,by omega⟩,fun hf=>⟨⟨by omega,by omega⟩,gW (by omega),aQ (by omega) (by omega),(_,_,j+1),hj.push h hlt hf,by dsimp only;omega,rfl,rfl,by simp⟩,fun hf=>⟨aQ (by omega) (by omega),(_,_,j+1),hj.skip hlt hf,by dsimp only;omega,rfl,rfl,by simp⟩⟩
theorem bk50(h87:FOk Try.prog 87 S87):BOk Try.prog 50 S50:=by
 have hC:aG Try.prog C50:=okC (aE (ok85 h87) (aE ok86 (aE h87 aS))) rfl rfl rfl rfl rfl rfl rfl
 refine BOk.intro hC (dG hC) Try.call50 Try.func50 rfl (by kernel_rfl) T50 ?_
 rw[vc50]
 simp only[zz,zy]
 rintro⟨c,u⟩ h _
 have h:Sp.okT c:=h
 dsimp only
 have hb0:(([],(0,0,(0,0,0,()),(0,0,0,()),(0,0,0,()),List.replicate 2 0,()),()):Sp.Block)=Sp.bE:=rfl
 have hcB:c.2.2.2.2.2.2.2.1=Sp.cB c:=rfl
 have htr:∀b:Nat,((Sp.cB c).getD b Sp.bE).2.1=Sp.trm c b:=fun _=>rfl
 simp only[hb0,hcB,htr]
 have hne:=h.ne
 have hbd:=h.bd
 have hrl:=Sp.jV c
 refine⟨⟨h,Int.natCast_nonneg _,Int.le_refl _,gW (by omega)⟩,by omega,⟨0,Nat.zero_le _,by rw[Sp.frN_zero];rfl,rfl⟩,?_⟩
 intro k hk _
 refine⟨fun hlt=> ?_,fun hge=> ?_⟩
 ·have hkl:k<(Sp.cB c).length:=by omega
  have hs2:=(Sp.lR (h.two k hkl)).2
  have hg:Sp.gI c k=(Sp.eP c).getD k false:=(Sp.kF c hkl).symm
  refine⟨⟨by omega,by omega⟩,fun ht=>⟨⟨⟨by omega,by omega⟩,h.two k hkl⟩,⟨0,Nat.zero_le _,by rw[Sp.frM_zero],rfl⟩,?_⟩,fun hf=>⟨aQ (by omega) (by omega),k+1,by omega,by omega,by rw[Sp.frN_skip c k (hg.trans hf)],by simp⟩⟩
  intro j hj _;refine⟨fun hlt2=> ?_,fun hge2=>⟨aQ (by omega) (by omega),k+1,by omega,by omega,by rw[Sp.frM_end c k j (hg.trans ht) (by omega)],by simp⟩⟩
  have hlt2:j<(Sp.aR (Sp.trm c k)).length:=by omega
  obtain⟨g1,g2,g3⟩:=Sp.xL h (b:=(k:Int)) ⟨by omega,by omega⟩ (j:=j) (by simpa using hlt2)
  simp only[Int.toNat_natCast]at g1 g2 g3;have hml:=Sp.jL c k j;have hbnd:inK .i64 ((Sp.frM c k j).getD ((Sp.aR (Sp.trm c k)).getD j 0).toNat 0+1):=by
   rw[Sp.frM,Sp.oU _ _ _ (by omega)];have:=Sp.cnt_le c k ((Sp.aR (Sp.trm c k)).getD j 0).toNat;split<;>exact aQ (by omega) (by omega)
  refine⟨⟨by omega,by omega⟩,⟨⟨g2,by omega⟩,hbnd,⟨g2,by omega⟩⟩,aQ (by omega) (by omega),j+1,by omega,by omega,by rw[Sp.frM_step h hkl hlt2],by simp⟩
 ·have:k=(Sp.cB c).length:=by omega
  subst this;rfl
end Go.User
namespace Go.User
open Go Go.Proofs Go.RowKit Go.Lib Go.Lf
set_option maxHeartbeats 1000000 in
set_option maxRecDepth 100000 in
theorem succ_exit(w:World)(s d0 d1 d2 a0 a1 a2 b0 b1 b2 x y:Int):Calls Try.prog 87 #[.agg #[.int .i64 5,.int .i64 s,.int .i64 d0,.int .i64 d1,.int .i32 d2,.int .i64 a0,.int .i64 a1,.int .i32 a2,.int .i64 b0,.int .i64 b1,.int .i32 b2,.int .i64 x,.int .i64 y]] w fun e w'=>
  e= .returned (.slice none 0 0)/\∃o,w'=w.alloc o:=by
 go_enter Try.func87,Try.ntmps87
 go_wp2
 go_ret
 exact⟨rfl,_,rfl⟩
set_option maxHeartbeats 1000000 in
set_option maxRecDepth 100000 in
theorem succ_two(w:World)(s d0 d1 d2 a0 a1 a2 b0 b1 b2 x y:Int)(h:x≠y):Calls Try.prog 87 #[.agg #[.int .i64 2,.int .i64 s,.int .i64 d0,.int .i64 d1,.int .i32 d2,.int .i64 a0,.int .i64 a1,.int .i32 a2,.int .i64 b0,.int .i64 b1,.int .i32 b2,.int .i64 x,.int .i64 y]] w fun e w'=>
  e= .returned (.slice (some ⟨w.heap.size,11,none⟩) 2 2)/\∃T u0 u1 u2 u3 u4 u5 u6 u7 u8 u9 u10,w'=w.alloc (.cells #[u0,u1,u2,u3,u4,u5,u6,u7,u8,u9,u10,.int .i64 x,.int .i64 y] T):=by
 go_enter Try.func87,Try.ntmps87
 go_wp2
 go_ret
 exact⟨rfl,_,_,_,_,_,_,_,_,_,_,_,_,rfl⟩
set_option maxHeartbeats 1000000 in
set_option maxRecDepth 100000 in
theorem succ_same(w:World)(s d0 d1 d2 a0 a1 a2 b0 b1 b2 x:Int):Calls Try.prog 87 #[.agg #[.int .i64 2,.int .i64 s,.int .i64 d0,.int .i64 d1,.int .i32 d2,.int .i64 a0,.int .i64 a1,.int .i32 a2,.int .i64 b0,.int .i64 b1,.int .i32 b2,.int .i64 x,.int .i64 x]] w fun e w'=>
  e= .returned (.slice (some ⟨w.heap.size+1,0,none⟩) 1 1)/\∃o T,w'=(w.alloc o).alloc (.cells #[.int .i64 x] T):=by
 go_enter Try.func87,Try.ntmps87
 go_wp2
 go_ret
 exact⟨rfl,_,_,rfl⟩
set_option maxHeartbeats 1000000 in
set_option maxRecDepth 100000 in
theorem succ_one(w:World)(k s d0 d1 d2 a0 a1 a2 b0 b1 b2 x y:Int)(h5:k≠5)(h2:k≠2):Calls Try.prog 87 #[.agg #[.int .i64 k,.int .i64 s,.int .i64 d0,.int .i64 d1,.int .i32 d2,.int .i64 a0,.int .i64 a1,.int .i32 a2,.int .i64 b0,.int .i64 b1,.int .i32 b2,.int .i64 x,.int .i64 y]] w fun e w'=>
  e= .returned (.slice (some ⟨w.heap.size+1,0,none⟩) 1 1)/\∃o T,w'=(w.alloc o).alloc (.cells #[.int .i64 x] T):=by
 go_enter Try.func87,Try.ntmps87
 go_wp2
 go_ret
 exact⟨rfl,_,_,rfl⟩
theorem agg_of{F:aA}{w:World}{τ:Ty}{v:Value}{x:τ.den}(h:aT F w τ .shr none' v x)(ha:τ.isAgg=true):∃cs:List Value,v= .agg cs.toArray/\cs.length=τ.size/\Go.Lf.Own F w τ .shr none' cs x:=by
 obtain⟨cs,rfl,h⟩:=h
 exact⟨cs,by unfold bH;rw[if_pos ha],h.len,h⟩
section
variable {F:aA} {w:World} {m:Md} {S:aA} {cs:List Value}
theorem nP{k:IntKind}{τ:Ty}{x:Int×τ.den}(h:Go.Lf.Own F w (.prod (.int k) τ) m S cs x):∃c2 S2,cs= .int k x.1::c2/\Go.Lf.Own F w τ m.snd S2 c2 x.2/\k.min<=x.1/\x.1<=k.max:=by
 obtain⟨c1,c2,S1,S2,rfl,_,_,_,⟨rfl,h1⟩,h2⟩:=h
 exact⟨c2,S2,rfl,h2,h1⟩
theorem nO{a b:Ty}{x:a.den×b.den}(h:Go.Lf.Own F w (.prod a b) m S cs x):∃c1 c2 S1 S2,cs=c1++c2/\Go.Lf.Own F w a m.fst S1 c1 x.1/\Go.Lf.Own F w b m.snd S2 c2 x.2:=by
 obtain⟨c1,c2,S1,S2,rfl,_,_,_,h1,h2⟩:=h
 exact⟨c1,c2,S1,S2,rfl,h1,h2⟩
theorem x7{x:Unit}(h:Go.Lf.Own F w .unit m S cs x):cs=[]:=h
theorem kG{o:Sp.Opd}(h:Go.Lf.Own F w aM m S cs o):cs=[.int .i64 o.1,.int .i64 o.2.1,.int .i32 o.2.2.1]/\(IntKind.i64.min<=o.1/\o.1<=IntKind.i64.max)/\(IntKind.i64.min<=o.2.1/\o.2.1<=IntKind.i64.max)/\IntKind.i32.min<=o.2.2.1/\o.2.2.1<=IntKind.i32.max:=by
 obtain⟨c1,_,rfl,h,k1⟩:=nP h
 obtain⟨c2,_,rfl,h,k2⟩:=nP h
 obtain⟨c3,_,rfl,h,k3⟩:=nP h
 obtain rfl:=x7 h
 exact⟨rfl,k1,k2,k3⟩
theorem own_two{l:List Int}(h:Go.Lf.Own F w (.arr 2 tI) m S cs l):∃x y,l=[x,y]/\cs=[.int .i64 x,.int .i64 y]/\(IntKind.i64.min<=x/\x<=IntKind.i64.max)/\IntKind.i64.min<=y/\y<=IntKind.i64.max:=by
 obtain⟨hl,hc,Si,_,_,he⟩:=h
 obtain⟨x,y,rfl⟩:∃x y,l=[x,y]:=by
  rcases l with _|⟨a,_|⟨b,_|⟨c,r⟩⟩⟩<;>simp at hl
  exact⟨a,b,rfl⟩
 obtain⟨u,v,rfl⟩:∃u v,cs=[u,v]:=by
  have hc:cs.length=2:=hc
  rcases cs with _|⟨a,_|⟨b,_|⟨c,r⟩⟩⟩<;>simp at hc
  exact⟨a,b,rfl⟩
 obtain⟨h1,h2⟩:=he 0 x rfl
 obtain⟨h3,h4⟩:=he 1 y rfl
 have h1:[u]=[.int .i64 x]:=h1
 have h3:[v]=[.int .i64 y]:=h3
 have e1:u= .int .i64 x:=by simpa using h1
 have e3:v= .int .i64 y:=by simpa using h3
 subst e1 e3
 exact⟨x,y,rfl,rfl,h2,h4⟩
end
theorem own_ints{F:aA}{w:World}{b off:Nat}{row:Array Value}{T:TypeId}{fr:Nat×Nat}{l:List Int}{cap:Nat}(hF:F b)(hb:w.heap[b]? =some (.cells row T fr))(hn:off+l.length<=row.size)(hc:l.length<=cap)(hl:l.length<=lim)
  (hv:∀i x,l[i]? =some x->row[off+i]? =some (.int .i64 x)/\IntKind.i64.min<=x/\x<=IntKind.i64.max):Go.Lf.Own F w (.slice tI) .shr none' [.slice (some ⟨b,off,none⟩) l.length cap] l:=by
 refine⟨some ⟨b,off,none⟩,cap,rfl,hc,hl,.inr ⟨b,off,row,T,fr,rfl,hF,hb,?_,?_⟩⟩
 ·have:Ty.size tI=1:=rfl
  rw[this,Nat.mul_one];exact hn
 ·intro i x hx
  obtain⟨h1,h2⟩:=hv i x hx;have hs:Ty.size tI=1:=rfl;rw[hs,Nat.mul_one];obtain⟨hlt,hval⟩:=Array.getElem?_eq_some_iff.1 h1;refine⟨?_,h2⟩;show List.take 1 (List.drop (off+i) row.toList)=[.int .i64 x];rw[List.drop_eq_getElem_cons (by simpa using hlt)];simp[hval]
theorem ok87:FOk Try.prog 87 S87:=by
 refine⟨Try.call87,?_⟩
 rintro w F vs ⟨t,u⟩ hG hF ⟨v,r,rfl,ht,hr⟩ hp
 have hr:r=[]:=hr
 subst hr
 obtain⟨k,s,d,a,b,l,z⟩:=t
 have hp:l.length=2:=hp
 obtain⟨cs,rfl,_,h⟩:=agg_of (τ:=oV) ht rfl
 obtain⟨c1,_,rfl,h,k1⟩:=nP h
 obtain⟨c2,_,rfl,h,k2⟩:=nP h
 obtain⟨e1,c3,_,_,rfl,g1,h⟩:=nO h
 obtain⟨e2,c4,_,_,rfl,g2,h⟩:=nO h
 obtain⟨e3,c5,_,_,rfl,g3,h⟩:=nO h
 obtain⟨e4,c6,_,_,rfl,g4,h⟩:=nO h
 obtain rfl:=x7 h
 obtain⟨rfl,_⟩:=kG g1
 obtain⟨rfl,_⟩:=kG g2
 obtain⟨rfl,_⟩:=kG g3
 obtain⟨x,y,hl,rfl,hx,hy⟩:=own_two g4
 have hl:l=[x,y]:=hl
 subst hl
 show Calls Try.prog 87 #[.agg #[.int .i64 k,.int .i64 s,.int .i64 d.1,.int .i64 d.2.1,.int .i32 d.2.2.1,.int .i64 a.1,.int .i64 a.2.1,.int .i32 a.2.2.1,.int .i64 b.1,.int .i64 b.2.1,.int .i32 b.2.2.1,.int .i64 x,.int .i64 y]] w (mZ F w false (.slice tI) .shr (Sp.aR (k,s,d,a,b,[x,y],z)))
 have hone:∀ {P:Ending->World->Prop},Sp.aR (k,s,d,a,b,[x,y],z)=[x]->∀e w',(e= .returned (.slice (some ⟨w.heap.size+1,0,none⟩) 1 1)/\∃o T,w'=(w.alloc o).alloc (.cells #[.int .i64 x] T))->mZ F w false (.slice tI) .shr (Sp.aR (k,s,d,a,b,[x,y],z)) e w':=by
  rintro P hs e w' ⟨rfl,o,T,rfl⟩
  rw[hs];have hsz:((w.alloc o).alloc (.cells #[.int .i64 x] T)).heap.size=w.heap.size+2:=by simp
  refine⟨_,fun q=>F q∨q=w.heap.size+1,none',rfl,((Below.refl _ _).alloc (Nat.le_refl _) _).alloc (by simp) _,fun _ h=> .inl h,?_,?_,fun _ h=>h.elim,?_⟩
  ·rintro q (h|rfl) hn
   ·exact absurd h hn
   ·omega
  ·rintro q ((h|rfl)|h)
   ·have:=hF q h;omega
   ·omega
   ·exact h.elim
  ·refine⟨_,rfl,own_ints (l:=[x]) (cap:=1) (row:= #[.int .i64 x]) (T:=T) (fr:=(0,0)) (.inr rfl) ?_ (by simp) (by simp) (by simp[lim]) ?_⟩
   ·have:w.heap.size+1=(w.alloc o).heap.size:=by simp
    rw[this,(MapKept.heap_alloc _ _).1]
   ·intro i z hz
    cases i with
    |zero=>simp at hz;subst hz;exact⟨rfl,hx⟩
    |succ i=>simp at hz
 by_cases h5:k=5
 ·subst h5
  refine(succ_exit w s d.1 d.2.1 d.2.2.1 a.1 a.2.1 a.2.2.1 b.1 b.2.1 b.2.2.1 x y).mono ?_
  rintro e w' ⟨rfl,o,rfl⟩
  have hs:Sp.aR (5,s,d,a,b,[x,y],z)=[]:=rfl
  rw[hs];refine⟨_,F,none',rfl,(Below.refl _ _).alloc (Nat.le_refl _) _,fun _ h=>h,fun q h hn=>absurd h hn,?_,fun _ h=>h.elim,?_⟩
  ·rintro q (h|h)
   ·have:=hF q h;simp;omega
   ·exact h.elim
  ·exact⟨[.slice none 0 0],rfl,none,0,rfl,by simp,by simp,.inl rfl⟩
 ·by_cases h2:k=2
  ·subst h2
   by_cases hxy:x=y
   ·subst hxy
    refine(succ_same w s d.1 d.2.1 d.2.2.1 a.1 a.2.1 a.2.2.1 b.1 b.2.1 b.2.2.1 x).mono (hone (P:=fun _ _=>True) ?_)
    unfold Sp.aR;rw[if_neg (show ¬(2:Int)=5 by decide),if_neg (fun h=>h.2 rfl)];rfl
   ·refine(succ_two w s d.1 d.2.1 d.2.2.1 a.1 a.2.1 a.2.2.1 b.1 b.2.1 b.2.2.1 x y hxy).mono ?_
    rintro e w' ⟨rfl,T,u0,u1,u2,u3,u4,u5,u6,u7,u8,u9,u10,rfl⟩
    have hs:Sp.aR (2,s,d,a,b,[x,y],z)=[x,y]:=by
     unfold Sp.aR;rw[if_neg (show ¬(2:Int)=5 by decide),if_pos ⟨rfl,hxy⟩]
    rw[hs];refine⟨_,fun q=>F q∨q=w.heap.size,none',rfl,(Below.refl _ _).alloc (Nat.le_refl _) _,fun _ h=> .inl h,?_,?_,fun _ h=>h.elim,?_⟩
    ·rintro q (h|rfl) hn
     ·exact absurd h hn
     ·omega
    ·rintro q ((h|rfl)|h)
     ·have:=hF q h;simp;omega
     ·simp
     ·exact h.elim
    ·refine⟨_,rfl,own_ints (l:=[x,y]) (off:=11) (cap:=2) (row:= #[u0,u1,u2,u3,u4,u5,u6,u7,u8,u9,u10,.int .i64 x,.int .i64 y]) (T:=T) (fr:=(0,0)) (.inr rfl) ?_ (by simp) (by simp) (by simp[lim]) ?_⟩
     ·rw[(MapKept.heap_alloc _ _).1]
     ·intro i z hz
      rcases i with _|_|i
      ·simp at hz;subst hz;exact⟨rfl,hx⟩
      ·simp at hz;subst hz;exact⟨rfl,hy⟩
      ·simp at hz
  ·refine(succ_one w k s d.1 d.2.1 d.2.2.1 a.1 a.2.1 a.2.2.1 b.1 b.2.1 b.2.2.1 x y h5 h2).mono (hone (P:=fun _ _=>True) ?_)
   unfold Sp.aR;rw[if_neg h5,if_neg (fun h=>h2 h.1)];rfl
end Go.User
namespace Sp
noncomputable section
abbrev Nm:=Int->Option Int
def nm0:Nm:=fun _=>none
def upM(m:Nm)(k v:Int):Nm:=fun x=>if x=k then some v else m x
def rnO(m:Nm)(o:Opd):Opd:=match m o.2.1 with
 |some n=>if o.1=2 then bK n else o
 |none=>o
def iD(i:Inst):Int:=i.2.2.2.1.2.1
def rnI(m:Nm)(i:Inst)(n:Int):Inst:=(i.1,i.2.1,i.2.2.1,bK n,rnO m i.2.2.2.2.1,rnO m i.2.2.2.2.2.1,rnO m i.2.2.2.2.2.2.1,())
def cpL:List Inst->Int->Nm->List Inst
 | [],_,_=>[]
 |i::l,n,m=>rnI m i n::cpL l (n+1) (upM m (iD i) n)
def cpN:List Inst->Int->Nm->Nm
 | [],_,m=>m
 |i::l,n,m=>cpN l (n+1) (upM m (iD i) n)
def o4(w:Wk)(b:Int)(k:Nat):List Int:=[if 1<=k then d5 w b (to0 (trm w.1 b.toNat))else to0 (trm w.1 b.toNat),if 2<=k then d5 w b (to1 (trm w.1 b.toNat))else to1 (trm w.1 b.toNat)]
def oY(w:Wk)(b:Int)(k:Nat):List Int:=[if 1<=k then gX w b (to0 (trm w.1 b.toNat))else 0,if 2<=k then gX w b (to1 (trm w.1 b.toNat))else 0]
structure okW(w:Wk):Prop where
 t:okT w.1
 r:w.2.1.length=(cB w.1).length
 f:w.2.2.1.length=(cB w.1).length
structure okA(c:Code):Prop where
 t:okT c
 bl:∀b,b<(cB c).length->(ins c b).length<=3000
 rg:0<=c.2.2.1/\c.2.2.1<=3000
 dn:∀b,b<(cB c).length->∀i∈ins c b,0<=iD i/\iD i<c.2.2.1
def wk0(c:Code):Wk:=(c,eP c,frL c,())
def cY(c:Code)(b:Int):List Int×Int×Bool×Unit:=rF (wk0 c) b
def aI(c:Code)(b:Int)(k:Nat):List Inst:=if(cY c b).1.getD k 0<0 then []else ins c ((cY c b).1.getD k 0).toNat
def wRgs(c:Code)(n:Int):Code:=(c.1,c.2.1,n,c.2.2.2)
def rA(c:Code)(b:Int)(k:Nat):Int:=c.2.2.1+1+(if 1<=k then((aI c b 0).length:Int)else 0)+(if 2<=k then((aI c b 1).length:Int)else 0)
def iA(c:Code)(b:Int)(k:Nat):List Inst:=cpL (aI c b k) (rA c b k) nm0
def nA(c:Code)(b:Int)(k:Nat):Nm:=cpN (aI c b k) (rA c b k) nm0
def movQ(c:Code)(b:Int):Inst:=(1,0,0,bK c.2.2.1,(trm c b.toNat).2.2.2.1,bM,bM,())
def lA(c:Code)(b:Int)(k:Nat):List Inst:=ins c b.toNat++[movQ c b]++(if 1<=k then iA c b 0 else [])++(if 2<=k then iA c b 1 else [])
def jZ(c:Code)(b:Int)(k:Nat):List Nm:=[if 1<=k then nA c b 0 else nm0,if 2<=k then nA c b 1 else nm0]
def lK:Block:=([],(5,0,bM,bM,bM,[0,0],()),())
def iH(B:List Block)(a:Int):List Block:=if a<0 then B else B.set a.toNat lK
def bA(c:Code)(b:Int)(k:Nat):List Block:=match k with
 |0=>cB c
 |1=>iH (cB c) ((cY c b).1.getD 0 0)
 |_=>iH (iH (cB c) ((cY c b).1.getD 0 0)) ((cY c b).1.getD 1 0)
def wA(c:Code)(b:Int)(k:Nat):Wk:=(nG (wRgs c (rA c b k)) (bA c b k),eP c,frL c,())
def selI(q:Int)(n0 n1:Nm)(r:Nat):Inst:=(4,0,0,bK r,bK q,rnO n0 (bK r),rnO n1 (bK r),())
def kA(c:Code)(b:Int):List Inst:=((List.range c.2.2.1.toNat).filter (fun(r:Nat)=>((nA c b 0) (r:Int)).isSome||((nA c b 1) (r:Int)).isSome)).map (selI c.2.2.1 (nA c b 0) (nA c b 1))
def mA(n:Int):Term:=(1,0,bM,bM,bM,[n,0],())
def eX(c:Code)(b:Int):Code:=nG (wRgs c (rA c b 2)) ((bA c b 2).set b.toNat (lA c b 2++kA c b,mA (cY c b).2.1,()))
def atC(c:Code)(b:Int):Code×Bool×Unit:=
 if b<0∨((cB c).length:Int)<=b then(c,false,())
 else if(cY c b).2.2.1=false then(c,false,())
 else if 256<rA c b 2∨2000<gF (cB (eX c b))then(c,false,())
 else(eX c b,true,())
end
end Sp
namespace Go.User
open Go.Lf
noncomputable section
def S88:dF:={τ:=tWk,m:=mWk,args:=[.val tI,.val tI],multi:=false,res:= .bool,pre:=fun s y=>Sp.okW s/\0<=y.2.1/\y.2.1<(List.length (Sp.cB s.1):Int),fn:=fun s _=>s,out:=fun s y=>Sp.pN s y.1 y.2.1}
def C88(q:Nat):Ctx:=mkM 51 q [(35,S35),(98,S98)] []
def L88(q:Nat)(x:S88.τ.den)(y:aH S88.args):List aW:=[]
def S51:dF:={τ:=tWk,m:=mWk,args:=[.val tI],multi:=true,res:= .prod (.arr 2 tI) (.prod tI (.prod .bool .unit)),pre:=fun s y=>Sp.okW s/\0<=y.1/\y.1<(List.length (Sp.cB s.1):Int),fn:=fun s _=>s,out:=fun s y=>Sp.rF s y.1}
def C51(q:Nat):Ctx:={mkM 99 q [] [(88,S88)]with mds:=[(4,.shr),(8,.shr)]}
def L51(q:Nat)(x:S51.τ.den)(y:aH S51.args):List aW:=[
 {ι:=Nat,inv:=fun k=>k<=2/\(Sp.trm x.1 y.1.toNat).1=2,dec:=fun k=>2-k,ovr:=fun k=>[(0,.box tWk mWk x),(4,.box (.arr 2 tI) .shr (Sp.o4 x y.1 k)),(8,.box (.arr 2 tI) .shr (Sp.oY x y.1 k)),(47,.shr tI (k:Int))],keep:=[1,46]}]
def S60:bD:={args:=[.val bF],multi:=false,res:=tI,mode:= .shr,pre:=fun x=>List.length (Sp.cB x.1)<=10000/\∀b∈Sp.cB x.1,List.length b.1<=20000,fn:=fun x=>Sp.gF (Sp.cB x.1)}
def C60:Ctx:=mkC 20 []
def L60(x:aH S60.args):List aW:=[
 {ι:=Nat,inv:=fun k=>k<=List.length (Sp.cB x.1),dec:=fun k=>List.length (Sp.cB x.1)-k,ovr:=fun k=>[(3,.shr tI (Sp.gF ((Sp.cB x.1).take k))),(9,.shr tI (k:Int))],keep:=[1,7,8]}]
abbrev qT:Ty:= .abs .map
def S57:bD:={args:=[.val qT,.val aM],multi:=false,res:=aM,mode:= .shr,pre:=fun _=>True,fn:=fun x=>Sp.rnO x.1 x.2.1}
def S54:bD:={args:=[.val (.slice aC),.val tI],multi:=true,res:= .prod (.slice aC) (.prod qT .unit),mode:= .shr,pre:=fun x=>List.length x.1<=3000/\0<=x.2.1/\x.2.1<=100000,fn:=fun x=>(Sp.cpL x.1 x.2.1 Sp.nm0,Sp.cpN x.1 x.2.1 Sp.nm0,())}
def S29:bD:={args:=[.val bF,.val tI],multi:=true,res:= .prod bF (.prod .bool .unit),mode:= .shr,pre:=fun x=>Sp.okA x.1,fn:=fun x=>Sp.atC x.1 x.2.1}
def bsA:List (FuncId×jA):=[(50,S50)]
def C29:Ctx:={mkC 190 [(52,S52),(53,S53),(54,S54),(60,S60)]with ptrs:=[(51,S51)],mds:=[(4,.shr),(10,.shr),(12,.shr),(62,.own .shr),(11,.own .shr),(118,.shr),(119,.shr),(168,.shr),(169,.pair (.own .shr) (.pair .shr .shr))],frz:=[169]}
def M29:Mid (aH S29.args) where
 n:=10
 k:=6
 KA:=fun x=>[.i [],.i [],.i [],.i [],.i [],.i [],.i [],.i [],.i [],
  .s (.i []) (.b (.l
   {ι:=Nat,inv:=fun k=>k<=2,dec:=fun k=>2-k,ovr:=fun k=>[(30,.box tWk mWk (Sp.wA x.1 x.2.1 k)),(6,.addr 30 []),(11,.own (.slice aC) (.own .shr) (Sp.lA x.1 x.2.1 k)),(12,.box (.arr 2 qT) .shr (Sp.jZ x.1 x.2.1 k)),(75,.shr tI (k:Int))],keep:=[1,2,4,5,8,10,74]}
   (fun k=> .s (.i []) (.s (.i []) (.s (.b (.i [])) (.i []))))))]
 l1:=fun x=> {ι:=Unit,inv:=fun _=>(0<=x.2.1/\x.2.1<(List.length (Sp.cB x.1):Int)/\((Sp.cY x.1 x.2.1).2.2.1=true)),dec:=fun _=>0,keep:=[],ovr:=fun _=>[(1,.shr tI x.2.1),(2,.box bF .shr x.1),(4,.box bF .shr bF.dflt),(5,.shr .bool false),(6,.addr 30 []),(8,.shr tI (Sp.cY x.1 x.2.1).2.1),(10,.box aM .shr (Sp.bK x.1.2.2.1)),(11,.own (.slice aC) (.own .shr) (Sp.lA x.1 x.2.1 2)),(12,.box (.arr 2 qT) .shr (Sp.jZ x.1 x.2.1 2)),(30,.box tWk mWk (Sp.wA x.1 x.2.1 2))]}
 l2:=fun x _=> {ι:=Unit,inv:=fun _=>True,dec:=fun _=>0,keep:=[],ovr:=fun _=>[(1,.shr tI x.2.1),(2,.box bF .shr x.1),(4,.box bF .shr bF.dflt),(5,.shr .bool false),(6,.addr 30 []),(8,.shr tI (Sp.cY x.1 x.2.1).2.1),(11,.own (.slice aC) (.own .shr) (Sp.lA x.1 x.2.1 2)),(17,.own (.slice aC) (.own .shr) (Sp.kA x.1 x.2.1)),(30,.box tWk mWk (Sp.wA x.1 x.2.1 2))]}
 KR:=fun x _ _=>[.i [],.i [],.z 30 [],.i []]
end
end Go.User
namespace Go.User
open Go.Proofs Go.Lf
set_option maxRecDepth 100000
theorem vc88:(∀q:Nat,rU (C88 q) (dL bsA (C88 q)) S88 (L88 q) Try.f88)=(
let q0:=(2:Nat);
let q1:=True/\True/\True;
let q2:Int:=(0:Int);
let q3:Int:=(1:Int);
let q4:Sp.Opd:=(q2,q2,q2,());
∀(q:Nat) (x:Sp.Wk),
 let q5:List Sp.Block:=x.1.2.2.2.2.2.2.2.1;
 ∀(y:Int×Int×Unit),
 let q6:Bool:=y.2.1 !=y.1;
 let q7:=(true&&bif q6 then true else false)=true->True;
 let q8:Bool:=bif q6 then y.2.1 !=q2 else false;
 let q9:=(true&&bif q8 then true else false)=true;
 let q10:=q9->True;
 let q11:Bool:=bif q8 then x.2.2.1.getD y.2.1.toNat q2==q3 else false;
 let q12:=(true&&bif q11 then true else false)=true->True;
 let q13:Sp.Block:=q5.getD y.2.1.toNat (([]:List aC.den),(q2,q2,q4,q4,q4,List.replicate q0 q2,()),());
 let q14:List Sp.Inst:=q13.1;
 let q15:Bool:=bif q11 then decide ((↑q14.length:Int)<=(8:Int))else false;
 let q16:=(true&&bif q15 then true else false)=true->True;
 let q17:Bool:=bif q15 then q13.2.1.1==q3 else false;
 let q18:=(true&&bif q17 then true else false)=true;
 let q19:=q18->True;
 Sp.okW x/\(0:(AK.val tI).den)<=y.2.1/\y.2.1<(↑(Sp.cB x.1).length:Int)->aB ((tI.prod (tI.prod (tI.prod (tI.prod (tI.prod (cC.slice.prod (bC.slice.prod ((aC.slice.prod ((tI.prod (tI.prod (aM.prod (aM.prod (aM.prod ((Ty.arr q0 tI).prod Ty.unit)))))).prod Ty.unit)).slice.prod Ty.unit)))))))).prod (Ty.bool.slice.prod jB)) x->aB tI y.1/\aB tI y.2.1/\True->((True/\True)/\True)/\((True/\True/\True/\True/\True/\True/\inN y.2.1 q5.length/\q1)/\True/\True)/\((True/\True/\True/\True/\q7/\q7/\True/\True/\q10/\q10/\q10/\q10/\q10/\(q9->inN y.2.1 x.2.2.1.length)/\q10/\q10/\True/\True/\q12/\q12/\q12/\q12/\True/\True/\q16/\q16/\q16/\q16/\True/\True/\q19/\q19/\(q18->∀(e:Sp.Inst),True)/\q19/\q1)/\True)/\x=x/\(bif q17 then !q14.any fun(e:aC.den)=> !Sp.gA e else false)=Sp.pN x y.1 y.2.1/\false=false):=by kernel_rfl
theorem vc51:(∀q:Nat,rU (C51 q) (dL bsA (C51 q)) S51 (L51 q) Try.f51)=(
let q0:Int:=(0:(AK.val tI).den);
let q1:=(2:Nat);
let q2:=True/\True/\True;
let q3:=True/\q2;
let q4:=q3/\True;
let q5:Int:=(0:Int);
let q6:Sp.Opd:=(q5,q5,q5,());
let q7:List Int:=List.replicate q1 q5;
let q8:Sp.Block:=(([]:List aC.den),(q5,q5,q6,q6,q6,q7,()),());
let q9:Int:=(2:Int);
let q10:=inN q5 q1;
let q11:Int:=(1:Int);
let q12:=inN q11 q1;
let q13:=q5.toNat;
let q14:=q11.toNat;
let q15:=(True/\True)/\q3;
let q16:Int×Bool×Unit:=(q5,false,());
let q17:=(True/\True)/\True;
let q18:=(8:Nat);
let q19:List aD:=aD.idx q13::([]:List aD);
let q20:=q10/\q18=q18/\q19=q19;
∀(q:Nat) (x:Sp.Wk),
 let q21:Int:=(↑(Sp.cB x.1).length:Int);
 let q22:=aB ((tI.prod (tI.prod (tI.prod (tI.prod (tI.prod (cC.slice.prod (bC.slice.prod ((aC.slice.prod ((tI.prod (tI.prod (aM.prod (aM.prod (aM.prod ((Ty.arr q1 tI).prod Ty.unit)))))).prod Ty.unit)).slice.prod Ty.unit)))))))).prod (Ty.bool.slice.prod jB)) x;
 let q23:List Sp.Block:=x.1.2.2.2.2.2.2.2.1;
 let q24:=q23.length;
 let q25:=x=x;
 let q26:=x=x;
 ∀(y:Int×Unit),
 let q27:Bool:= !x.2.1.getD y.1.toNat false;
 let q28:=(true&&bif q27 then false else true)=true->True;
 let q29:Sp.Term:=(q23.getD y.1.toNat q8).2.1;
 let q30:Bool:=bif q27 then true else q29.1 !=q9;
 let q31:=(true&&bif q30 then false else true)=true;
 let q32:=q31->True;
 let q33:List Int:=q29.2.2.2.2.2.1;
 let q34:Bool:=bif q30 then true else q33.getD q13 q5==q33.getD q14 q5;
 let q35:=y.1=y.1;
 let q36:=q35/\q33=q33/\True;
 Sp.okW x/\q0<=y.1/\y.1<q21->
 q22->
 aB tI y.1/\True->
 q4/\
 ((True/\True/\True/\True/\True/\True/\inN y.1 q24/\q3)/\True/\True)/\
 ((True/\True/\True/\True/\True/\inN y.1 x.2.1.length/\True/\True/\True/\q28/\q28/\q28/\True/\True/\q32/\(q31->q10)/\q32/\q32/\(q31->q12)/\q32/\q32/\True/\True)/\True)/\
 (q34=true->q15/\q25/\(q7,q16)=Sp.rF x y.1)/\
 (q34=false->
 (q2/\True/\True)/\
 q17/\
 q4/\
 (∃(x_1:Nat),(x_1<=q1/\(Sp.trm x.1 y.1.toNat).1=q9)/\q26/\q33=Sp.o4 x y.1 x_1/\q7=Sp.oY x y.1 x_1/\q5=(↑x_1:Int)/\q36)/\
 ∀(x_1:Nat),
 let q37:List Int:=Sp.o4 x y.1 x_1;
 let q38:List Int:=Sp.oY x y.1 x_1;
 let q39:Bool:=decide ((↑x_1:Int)<q9);
 let q40:=inN (↑x_1:Int) q1;
 let q41:=(↑x_1:Int).toNat;
 let q42:Int:=q33.getD q41 q5;
 let q43:=True/\q40/\True;
 let q44:Bool:= !Sp.pN x y.1 q42;
 let q45:Int:=(↑x_1:Int)+q11;
 let q46:=(inK IntKind.i64 q45/\True/\True)/\True;
 let q47:List Int:=q38.set q41 (List.getD (q23.getD q42.toNat q8).2.1.2.2.2.2.2.1 q13 q5);
 let q48:Bool:=decide (q37.getD q13 q5<q5);
 let q49:=(true&&bif q48 then true else false)=true;
 let q50:=q49->True;
 let q51:Bool:=bif q48 then decide (q37.getD q14 q5<q5)else false;
 let q52:=q15/\q25/\(q37,q16)=Sp.rF x y.1;
 let q53:Int:=q38.getD q13 q5;
 let q54:Bool:=q53 !=q38.getD q14 q5;
 let q55:=True/\q53=q53;
 let q56:Bool:=q53 !=y.1;
 let q57:=q20/\q55/\(True/\q35)/\(True/\q56=q56)/\True;
 let q58:=q20/\q55/\q57;
 x_1<=q1/\(Sp.trm x.1 y.1.toNat).1=q9->q22/\aB (Ty.arr q1 tI) q37/\aB (Ty.arr q1 tI) q38/\aB tI (↑x_1:Int)/\True->q17/\(q39=true->((True/\q40/\q2)/\True)/\((True/\True/\True/\True/\True/\True/\True/\inN q42 q24/\True/\True/\q10/\q43)/\True/\True)/\(q3/\(Sp.okW x/\q0<=q42/\q42<q21)/\True/\True)/\(q44=true->((True/\True/\q43)/\True/\q40/\True/\True)/\q46/\∃(y_1:Nat),(y_1<=q1/\(Sp.trm x.1 y.1.toNat).1=q9)/\q1-y_1<q1-x_1/\q26/\q37.set q41 (-q11)=Sp.o4 x y.1 y_1/\q47.set q41 q42=Sp.oY x y.1 y_1/\q45=(↑y_1:Int)/\q36)/\(q44=false->q46/\∃(y_1:Nat),(y_1<=q1/\(Sp.trm x.1 y.1.toNat).1=q9)/\q1-y_1<q1-x_1/\q26/\q37=Sp.o4 x y.1 y_1/\q47=Sp.oY x y.1 y_1/\q45=(↑y_1:Int)/\q36))/\(q39=false->((q10/\True/\True/\True/\(q49->q12)/\q50/\q50/\q2)/\True)/\(q51=true->q52)/\(q51=false->((q10/\True/\q12/\q3)/\True)/\(q54=true->q52)/\(q54=false->(True/\q10/\True/\q10/\q3)/\((True/\q37=q37)/\q58)/\(True/\True/\q58/\(True/\True/\q57/\(True/\True/\True/\q25/\(q37,q53,q56,())=Sp.rF x y.1)/\True)/\True/\True)/\q2))))):=by kernel_rfl
theorem vc60:(eR C60 (dL bsA C60) S60 L60 Try.f60)=(
let q0:=(2:Nat);
let q1:=True/\True/\True;
let q2:=q1/\True;
let q3:=(True/\True)/\True;
let q4:Int:=(0:Int);
let q5:Sp.Opd:=(q4,q4,q4,());
let q6:Sp.Block:=(([]:List aC.den),(q4,q4,q5,q5,q5,List.replicate q0 q4,()),());
let q7:Int:=(1:Int);
∀(x:Sp.Code×Unit),
 let q8:=(Sp.cB x.1).length;
 let q9:List Sp.Block:=x.1.2.2.2.2.2.2.2.1;
 let q10:=q9.length;
 let q11:Int:=(↑q10:Int);
 let q12:=x.1=x.1/\q9=q9/\q11=q11/\True;
 (q8<=(10000:Nat)/\∀(b:Sp.Block),b∈Sp.cB x.1->b.1.length<=(20000:Nat))->
 aB (tI.prod (tI.prod (tI.prod (tI.prod (tI.prod (cC.slice.prod (bC.slice.prod ((aC.slice.prod ((tI.prod (tI.prod (aM.prod (aM.prod (aM.prod ((Ty.arr q0 tI).prod Ty.unit)))))).prod Ty.unit)).slice.prod Ty.unit)))))))) x.1/\True->
 q2/\
 q3/\
 ((True/\True/\q1)/\True)/\
 (∃(x_1:Nat),x_1<=q8/\q4=Sp.gF (List.take x_1 (Sp.cB x.1))/\q4=(↑x_1:Int)/\q12)/\
 ∀(x_1:Nat),
 let q13:Int:=Sp.gF (List.take x_1 (Sp.cB x.1));
 let q14:Bool:=decide ((↑x_1:Int)<q11);
 let q15:Int:=q13+(↑(List.length (q9.getD (↑x_1:Int).toNat q6).1):Int);
 let q16:Int:=(↑x_1:Int)+q7;
 x_1<=q8->aB tI q13/\aB tI (↑x_1:Int)/\True->q3/\(q14=true->((inN (↑x_1:Int) q10/\q1)/\True/\True)/\((True/\True/\True/\True/\inK IntKind.i64 q15/\True/\True)/\True)/\((inK IntKind.i64 q16/\True/\True)/\True)/\∃(y:Nat),y<=q8/\q8-y<q8-x_1/\q15=Sp.gF (List.take y (Sp.cB x.1))/\q16=(↑y:Int)/\q12)/\(q14=false->q2/\q13=Sp.gF (Sp.cB x.1))):=by kernel_rfl
theorem vc29:(funIM C29 (dL bsA C29) S29 M29 Try.f29)=(
let q0:=(2:Nat);
let q1:=True/\True/\True;
let q2:=True/\q1;
let q3:Int:=(0:Int);
let q4:=(True/\True)/\q1;
let q5:Bool×Unit:=(false,());
let q6:Int:=(0:(AK.val tI).den);
let q7:=True/\q2;
let q8:=True/\True/\True/\q7;
let q9:=True/\q8;
let q10:=q1/\True;
let q11:Int:=(1:Int);
let q12:Sp.Opd:=(q3,q3,q3,());
let q13:List Int:=List.replicate q0 q3;
let q14:Int×Sp.Opd×Sp.Opd×Sp.Opd×List Int×Unit:=(q3,q12,q12,q12,q13,());
let q15:Sp.Block:=(([]:List aC.den),(q3,q14),());
let q16:Sp.Opd×Sp.Opd×Unit:=(q12,q12,());
let q17:=(True/\True)/\True;
let q18:=([]:List aD)=([]:List aD);
let q19:Sp.Code:=(q3,q3,q3,q3,q3,([]:List cC.den),([]:List bC.den),([]:List eW.den),());
let q20:=q19=q19;
let q21:=false=false;
let q22:=aB (tI.prod (tI.prod (tI.prod (tI.prod (tI.prod (cC.slice.prod (bC.slice.prod ((aC.slice.prod ((tI.prod (tI.prod (aM.prod (aM.prod (aM.prod ((Ty.arr q0 tI).prod Ty.unit)))))).prod Ty.unit)).slice.prod Ty.unit)))))))) q19;
let q23:=(30:Nat);
let q24:=q23=q23;
let q25:=True/\q24/\q18;
let q26:List aD:=aD.fst::([]:List aD);
let q27:=True/\q24/\q26=q26;
let q28:List aD:=aD.fst::aD.snd::aD.snd::aD.snd::aD.snd::aD.snd::aD.snd::aD.snd::q26;
let q29:=True/\q24/\q28=q28;
let q30:=(11:Nat);
let q31:=True/\q30=q30/\q18;
let q32:=(17:Nat);
let q33:=True/\q32=q32/\q18;
let q34:=(0:Nat);
let q35:=(1:Nat);
∀(x:Sp.Code×Int×Unit),
 let q36:=aB (tI.prod (tI.prod (tI.prod (tI.prod (tI.prod (cC.slice.prod (bC.slice.prod ((aC.slice.prod ((tI.prod (tI.prod (aM.prod (aM.prod (aM.prod ((Ty.arr q0 tI).prod Ty.unit)))))).prod Ty.unit)).slice.prod Ty.unit)))))))) x.1;
 let q37:=aB tI x.2.1;
 let q38:Bool:=decide (x.2.1<q3);
 let q39:=(true&&bif q38 then false else true)=true->True;
 let q40:Int×List Sp.Arr×List Sp.Opd×List Sp.Block×Unit:=x.1.2.2.2.2;
 let q41:List Sp.Arr×List Sp.Opd×List Sp.Block×Unit:=q40.2;
 let q42:List Sp.Opd×List Sp.Block×Unit:=q41.2;
 let q43:List Sp.Block:=q42.2.1;
 let q44:=q43.length;
 let q45:Bool:=bif q38 then true else decide (x.2.1≥(↑q44:Int));
 let q46:Sp.Code×Bool×Unit:=Sp.atC x.1 x.2.1;
 let q47:=q4/\(x.1,q5)=q46;
 let q48:List Bool×List Int×Unit:=(Sp.eP x.1,Sp.frL x.1,());
 let q49:Sp.Wk:=(x.1,q48);
 let q50:=q6<=x.2.1;
 let q51:=x.2.1<(↑(Sp.cB x.1).length:Int);
 let q52:List Int×Int×Bool×Unit:=Sp.rF q49 x.2.1;
 let q53:Int×Bool×Unit:=q52.2;
 let q54:Bool:= !q53.2.1;
 let q55:Int:=x.1.2.2.1+q11;
 let q56:=inN x.2.1 q44;
 let q57:Sp.Block:=q43.getD x.2.1.toNat q15;
 let q58:List Sp.Inst:=q57.1;
 let q59:=q58.length;
 let q60:Sp.Opd:=Sp.bK x.1.2.2.1;
 let q61:List Sp.Inst:=(q11,q3,q3,q60,q57.2.1.2.2.2.1,q16)::([]:List aC.den);
 let q62:=x.2.1=x.2.1;
 let q63:=x.1=x.1;
 let q64:Int:=q53.1;
 let q65:List Int:=q52.1;
 let q66:=q62/\q63/\q20/\q21/\q64=q64/\q60=q60/\q65=q65/\True;
 let q67:Int:=x.1.2.2.2.1;
 let q68:Int:=q40.1;
 let q69:List Sp.Arr:=q41.1;
 let q70:List Sp.Opd:=q42.1;
 let q71:Int×Bool×Unit:=(Sp.cY x.1 x.2.1).2;
 let q72:=q50/\q51/\q71.2.1=true;
 let q73:Int:=q71.1;
 let q74:List Sp.Inst:=Sp.lA x.1 x.2.1 q0;
 let q75:List Sp.Nm:=Sp.jZ x.1 x.2.1 q0;
 let q76:Sp.Wk:=Sp.wA x.1 x.2.1 q0;
 let q77:=aB tI q73;
 let q78:=aB aC.slice q74;
 let q79:=aB ((tI.prod (tI.prod (tI.prod (tI.prod (tI.prod (cC.slice.prod (bC.slice.prod ((aC.slice.prod ((tI.prod (tI.prod (aM.prod (aM.prod (aM.prod ((Ty.arr q0 tI).prod Ty.unit)))))).prod Ty.unit)).slice.prod Ty.unit)))))))).prod (Ty.bool.slice.prod jB)) q76/\True;
 let q80:List Sp.Inst:=Sp.kA x.1 x.2.1;
 let q81:=True/\q62;
 let q82:=(True/\q73=q73)/\True;
 let q83:=(↑(q74.length+q80.length):Int)<=bJ;
 let q84:=q25/\q25/\q27/\q29/\q29/\q81/\True;
 let q85:List Sp.Block:=Sp.bA x.1 x.2.1 q0;
 let q86:=inN x.2.1 q85.length;
 let q87:List aD:=aD.fst::aD.snd::aD.snd::aD.snd::aD.snd::aD.snd::aD.snd::aD.snd::aD.fst::aD.idx x.2.1.toNat::([]:List aD);
 let q88:Int:=Sp.rA x.1 x.2.1 q0;
 let q89:Bool:=decide (q88>(256:Int));
 let q90:=(true&&bif q89 then false else true)=true;
 let q91:=q90->True;
 let q92:Sp.Code:=(x.1.1,x.1.2.1,q88,q67,q68,q69,q70,q85.set x.2.1.toNat (q74++q80,(q11,q3,q12,q12,q12,(q13.set q34 q73).set q35 q3,()),()),());
 let q93:List Sp.Block:=Sp.cB q92;
 let q94:Bool:=bif q89 then true else decide (Sp.gF q93>(2000:Int));
 let q95:=True/\q84/\(True/\(q86/\True)/\(q25/\q25/\q27/\q29/\q29/\q81/\(q86/\q24/\q87=q87)/\True)/\(True/\True/\True/\((True/\True/\True/\True/\True/\True/\True/\q91/\q91/\q91/\q91/\(q90->q93.length<=(10000:Nat)/\∀(b:Sp.Block),b∈q93->b.1.length<=(20000:Nat))/\q91/\True/\True)/\True)/\(q94=true->q47)/\(q94=false->(q7/\q1)/\(q92,true,())=q46))/\True)/\True/\True;
 let q96:=True/\q84/\(True/\q95)/\q1;
 let q97:=q25/\q25/\q27/\q29/\q29/\q81/\q31/\q33/\True;
 Sp.okA x.1->
 q36/\q37/\True->
 ((q2/\True)/\
 ((True/\True/\True/\q39/\q39/\q39/\q39/\q39/\True/\True)/\True)/\
 (q45=true->q47)/\
 (q45=false->
 ((True/\True)/\Sp.okT x.1/\True/\True)/\
 (q1/\(Sp.okW q49/\q50/\q51)/\q9)/\
 q10/\
 (q54=true->q47)/\
 (q54=false->
 (q8/\True/\True)/\
 ((True/\True/\True/\True/\True/\inK IntKind.i64 q55/\q2)/\True/\True)/\
 ((True/\True/\True/\q56/\True/\True/\q59<=(5000:Nat)/\True/\True/\True/\True/\q56/\True/\True/\True/\True/\True/\(↑(q59+q61.length):Int)<=bJ/\True)/\True/\True)/\
 q17/\
 q10/\
 (∃(x_1:Nat),x_1<=q0/\((x.1.1,x.1.2.1,q55,x.1.2.2.2),q48)=Sp.wA x.1 x.2.1 x_1/\q18/\q58++q61=Sp.lA x.1 x.2.1 x_1/\(List.replicate q0 fun(x:Int)=>Option.none)=Sp.jZ x.1 x.2.1 x_1/\q3=(↑x_1:Int)/\q66)/\
 ∀(x_1:Nat),
 let q98:Sp.Wk:=Sp.wA x.1 x.2.1 x_1;
 let q99:List Sp.Inst:=Sp.lA x.1 x.2.1 x_1;
 let q100:List Sp.Nm:=Sp.jZ x.1 x.2.1 x_1;
 let q101:Bool:=decide ((↑x_1:Int)<(2:Int));
 let q102:=inN (↑x_1:Int) q0;
 let q103:=(↑x_1:Int).toNat;
 let q104:Int:=q65.getD q103 q3;
 let q105:Bool:=decide (q104<q3);
 let q106:Int:=(↑x_1:Int)+q11;
 let q107:=(inK IntKind.i64 q106/\True/\True)/\True;
 let q108:=q104.toNat;
 let q109:List Sp.Inst:=(q43.getD q108 q15).1;
 let q110:Int:=Sp.rA x.1 x.2.1 x_1;
 let q111:List Sp.Inst:=Sp.cpL q109 q110 Sp.nm0;
 let q112:=q111.length;
 let q113:Int:=q110+(↑q112:Int);
 let q114:List Sp.Block:=Sp.bA x.1 x.2.1 x_1;
 x_1<=q0->aB ((tI.prod (tI.prod (tI.prod (tI.prod (tI.prod (cC.slice.prod (bC.slice.prod ((aC.slice.prod ((tI.prod (tI.prod (aM.prod (aM.prod (aM.prod ((Ty.arr q0 tI).prod Ty.unit)))))).prod Ty.unit)).slice.prod Ty.unit)))))))).prod (Ty.bool.slice.prod jB)) q98/\True/\aB aC.slice q99/\aB (Ty.arr q0 (Ty.abs Abs.map)) q100/\aB tI (↑x_1:Int)/\True->q17/\(q101=true->((True/\q102/\q1)/\True)/\q10/\(q105=true->q107/\∃(y:Nat),y<=q0/\q0-y<q0-x_1/\q98=Sp.wA x.1 x.2.1 y/\q18/\q99=Sp.lA x.1 x.2.1 y/\q100=Sp.jZ x.1 x.2.1 y/\q106=(↑y:Int)/\q66)/\(q105=false->q17/\((True/\True/\True/\True/\inN q104 q44/\True/\True/\True/\True/\True/\True/\True/\(q109.length<=(3000:Nat)/\q6<=q110/\q110<=(100000:(AK.val tI).den))/\True/\True/\True/\True/\q102/\True)/\True/\True)/\((True/\True/\True/\True/\True/\True/\True/\inK IntKind.i64 q113/\q2)/\True/\True)/\(q1/\(↑(q99.length+q112):Int)<=bJ/\True/\True)/\((True/\True/\True/\True/\True/\True/\True/\True/\inN q104 q114.length/\True)/\True/\True)/\q107/\∃(y:Nat),y<=q0/\q0-y<q0-x_1/\((x.1.1,x.1.2.1,q113,q67,q68,q69,q70,q114.set q108 (([]:List aC.den),((5:Int),q14),()),()),Sp.eP x.1,Sp.frL x.1,())=Sp.wA x.1 x.2.1 y/\q18/\q99++q111=Sp.lA x.1 x.2.1 y/\q100.set q103 (Sp.cpN q109 q110 Sp.nm0)=Sp.jZ x.1 x.2.1 y/\q106=(↑y:Int)/\q66))/\(q101=false->∃(i:Unit),q72/\q62/\q63/\q20/\q21/\q18/\q64=q73/\q60=q60/\q99=q74/\q100=q75/\q98=q76/\True))))/\
 ∀(i:Unit),q72->q37/\q36/\q22/\aB Ty.bool false/\True/\q77/\aB aM q60/\q78/\aB (Ty.arr q0 (Ty.abs Abs.map)) q75/\q79->∀(j:Unit),True->q37/\q36/\q22/\aB Ty.bool false/\True/\q77/\q78/\aB aC.slice q80/\q79->(True/\q9)/\(q25/\q25/\q27/\q29/\q29/\q81/\q31/\q33/\q82)/\(q83/\True/\(q25/\q25/\q27/\q29/\q29/\q81/\q82)/\(True/\q96)/\q2)/\(True/\True/\q97/\(q83/\q96)/\(True/\True/\q97/\(q83/\q95)/\q1)/\q1)/\q2):=by kernel_rfl
end Go.User
namespace Sp
theorem wE(l:List Block)(b:Block):gF (l++[b])=gF l+(b.1.length:Int):=by
 unfold gF
 rw[List.map_append,List.sum_append]
 simp
theorem totN_le{l:List Block}(h:∀b∈l,b.1.length<=20000):0<=gF l/\gF l<=20000*(l.length:Int):=by
 induction l with
 |nil=>exact⟨by decide,by decide⟩
 |cons a l ih=>
  have h1:=ih fun b hb=>h b (List.mem_cons_of_mem _ hb)
  have h2:=h a List.mem_cons_self
  have e:gF (a::l)=gF l+(a.1.length:Int):=by unfold gF;simp;omega
  rw[e,List.length_cons];omega
theorem btake{l:List Block}{j:Nat}(h:j<l.length):l.take (j+1)=l.take j++[l.getD j bE]:=by rw[List.take_succ_eq_append_getElem h,gat h]
theorem oD{l:List Int}(h:l.length=2):l=[l.getD 0 0,l.getD 1 0]:=by
 rcases l with _|⟨a,_|⟨b,_|⟨c,r⟩⟩⟩<;>simp at h
 rfl
end Sp
namespace Go.User
open Go.Lf Go.Proofs
theorem bs0{f:FuncId}{s:jA}(h:Lf.look bsA f=some s)(hb:BOk Try.prog 50 S50):BOk Try.prog f s:=by
 simp only[bsA,Lf.look]at h
 cases hq:Nat.beq 50 f
 ·rw[hq]at h;cases h
 ·rw[hq]at h
  have:=Nat.eq_of_beq_eq_true hq
  subst this;simp only[cond_true,Option.some.injEq]at h;subst h;exact hb
theorem stpA{C:Ctx}(hC:aG Try.prog C):dM Try.prog C (dL bsA C):=oF (bs:=bsA) hC (fun f s h=>bs0 h (bk50 ok87))
theorem pk88:POk Try.prog 88 S88:=by
 have hC:∀q,aG Try.prog (C88 q):=fun q=>okM' q (aE ok35 (aE ok98 aS)) dW rfl rfl rfl rfl rfl rfl
 refine POk.intro hC (fun q=>stpA (hC q)) Try.call88 Try.func88 (fun q=>rfl) (by kernel_rfl) L88 ?_
 rw[vc88]
 simp only[zz,zy]
 rintro⟨c,r,f,u⟩ ⟨b,a,u2⟩ ⟨hw,h0,h1⟩ _ _
 have hb0:(([],(0,0,(0,0,0,()),(0,0,0,()),(0,0,0,()),List.replicate 2 0,()),()):Sp.Block)=Sp.bE:=rfl
 have hcB:c.2.2.2.2.2.2.2.1=Sp.cB c:=rfl
 dsimp only at *
 simp only[hb0,hcB]
 refine⟨⟨h0,h1⟩,fun _=>⟨h0,by have:List.length f=_:=hw.f;rw[this];exact h1⟩,?_⟩
 unfold Sp.pN Sp.ins Sp.trm
 dsimp only
 generalize List.any ((Sp.cB c).getD a.toNat Sp.bE).1 (fun e=> !Sp.gA e)=v
 generalize f.getD a.toNat 0=z
 generalize ((Sp.cB c).getD a.toNat Sp.bE).1.length=n
 generalize ((Sp.cB c).getD a.toNat Sp.bE).2.1.1=k
 rw[Bool.eq_iff_iff]
 simp only[Bool.and_eq_true,bne_iff_ne,beq_iff_eq,decide_eq_true_eq,Bool.not_eq_true',ne_eq,and_assoc]
 exact⟨fun⟨g1,g2,g3,g4,g5,g6⟩=>⟨g1,g2,g3,by omega,g5,g6⟩,fun⟨g1,g2,g3,g4,g5,g6⟩=>⟨g1,g2,g3,by omega,g5,g6⟩⟩
theorem pk51:POk Try.prog 51 S51:=by
 have hC:∀q,aG Try.prog (C51 q):=fun q=>okM' q aS (cG pk88 dW) rfl rfl rfl rfl rfl rfl
 refine POk.intro hC (fun q=>stpA (hC q)) Try.call51 Try.func51 (fun q=>rfl) (by kernel_rfl) L51 ?_
 rw[vc51]
 simp only[zz,zy]
 rintro⟨c,r,f,u⟩ ⟨b,u2⟩ ⟨hw,h0,h1⟩ _ _
 have hb0:(([],(0,0,(0,0,0,()),(0,0,0,()),(0,0,0,()),List.replicate 2 0,()),()):Sp.Block)=Sp.bE:=rfl
 have hcB:c.2.2.2.2.2.2.2.1=Sp.cB c:=rfl
 have htr:∀b:Nat,((Sp.cB c).getD b Sp.bE).2.1=Sp.trm c b:=fun _=>rfl
 dsimp only at *
 simp only[hb0,hcB,htr,show Int.toNat 0=0 from rfl,show Int.toNat 1=1 from rfl]
 have e0:∀t:Sp.Term,List.getD t.2.2.2.2.2.1 0 0=Sp.to0 t:=fun _=>rfl
 have e1:∀t:Sp.Term,List.getD t.2.2.2.2.2.1 1 0=Sp.to1 t:=fun _=>rfl
 simp only[e0,e1]
 have hbl:b.toNat<(Sp.cB c).length:=by omega
 have hrl:List.length r=(Sp.cB c).length:=hw.r
 have h2:=hw.t.two b.toNat hbl
 have hto:=hw.t.to b.toNat hbl
 have hl:=Sp.oD h2
 have hi2:∀k:Nat,k<2->inN (k:Int) 2:=fun k hk=>⟨by omega,by omega⟩
 have i0:inN 0 2:=⟨by omega,by omega⟩
 have i1:inN 1 2:=⟨by omega,by omega⟩
 refine⟨⟨h0,h1⟩,⟨⟨h0,by rw[hrl];exact h1⟩,fun _=>i0,fun _=>i1⟩,fun hbad=> ?_,fun hgood=>⟨⟨0,⟨by omega,hgood.1.2⟩,hl,rfl,rfl⟩,?_⟩⟩
 ·unfold Sp.rF
  dsimp only
  rw[if_pos]
  ·rfl
  ·simp only[Bool.or_eq_true,Bool.not_eq_true',bne_iff_ne,beq_iff_eq]at hbad
   rcases hbad with(hbad|hbad)|hbad
   ·exact .inl hbad
   ·exact .inr (.inl hbad)
   ·exact .inr (.inr hbad)
 obtain⟨⟨hr,hk2⟩,hne⟩:=hgood
 have hs:Sp.aR (Sp.trm c b.toNat)=[Sp.to0 (Sp.trm c b.toNat),Sp.to1 (Sp.trm c b.toNat)]:=by
  unfold Sp.aR;rw[if_neg (by rw[hk2];decide),if_pos ⟨hk2,hne⟩];exact hl
 rw[hs]at hto
 have hp:=hto (Sp.to0 (Sp.trm c b.toNat)) (by simp)
 have hq:=hto (Sp.to1 (Sp.trm c b.toNat)) (by simp)
 have g0:List.getD (Sp.trm c b.toNat).2.2.2.2.2.1 0 0=Sp.to0 (Sp.trm c b.toNat):=rfl
 have g1:List.getD (Sp.trm c b.toNat).2.2.2.2.2.1 1 0=Sp.to1 (Sp.trm c b.toNat):=rfl
 have hpl:Sp.rF (c,r,f,u) b=if Sp.d5 (c,r,f,u) b (Sp.to0 (Sp.trm c b.toNat))<0/\Sp.d5 (c,r,f,u) b (Sp.to1 (Sp.trm c b.toNat))<0 then([Sp.d5 (c,r,f,u) b (Sp.to0 (Sp.trm c b.toNat)),Sp.d5 (c,r,f,u) b (Sp.to1 (Sp.trm c b.toNat))],0,false,())
   else if Sp.gX (c,r,f,u) b (Sp.to0 (Sp.trm c b.toNat))≠Sp.gX (c,r,f,u) b (Sp.to1 (Sp.trm c b.toNat))then([Sp.d5 (c,r,f,u) b (Sp.to0 (Sp.trm c b.toNat)),Sp.d5 (c,r,f,u) b (Sp.to1 (Sp.trm c b.toNat))],0,false,())
   else([Sp.d5 (c,r,f,u) b (Sp.to0 (Sp.trm c b.toNat)),Sp.d5 (c,r,f,u) b (Sp.to1 (Sp.trm c b.toNat))],Sp.gX (c,r,f,u) b (Sp.to0 (Sp.trm c b.toNat)),decide (Sp.gX (c,r,f,u) b (Sp.to0 (Sp.trm c b.toNat))≠b),()):=by
  unfold Sp.rF
  dsimp only
  rw[if_neg];rintro (h|h|h)
  ·rw[hr]at h;cases h
  ·exact h hk2
  ·exact hne h
 have ha0:Sp.o4 (c,r,f,u) b 0=[Sp.to0 (Sp.trm c b.toNat),Sp.to1 (Sp.trm c b.toNat)]:=rfl
 have ha1:Sp.o4 (c,r,f,u) b 1=[Sp.d5 (c,r,f,u) b (Sp.to0 (Sp.trm c b.toNat)),Sp.to1 (Sp.trm c b.toNat)]:=rfl
 have ha2:Sp.o4 (c,r,f,u) b 2=[Sp.d5 (c,r,f,u) b (Sp.to0 (Sp.trm c b.toNat)),Sp.d5 (c,r,f,u) b (Sp.to1 (Sp.trm c b.toNat))]:=rfl
 have hj0:Sp.oY (c,r,f,u) b 0=[0,0]:=rfl
 have hj1:Sp.oY (c,r,f,u) b 1=[Sp.gX (c,r,f,u) b (Sp.to0 (Sp.trm c b.toNat)),0]:=rfl
 have hj2:Sp.oY (c,r,f,u) b 2=[Sp.gX (c,r,f,u) b (Sp.to0 (Sp.trm c b.toNat)),Sp.gX (c,r,f,u) b (Sp.to1 (Sp.trm c b.toNat))]:=rfl
 have haN:∀a,Sp.pN (c,r,f,u) b a=false->Sp.d5 (c,r,f,u) b a= -1/\Sp.gX (c,r,f,u) b a=a:=fun a h=>by
  unfold Sp.d5 Sp.gX;rw[h];exact⟨rfl,rfl⟩
 have haY:∀a,Sp.pN (c,r,f,u) b a=true->Sp.d5 (c,r,f,u) b a=a/\Sp.gX (c,r,f,u) b a=Sp.to0 (Sp.trm c a.toNat):=fun a h=>by
  unfold Sp.d5 Sp.gX;rw[h];exact⟨rfl,rfl⟩
 rintro k ⟨hk,_⟩ _
 refine⟨fun hlt=> ?_,fun hge=> ?_⟩
 ·have hcase:k=0∨k=1:=by omega
  rcases hcase with rfl|rfl
  ·simp only[g0,ha0,hj0]
   refine⟨i0,⟨⟨hp.1,hp.2⟩,i0,i0⟩,⟨hw,hp.1,hp.2⟩,fun h=>⟨i0,aQ (by omega) (by omega),1,⟨by omega,hk2⟩,by omega,?_,?_,by simp⟩,fun h=>⟨aQ (by omega) (by omega),1,⟨by omega,hk2⟩,by omega,?_,?_,by simp⟩⟩
   ·rw[ha1,(haN _ h).1];rfl
   ·rw[hj1,(haN _ h).2];rfl
   ·rw[ha1,(haY _ h).1]
   ·rw[hj1,(haY _ h).2];rfl
  ·simp only[g1,ha1,hj1]
   refine⟨i1,⟨⟨hq.1,hq.2⟩,i0,i1⟩,⟨hw,hq.1,hq.2⟩,fun h=>⟨i1,aQ (by omega) (by omega),2,⟨by omega,hk2⟩,by omega,?_,?_,by simp⟩,fun h=>⟨aQ (by omega) (by omega),2,⟨by omega,hk2⟩,by omega,?_,?_,by simp⟩⟩
   ·rw[ha2,(haN _ h).1];rfl
   ·rw[hj2,(haN _ h).2];rfl
   ·rw[ha2,(haY _ h).1]
   ·rw[hj2,(haY _ h).2];rfl
 ·have:k=2:=by omega
  subst this;have q0:List.getD (Sp.o4 (c,r,f,u) b 2) 0 0=Sp.d5 (c,r,f,u) b (Sp.to0 (Sp.trm c b.toNat)):=rfl;have q1:List.getD (Sp.o4 (c,r,f,u) b 2) 1 0=Sp.d5 (c,r,f,u) b (Sp.to1 (Sp.trm c b.toNat)):=rfl;have q2:List.getD (Sp.oY (c,r,f,u) b 2) 0 0=Sp.gX (c,r,f,u) b (Sp.to0 (Sp.trm c b.toNat)):=rfl;have q3:List.getD (Sp.oY (c,r,f,u) b 2) 1 0=Sp.gX (c,r,f,u) b (Sp.to1 (Sp.trm c b.toNat)):=rfl;simp only[q0,q1,q2,q3];rw[hpl,ha2];refine⟨⟨i0,fun _=>i1⟩,fun h=>by rw[if_pos h],fun h=>⟨⟨i0,i1⟩,fun h2=> ?_,fun h2=>⟨i0,i0,i0,i0,?_⟩⟩⟩
  ·rw[if_neg (fun h3=>by rw[decide_eq_true h3.1,decide_eq_true h3.2]at h;cases h),if_pos h2]
  ·rw[if_neg (fun h3=>by rw[decide_eq_true h3.1,decide_eq_true h3.2]at h;cases h),if_neg (fun h3=>h3 h2)]
   congr 3
   rw[Bool.eq_iff_iff]
   simp
theorem ok60:FOk Try.prog 60 S60:=by
 have hC:aG Try.prog C60:=okA aS
 refine FOk.intro hC (stpA hC) Try.call60 Try.func60 (by kernel_rfl) (by kernel_rfl) L60 ?_
 rw[vc60]
 simp only[zz,zy]
 rintro⟨c,u⟩ ⟨h1,h2⟩ _
 have hb0:(([],(0,0,(0,0,0,()),(0,0,0,()),(0,0,0,()),List.replicate 2 0,()),()):Sp.Block)=Sp.bE:=rfl
 have hcB:c.2.2.2.2.2.2.2.1=Sp.cB c:=rfl
 dsimp only at *
 simp only[hb0,hcB]
 have h1:(Sp.cB c).length<=10000:=h1
 have h2:∀b∈Sp.cB c,b.1.length<=20000:=h2
 refine⟨⟨0,Nat.zero_le _,rfl,rfl⟩,?_⟩
 intro k hk _
 refine⟨fun hlt=> ?_,fun hge=>by rw[List.take_of_length_le (by omega)]⟩
 have hkl:k<(Sp.cB c).length:=by omega
 have ht:=Sp.totN_le (l:=(Sp.cB c).take k) fun b hb=>h2 b (List.mem_of_mem_take hb)
 have hm:(Sp.cB c).getD k Sp.bE∈Sp.cB c:=by rw[Sp.gat hkl];exact List.getElem_mem _
 have h3:=h2 _ hm
 rw[List.length_take]at ht
 refine⟨⟨by omega,by omega⟩,aQ (by omega) (by omega),aQ (by omega) (by omega),k+1,by omega,by omega,?_,by simp⟩
 rw[Sp.btake hkl,Sp.wE]
end Go.User
namespace Sp
theorem eB:∀(l:List Inst) (n:Int) (m:Nm),(cpL l n m).length=l.length
 | [],_,_=>rfl
 |i::l,n,m=>by simp[cpL,eB l]
theorem okW0{c:Code}(h:okT c):okW (wk0 c):=⟨h,jV c,kL c _⟩
structure xF(c:Code)(b:Int):Prop where
 r:gI c b.toNat=true
 k:(trm c b.toNat).1=2
 ne:to0 (trm c b.toNat)≠to1 (trm c b.toNat)
 arms:(cY c b).1=[d5 (wk0 c) b (to0 (trm c b.toNat)),d5 (wk0 c) b (to1 (trm c b.toNat))]
 some:¬(d5 (wk0 c) b (to0 (trm c b.toNat))<0/\d5 (wk0 c) b (to1 (trm c b.toNat))<0)
 eq:gX (wk0 c) b (to0 (trm c b.toNat))=gX (wk0 c) b (to1 (trm c b.toNat))
 to:(cY c b).2.1=gX (wk0 c) b (to0 (trm c b.toNat))
 out:gX (wk0 c) b (to0 (trm c b.toNat))≠b
theorem nL{c:Code}{b:Int}(hb:0<=b/\b<((cB c).length:Int))(h:(cY c b).2.2.1=true):xF c b:=by
 unfold cY rF at h
 dsimp only at h
 have e1:(wk0 c).2.1.getD b.toNat false=gI c b.toNat:=kF c (by omega)
 split at h
 ·cases h
 rename_i g1
 split at h
 ·cases h
 rename_i g2
 split at h
 ·cases h
 rename_i g3
 have q1:gI c b.toNat=true:=by
  cases hq:gI c b.toNat
  ·exact absurd (.inl (e1.trans hq)) g1
  ·rfl
 have q2:(trm c b.toNat).1=2:=Classical.byContradiction fun q=>g1 (.inr (.inl q))
 have q3:to0 (trm c b.toNat)≠to1 (trm c b.toNat):=fun q=>g1 (.inr (.inr q))
 have q4:=Classical.not_not.1 g3
 have hw:cY c b=([d5 (wk0 c) b (to0 (trm c b.toNat)),d5 (wk0 c) b (to1 (trm c b.toNat))],gX (wk0 c) b (to0 (trm c b.toNat)),decide (gX (wk0 c) b (to0 (trm c b.toNat))≠b),()):=by
  unfold cY rF
  dsimp only
  rw[if_neg g1,if_neg g2,if_neg g3];rfl
 refine⟨q1,q2,q3,by rw[hw],g2,q4,by rw[hw],?_⟩
 exact of_decide_eq_true h
theorem oP{c:Code}(h:okT c){b:Int}(hb:0<=b/\b<((cB c).length:Int))(p:xF c b){k:Nat}(hk:k<2):
  (cY c b).1.getD k 0= -1∨(0<=(cY c b).1.getD k 0/\(cY c b).1.getD k 0<((cB c).length:Int)/\pN (wk0 c) b ((cY c b).1.getD k 0)=true):=by
 have hs:aR (trm c b.toNat)=[to0 (trm c b.toNat),to1 (trm c b.toNat)]:=by
  unfold aR;rw[if_neg (by rw[p.k];decide),if_pos ⟨p.k,p.ne⟩];exact oD (h.two _ (by omega))
 have hto:=h.to b.toNat (by omega)
 rw[hs]at hto
 rw[p.arms]
 have key:∀a,a∈[to0 (trm c b.toNat),to1 (trm c b.toNat)]->d5 (wk0 c) b a= -1∨(0<=d5 (wk0 c) b a/\d5 (wk0 c) b a<((cB c).length:Int)/\pN (wk0 c) b (d5 (wk0 c) b a)=true):=by
  intro a ha;unfold d5;cases q:pN (wk0 c) b a
  ·left;rfl
  ·right;have:=hto a ha;exact⟨this.1,this.2,q⟩
 rcases (show k=0∨k=1 by omega)with rfl|rfl
 ·exact key _ (by simp)
 ·exact key _ (by simp)
theorem xE{c:Code}{b:Int}{k:Nat}(h:0<=(cY c b).1.getD k 0):aI c b k=ins c ((cY c b).1.getD k 0).toNat:=by unfold aI;rw[if_neg (by omega)]
theorem kU{c:Code}{b:Int}{k:Nat}(h:(cY c b).1.getD k 0<0):aI c b k=[]:=by unfold aI;rw[if_pos h]
theorem rA0(c:Code)(b:Int):rA c b 0=c.2.2.1+1:=by unfold rA;simp
theorem rA1(c:Code)(b:Int):rA c b 1=rA c b 0+((aI c b 0).length:Int):=by unfold rA;simp
theorem rA2(c:Code)(b:Int):rA c b 2=rA c b 1+((aI c b 1).length:Int):=by unfold rA;simp
theorem lA0(c:Code)(b:Int):lA c b 0=ins c b.toNat++[movQ c b]:=by unfold lA;simp
theorem lA1(c:Code)(b:Int):lA c b 1=lA c b 0++iA c b 0:=by unfold lA;simp
theorem lA2(c:Code)(b:Int):lA c b 2=lA c b 1++iA c b 1:=by unfold lA;simp
theorem sC{c:Code}(h:okA c){b:Int}(hb:0<=b/\b<((cB c).length:Int))(p:xF c b){k:Nat}(hk:k<2):(aI c b k).length<=3000:=by
 rcases oP h.t hb p hk with e|e
 ·rw[kU (by omega)];simp
 ·rw[xE e.1];exact h.bl _ (by omega)
theorem killB_len(B:List Block)(a:Int):(iH B a).length=B.length:=by unfold iH;split<;>simp
theorem pM(c:Code)(b:Int)(k:Nat):(bA c b k).length=(cB c).length:=by
 unfold bA
 split<;>simp[killB_len]
theorem rR{B:List Block}{a:Int}(h:a<0):iH B a=B:=by unfold iH;rw[if_pos h]
theorem rQ{B:List Block}{a:Int}(h:0<=a):iH B a=B.set a.toNat lK:=by unfold iH;rw[if_neg (by omega)]
theorem rS{B:List Block}{a:Int}{n:Nat}(h:∀x∈B,x.1.length<=n):∀x∈iH B a,x.1.length<=n:=by
 intro x hx
 unfold iH at hx
 split at hx
 ·exact h x hx
 ·rcases List.mem_or_eq_of_mem_set hx with hx|hx
  ·exact h x hx
  ·subst hx;exact Nat.zero_le _
theorem mem_cB{c:Code}{x:Block}(h:x∈cB c):∃b,b<(cB c).length/\x.1=ins c b:=by
 obtain⟨b,hb,rfl⟩:=List.getElem_of_mem h
 exact⟨b,hb,by unfold ins;rw[gat hb]⟩
theorem bA_mem{c:Code}(h:okA c)(b:Int)(k:Nat):∀x∈bA c b k,x.1.length<=3000:=by
 have h0:∀x∈cB c,x.1.length<=3000:=fun x hx=>by
  obtain⟨i,hi,e⟩:=mem_cB hx;rw[e];exact h.bl i hi
 unfold bA
 split
 ·exact h0
 ·exact rS h0
 ·exact rS (rS h0)
theorem selL_len(c:Code)(b:Int):(kA c b).length<=c.2.2.1.toNat:=by
 unfold kA
 rw[List.length_map]
 exact Nat.le_trans (List.length_filter_le _ _) (by simp)
end Sp
namespace Go.User
open Go.Lf Go.Proofs
noncomputable def pK:Code:=Try.f29.body.getD .skip
noncomputable def fE:List Code:=((d6 pK).drop 10).take 6
theorem ok29(h54:FOk Try.prog 54 S54)(hM:∀x,S29.pre x->HandOK Try.prog C29 fE (M29.l1 x) (M29.l2 x)):FOk Try.prog 29 S29:=by
 have hC:aG Try.prog C29:=okM' 0 (aE ok52 (aE ok53 (aE h54 (aE ok60 aS)))) (cG pk51 dW) rfl rfl rfl rfl rfl rfl
 refine FOk.introM (c:=pK) hC (stpA hC) Try.call29 Try.func29 (by kernel_rfl) rfl (by kernel_rfl) M29 hM ?_
 rw[vc29]
 simp only[zz,zy]
 rintro⟨c,b,u⟩ h _
 have h:Sp.okA c:=h
 have hb0:(([],(0,0,(0,0,0,()),(0,0,0,()),(0,0,0,()),List.replicate 2 0,()),()):Sp.Block)=Sp.bE:=rfl
 have hcB:c.2.2.2.2.2.2.2.1=Sp.cB c:=rfl
 have hwk:(c,Sp.eP c,Sp.frL c,())=Sp.wk0 c:=rfl
 have hpl:Sp.rF (Sp.wk0 c) b=Sp.cY c b:=rfl
 have hin:∀b:Nat,((Sp.cB c).getD b Sp.bE).1=Sp.ins c b:=fun _=>rfl
 have htr:∀b:Nat,((Sp.cB c).getD b Sp.bE).2.1=Sp.trm c b:=fun _=>rfl
 dsimp only
 simp only[hb0,hcB,hwk,hpl,hin,htr]
 have hrg:=h.rg
 have hbd:=h.t.bd
 have hat0:(b<0∨((Sp.cB c).length:Int)<=b)->(c,false,())=Sp.atC c b:=fun q=>by unfold Sp.atC;rw[if_pos q]
 refine⟨⟨fun hbad=> ?_,fun hb=> ?_⟩,?_⟩
 ·refine hat0 ?_
  rw[Bool.or_eq_true,decide_eq_true_eq,decide_eq_true_eq]at hbad;exact hbad
 ·have hbl:b.toNat<(Sp.cB c).length:=by omega
  have hlen:=h.bl _ hbl
  refine⟨h.t,⟨Sp.okW0 h.t,hb.1,hb.2⟩,fun hf=> ?_,fun ht=> ?_⟩
  ·unfold Sp.atC;rw[if_neg (by omega),if_pos hf]
  have p:=Sp.nL hb ht
  have ha0:=Sp.sC h hb p (k:=0) (by omega)
  have ha1:=Sp.sC h hb p (k:=1) (by omega)
  have hr0:=Sp.rA0 c b
  have hr1:=Sp.rA1 c b
  have hr2:=Sp.rA2 c b
  have i0:inN 0 2:=⟨by omega,by omega⟩
  have i1:inN 1 2:=⟨by omega,by omega⟩
  refine⟨aQ (by omega) (by omega),⟨⟨hb.1,hb.2⟩,by omega,⟨hb.1,hb.2⟩,gW (by omega)⟩,⟨0,by omega,?_,?_,?_,rfl⟩,?_⟩
  ·unfold Sp.wA;rw[hr0];rfl
  ·rw[Sp.lA0];rfl
  ·rfl
  intro k hk _;refine⟨fun hlt=> ?_,fun hge=> ?_⟩
  ·rcases (show k=0∨k=1 by omega)with rfl|rfl
   ·have hg:=Sp.oP h.t hb p (k:=0) (by omega)
    refine⟨i0,fun hneg=>⟨aQ (by omega) (by omega),1,by omega,by omega,?_,?_,?_,by simp⟩,fun hpos=> ?_⟩
    ·unfold Sp.wA;rw[hr1,Sp.kU hneg]
     simp only[Sp.bA,Sp.rR hneg,List.length_nil,Int.natCast_zero,Int.add_zero]
    ·rw[Sp.lA1];unfold Sp.iA;rw[Sp.kU hneg];simp[Sp.cpL]
    ·unfold Sp.jZ Sp.nA;rw[Sp.kU hneg];simp[Sp.cpN]
    ·have hg2:=hg.resolve_left (by omega)
     have he:=Sp.xE (c:=c) (b:=b) (k:=0) hpos
     have hl3:=h.bl ((Sp.cY c b).1.getD 0 0).toNat (by omega)
     rw[<-he];have hlA:(Sp.lA c b 0).length=(Sp.ins c b.toNat).length+1:=by rw[Sp.lA0];simp
     refine⟨⟨⟨hg2.1,hg2.2.1⟩,⟨ha0,by omega,by omega⟩,i0⟩,by rw[Sp.eB];exact aQ (by omega) (by omega),by rw[Sp.eB,hlA];exact gW (by omega),⟨hg2.1,by rw[Sp.pM];exact hg2.2.1⟩,aQ (by omega) (by omega),1,by omega,by omega,?_,?_,?_,by simp⟩
     ·rw[Sp.eB]
      unfold Sp.wA;rw[hr1];simp only[Sp.bA,Sp.rQ hpos]
      rfl
     ·rw[Sp.lA1];rfl
     ·rfl
   ·have hg:=Sp.oP h.t hb p (k:=1) (by omega)
    refine⟨i1,fun hneg=>⟨aQ (by omega) (by omega),2,by omega,by omega,?_,?_,?_,by simp⟩,fun hpos=> ?_⟩
    ·unfold Sp.wA;rw[hr2,Sp.kU hneg]
     simp only[Sp.bA,Sp.rR hneg,List.length_nil,Int.natCast_zero,Int.add_zero]
    ·rw[Sp.lA2];unfold Sp.iA;rw[Sp.kU hneg];simp[Sp.cpL]
    ·unfold Sp.jZ Sp.nA;rw[Sp.kU hneg];simp[Sp.cpN]
    ·have hg2:=hg.resolve_left (by omega)
     have he:=Sp.xE (c:=c) (b:=b) (k:=1) hpos
     have hl3:=h.bl ((Sp.cY c b).1.getD 1 0).toNat (by omega)
     rw[<-he];have hlA:(Sp.lA c b 1).length=(Sp.ins c b.toNat).length+1+(Sp.aI c b 0).length:=by rw[Sp.lA1,Sp.lA0];unfold Sp.iA;simp[Sp.eB];omega
     refine⟨⟨⟨hg2.1,hg2.2.1⟩,⟨ha1,by omega,by omega⟩,i1⟩,by rw[Sp.eB];exact aQ (by omega) (by omega),by rw[Sp.eB,hlA];exact gW (by omega),⟨hg2.1,by rw[Sp.pM];exact hg2.2.1⟩,aQ (by omega) (by omega),2,by omega,by omega,?_,?_,?_,by simp⟩
     ·rw[Sp.eB]
      unfold Sp.wA;rw[hr2];simp only[Sp.bA,Sp.rQ hpos]
      rfl
     ·rw[Sp.lA2];rfl
     ·rfl
  ·have:k=2:=by omega
   subst this;exact⟨(),⟨hb.1,hb.2,ht⟩,trivial,rfl,rfl,rfl⟩
 ·rintro⟨hb1,hb2,ht⟩ _ _
  have hb:0<=b/\b<((Sp.cB c).length:Int):=⟨hb1,hb2⟩
  have hlen:=h.bl b.toNat (by omega)
  have p:=Sp.nL hb ht
  have ha0:=Sp.sC h hb p (k:=0) (by omega)
  have ha1:=Sp.sC h hb p (k:=1) (by omega)
  have hsl:=Sp.selL_len c b
  have hlA:(Sp.lA c b 2).length=(Sp.ins c b.toNat).length+1+(Sp.aI c b 0).length+(Sp.aI c b 1).length:=by rw[Sp.lA2,Sp.lA1,Sp.lA0];unfold Sp.iA;simp[Sp.eB];omega
  have hblen:=Sp.pM c b 2
  have hN:((c.1,c.2.1,Sp.rA c b 2,c.2.2.2.1,c.2.2.2.2.1,c.2.2.2.2.2.1,c.2.2.2.2.2.2.1,(Sp.bA c b 2).set b.toNat (Sp.lA c b 2++Sp.kA c b,(1,0,(0,0,0,()),(0,0,0,()),(0,0,0,()),((List.replicate 2 0).set 0 (Sp.cY c b).2.1).set 1 0,()),()),()):Sp.Code)=Sp.eX c b:=rfl
  simp only[hN];have hnB:Sp.cB (Sp.eX c b)=(Sp.bA c b 2).set b.toNat (Sp.lA c b 2++Sp.kA c b,Sp.mA (Sp.cY c b).2.1,()):=rfl;have hat:∀q:¬(256<Sp.rA c b 2∨2000<Sp.gF (Sp.cB (Sp.eX c b))),(Sp.eX c b,true,())=Sp.atC c b:=fun q=>by
   unfold Sp.atC;rw[if_neg (by omega),if_neg (by rw[ht];simp),if_neg q]
  refine⟨gW (by omega),⟨hb.1,by rw[hblen];exact hb.2⟩,⟨hb.1,by rw[hblen];exact hb.2⟩,fun _=>⟨by rw[hnB,List.length_set,hblen];omega,fun x hx=> ?_⟩,fun hbad=> ?_,fun hgood=>hat (by omega)⟩
  ·rw[hnB]at hx
   rcases List.mem_or_eq_of_mem_set hx with hx|hx
   ·have:=Sp.bA_mem h b 2 x hx;omega
   ·subst hx
    show(Sp.lA c b 2++Sp.kA c b).length<=20000
    rw[List.length_append];omega
  ·unfold Sp.atC
   rw[Bool.or_eq_true,decide_eq_true_eq,decide_eq_true_eq]at hbad;rw[if_neg (by omega),if_neg (by rw[ht];simp),if_pos hbad]
end Go.User
namespace Go.User
open Go Go.Proofs Go.RowKit Go.Lib Go.Lf
set_option maxHeartbeats 1000000 in
set_option maxRecDepth 100000 in
theorem reg52(w:World)(n:Int):Calls Try.prog 52 #[.int .i64 n] w fun e w'=>e= .returned (.agg #[.int .i64 2,.int .i64 n,.int .i32 0])/\∃row T,w'=w.alloc (.cells row T):=by
 go_enter Try.func52,Try.ntmps52
 go_wp2
 go_returns
 exact⟨rfl,_,_,rfl⟩
set_option maxHeartbeats 1000000 in
set_option maxRecDepth 100000 in
theorem ren_yes(w:World)(v:Value)(n z r:Int)(hl:∀o1 o2,(Instr.lookup 104 v (.int .i64 n) true).run Try.prog ((w.alloc o1).alloc o2)= .ok (.tuple #[.int .i64 r,.bool true]) ((w.alloc o1).alloc o2)):
  Calls Try.prog 57 #[v,.agg #[.int .i64 2,.int .i64 n,.int .i32 z]] w fun e w'=>e= .returned (.agg #[.int .i64 2,.int .i64 r,.int .i32 0])/\Below w.heap.size w w':=by
 go_enter Try.func57,Try.ntmps57
 go_wp2_with (first|(go_at_call 52;refine(reg52 _ _).mono ?_;rintro e w' ⟨rfl,row,T,rfl⟩))
 go_returns
 exact⟨rfl,(((Below.refl _ _).alloc (Nat.le_refl _) _).alloc (by simp) _).alloc (by simp;omega) _⟩
set_option maxHeartbeats 1000000 in
set_option maxRecDepth 100000 in
theorem ren_no(w:World)(v:Value)(k n z r:Int)(is:Bool)(hn:¬(is=true/\k=2))(hl:∀o1 o2,(Instr.lookup 104 v (.int .i64 n) true).run Try.prog ((w.alloc o1).alloc o2)= .ok (.tuple #[.int .i64 r,.bool is]) ((w.alloc o1).alloc o2)):
  Calls Try.prog 57 #[v,.agg #[.int .i64 k,.int .i64 n,.int .i32 z]] w fun e w'=>e= .returned (.agg #[.int .i64 k,.int .i64 n,.int .i32 z])/\Below w.heap.size w w':=by
 go_enter Try.func57,Try.ntmps57
 cases is with
 |false=>
  go_wp2
  go_returns
  exact⟨rfl,((Below.refl _ _).alloc (Nat.le_refl _) _).alloc (by simp) _⟩
 |true=>
  have hk:k≠2:=fun h=>hn ⟨rfl,h⟩
  go_wp2
  go_returns
  exact⟨rfl,((Below.refl _ _).alloc (Nat.le_refl _) _).alloc (by simp) _⟩
end Go.User
