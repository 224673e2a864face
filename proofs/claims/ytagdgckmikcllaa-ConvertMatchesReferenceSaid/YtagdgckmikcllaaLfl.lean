/- convert: plain facts of which blocks are reached, and from where. -/
import Derived.Test.YtagdgckmikcllaaLfk
set_option linter.unusedVariables false
set_option linter.unusedSimpArgs false
namespace Go.User
open Go.Proofs Go.Lf
set_option maxRecDepth 100000
theorem vc12:(eR C12 (hY C12) S12 L12 Try.f12)=(
let q0:=(True/\True)/\True;
let q1:=True/\True/\True;
let q2:=True/\True/\q1;
let q3:Int:=(0:Int);
let q4:Int:=(1:Int);
∀(x:List Int×List Int×Unit),
 let q5:=x.1.length;
 let q6:Int:=(↑q5:Int);
 let q7:=x.2.1.length;
 let q8:Bool:=q6 !=(↑q7:Int);
 let q9:Bool:=Sp.mS x.1 x.2.1;
 let q10:=q0/\false=q9;
 let q11:=x.1=x.1/\x.2.1=x.2.1/\True;
 True->
 aB tI.slice x.1/\aB tI.slice x.2.1/\True->
 q0/\
 ((True/\q2)/\True)/\
 (q8=true->q10)/\
 (q8=false->
 q0/\
 (∃(x_1:Nat),(x_1<=x.1.length/\x.1.length=x.2.1.length/\List.take x_1 x.1=List.take x_1 x.2.1)/\q3=(↑x_1:Int)/\q11)/\
 ∀(x_1:Nat),
 let q12:Bool:=decide ((↑x_1:Int)<q6);
 let q13:=(↑x_1:Int).toNat;
 let q14:Bool:=x.1.getD q13 q3 !=x.2.1.getD q13 q3;
 let q15:Int:=(↑x_1:Int)+q4;
 x_1<=x.1.length/\x.1.length=x.2.1.length/\List.take x_1 x.1=List.take x_1 x.2.1->aB tI (↑x_1:Int)/\True->(q2/\True)/\(q12=true->((True/\True/\inN (↑x_1:Int) q5/\True/\True/\True/\inN (↑x_1:Int) q7/\q1)/\True)/\(q14=true->q10)/\(q14=false->((True/\inK IntKind.i64 q15/\True/\True)/\True)/\∃(y:Nat),(y<=x.1.length/\x.1.length=x.2.1.length/\List.take y x.1=List.take y x.2.1)/\x.1.length-y<x.1.length-x_1/\q15=(↑y:Int)/\q11))/\(q12=false->q0/\true=q9))):=by kernel_rfl
theorem vc28:(eR C28 (hY C28) S28 L28 Try.f28)=(
let q0:=True/\True/\True;
let q1:=True/\q0;
let q2:=(True/\True)/\True;
let q3:Int:=(0:Int);
let q4:Sp.Opd:=(q3,q3,q3,());
let q5:Sp.Inst:=(q3,q3,q3,q4,q4,q4,q4,());
let q6:Int:=(1:Int);
∀(x:Sp.Block×Sp.Block×Unit),
 let q7:=x.1.1.length;
 let q8:Int:=(↑q7:Int);
 let q9:=x.2.1.1.length;
 let q10:Bool:=q8 !=(↑q9:Int);
 let q11:=(true&&bif q10 then false else true)=true->True;
 let q12:Int×Sp.Opd×Sp.Opd×Sp.Opd×List Int×Unit:=x.2.1.2.1.2;
 let q13:Sp.Opd×Sp.Opd×Sp.Opd×List Int×Unit:=x.1.2.1.2.2;
 let q14:Sp.Opd:=q13.1;
 let q15:Sp.Opd×Sp.Opd×Sp.Opd×List Int×Unit:=q12.2;
 let q16:Sp.Opd:=q15.1;
 let q17:Int×Int×Unit:=q14.2;
 let q18:Int×Int×Unit:=q16.2;
 let q19:Sp.Opd×Sp.Opd×List Int×Unit:=q13.2;
 let q20:Sp.Opd:=q19.1;
 let q21:Sp.Opd×Sp.Opd×List Int×Unit:=q15.2;
 let q22:Sp.Opd:=q21.1;
 let q23:Int×Int×Unit:=q20.2;
 let q24:Int×Int×Unit:=q22.2;
 let q25:Sp.Opd×List Int×Unit:=q19.2;
 let q26:Sp.Opd:=q25.1;
 let q27:Sp.Opd×List Int×Unit:=q21.2;
 let q28:Sp.Opd:=q27.1;
 let q29:Int×Int×Unit:=q26.2;
 let q30:Int×Int×Unit:=q28.2;
 let q31:Bool:=bif q10 then true else !(decide (x.1.2.1.1=x.2.1.2.1.1)&&(decide (x.1.2.1.2.1=q12.1)&&(decide (q14.1=q16.1)&&(decide (q17.1=q18.1)&&(decide (q17.2.1=q18.2.1)&&true))&&(decide (q20.1=q22.1)&&(decide (q23.1=q24.1)&&(decide (q23.2.1=q24.2.1)&&true))&&(decide (q26.1=q28.1)&&(decide (q29.1=q30.1)&&(decide (q29.2.1=q30.2.1)&&true))&&(decide (q25.2.1=q27.2.1)&&true))))));
 let q32:Bool:=Sp.qI x.1 x.2.1;
 let q33:=q2/\false=q32;
 let q34:=x.1.1.length;
 let q35:=x.1=x.1/\x.2.1=x.2.1/\True;
 True->
 aB eW x.1/\aB eW x.2.1/\True->
 (q1/\True)/\
 ((True/\True/\True/\True/\True/\True/\True/\True/\q11/\q11/\q11/\q11/\q11/\True/\True)/\True)/\
 (q31=true->q33)/\
 (q31=false->
 q2/\
 (∃(x_1:Nat),(x_1<=q34/\q34=x.2.1.1.length/\List.take x_1 x.1.1=List.take x_1 x.2.1.1)/\q3=(↑x_1:Int)/\q35)/\
 ∀(x_1:Nat),
 let q36:Bool:=decide ((↑x_1:Int)<q8);
 let q37:=(↑x_1:Int).toNat;
 let q38:Sp.Inst:=x.1.1.getD q37 q5;
 let q39:Sp.Inst:=x.2.1.1.getD q37 q5;
 let q40:Int×Int×Sp.Opd×Sp.Opd×Sp.Opd×Sp.Opd×Unit:=q38.2;
 let q41:Int×Int×Sp.Opd×Sp.Opd×Sp.Opd×Sp.Opd×Unit:=q39.2;
 let q42:Int×Sp.Opd×Sp.Opd×Sp.Opd×Sp.Opd×Unit:=q40.2;
 let q43:Int×Sp.Opd×Sp.Opd×Sp.Opd×Sp.Opd×Unit:=q41.2;
 let q44:Sp.Opd×Sp.Opd×Sp.Opd×Sp.Opd×Unit:=q42.2;
 let q45:Sp.Opd:=q44.1;
 let q46:Sp.Opd×Sp.Opd×Sp.Opd×Sp.Opd×Unit:=q43.2;
 let q47:Sp.Opd:=q46.1;
 let q48:Int×Int×Unit:=q45.2;
 let q49:Int×Int×Unit:=q47.2;
 let q50:Sp.Opd×Sp.Opd×Sp.Opd×Unit:=q44.2;
 let q51:Sp.Opd:=q50.1;
 let q52:Sp.Opd×Sp.Opd×Sp.Opd×Unit:=q46.2;
 let q53:Sp.Opd:=q52.1;
 let q54:Int×Int×Unit:=q51.2;
 let q55:Int×Int×Unit:=q53.2;
 let q56:Sp.Opd×Sp.Opd×Unit:=q50.2;
 let q57:Sp.Opd:=q56.1;
 let q58:Sp.Opd×Sp.Opd×Unit:=q52.2;
 let q59:Sp.Opd:=q58.1;
 let q60:Int×Int×Unit:=q57.2;
 let q61:Int×Int×Unit:=q59.2;
 let q62:Sp.Opd:=q56.2.1;
 let q63:Sp.Opd:=q58.2.1;
 let q64:Int×Int×Unit:=q62.2;
 let q65:Int×Int×Unit:=q63.2;
 let q66:Bool:= !(decide (q38.1=q39.1)&&(decide (q40.1=q41.1)&&(decide (q42.1=q43.1)&&(decide (q45.1=q47.1)&&(decide (q48.1=q49.1)&&(decide (q48.2.1=q49.2.1)&&true))&&(decide (q51.1=q53.1)&&(decide (q54.1=q55.1)&&(decide (q54.2.1=q55.2.1)&&true))&&(decide (q57.1=q59.1)&&(decide (q60.1=q61.1)&&(decide (q60.2.1=q61.2.1)&&true))&&(decide (q62.1=q63.1)&&(decide (q64.1=q65.1)&&(decide (q64.2.1=q65.2.1)&&true))&&true)))))));
 let q67:Int:=(↑x_1:Int)+q6;
 x_1<=q34/\q34=x.2.1.1.length/\List.take x_1 x.1.1=List.take x_1 x.2.1.1->aB tI (↑x_1:Int)/\True->((True/\True/\q1)/\True)/\(q36=true->((True/\True/\True/\inN (↑x_1:Int) q7/\True/\True/\True/\True/\inN (↑x_1:Int) q9/\q0)/\True)/\(q66=true->q33)/\(q66=false->((True/\inK IntKind.i64 q67/\True/\True)/\True)/\∃(y:Nat),(y<=q34/\q34=x.2.1.1.length/\List.take y x.1.1=List.take y x.2.1.1)/\q34-y<q34-x_1/\q67=(↑y:Int)/\q35))/\(q36=false->q2/\true=q32))):=by kernel_rfl
theorem vc27:(eR C27 (hY C27) S27 L27 Try.f27)=(
let q0:=True/\True/\True;
let q1:=True/\q0;
let q2:=(True/\True)/\True;
let q3:Int:=(0:Int);
let q4:=(True/\True/\q1)/\True;
let q5:Sp.Opd:=(q3,q3,q3,());
let q6:Sp.Arr:=(([]:List UInt8),q5);
let q7:Int:=(1:Int);
∀(x:Sp.Code×Sp.Code×Unit),
 let q8:Bool:=x.1.1 !=x.2.1.1;
 let q9:=(true&&bif q8 then false else true)=true->True;
 let q10:Bool:=bif q8 then true else x.1.2.1 !=x.2.1.2.1;
 let q11:=(true&&bif q10 then false else true)=true->True;
 let q12:Bool:=bif q10 then true else x.1.2.2.1 !=x.2.1.2.2.1;
 let q13:=(true&&bif q12 then false else true)=true->True;
 let q14:Int×Int×List Sp.Arr×List Sp.Opd×List Sp.Block×Unit:=x.2.1.2.2.2;
 let q15:Bool:=bif q12 then true else x.1.2.2.2.1 !=q14.1;
 let q16:=(true&&bif q15 then false else true)=true->True;
 let q17:Int×List Sp.Arr×List Sp.Opd×List Sp.Block×Unit:=x.1.2.2.2.2;
 let q18:Int×List Sp.Arr×List Sp.Opd×List Sp.Block×Unit:=q14.2;
 let q19:Bool:=bif q15 then true else q17.1 !=q18.1;
 let q20:=(true&&bif q19 then false else true)=true->True;
 let q21:List Sp.Arr×List Sp.Opd×List Sp.Block×Unit:=q17.2;
 let q22:List Sp.Arr:=q21.1;
 let q23:=q22.length;
 let q24:Int:=(↑q23:Int);
 let q25:List Sp.Arr×List Sp.Opd×List Sp.Block×Unit:=q18.2;
 let q26:List Sp.Arr:=q25.1;
 let q27:=q26.length;
 let q28:Bool:=bif q19 then true else q24 !=(↑q27:Int);
 let q29:=(true&&bif q28 then false else true)=true->True;
 let q30:List Sp.Opd:=q21.2.1;
 let q31:=q30.length;
 let q32:Int:=(↑q31:Int);
 let q33:List Sp.Opd:=q25.2.1;
 let q34:=q33.length;
 let q35:Bool:=bif q28 then true else q32 !=(↑q34:Int);
 let q36:Bool:=Sp.w4 x.1 x.2.1;
 let q37:=q2/\false=q36;
 let q38:=(Sp.cA x.1).length;
 let q39:=x.1=x.1/\x.2.1=x.2.1/\True;
 let q40:=(Sp.cL x.1).length;
 True->
 aB bF x.1/\aB bF x.2.1/\True->
 (q1/\True)/\
 ((True/\True/\True/\True/\True/\True/\q9/\q9/\q9/\q9/\q9/\True/\True/\q11/\q11/\q11/\q11/\q11/\True/\True/\q13/\q13/\q13/\q13/\q13/\True/\True/\q16/\q16/\q16/\q16/\q16/\True/\True/\q20/\q20/\q20/\q20/\q20/\q20/\q20/\True/\True/\q29/\q29/\q29/\q29/\q29/\q29/\q29/\True/\True)/\True)/\
 (q35=true->q37)/\
 (q35=false->
 q2/\
 (∃(x_1:Nat),(x_1<=q38/\q38=(Sp.cA x.2.1).length/\List.take x_1 (Sp.cA x.1)=List.take x_1 (Sp.cA x.2.1))/\q3=(↑x_1:Int)/\q39)/\
 ∀(x_1:Nat),
 let q41:Bool:=decide ((↑x_1:Int)<q24);
 let q42:=(↑x_1:Int).toNat;
 let q43:Sp.Arr:=q22.getD q42 q6;
 let q44:Sp.Arr:=q26.getD q42 q6;
 let q45:Sp.Opd:=q43.2;
 let q46:Sp.Opd:=q44.2;
 let q47:Int×Int×Unit:=q45.2;
 let q48:Int×Int×Unit:=q46.2;
 let q49:Bool:= !(decide (q43.1=q44.1)&&(decide (q45.1=q46.1)&&(decide (q47.1=q48.1)&&(decide (q47.2.1=q48.2.1)&&true))));
 let q50:Int:=(↑x_1:Int)+q7;
 x_1<=q38/\q38=(Sp.cA x.2.1).length/\List.take x_1 (Sp.cA x.1)=List.take x_1 (Sp.cA x.2.1)->
 aB tI (↑x_1:Int)/\True->
 q4/\
 (q41=true->((True/\True/\True/\inN (↑x_1:Int) q23/\True/\True/\True/\True/\inN (↑x_1:Int) q27/\q0)/\True)/\(q49=true->q37)/\(q49=false->((True/\inK IntKind.i64 q50/\True/\True)/\True)/\∃(y:Nat),(y<=q38/\q38=(Sp.cA x.2.1).length/\List.take y (Sp.cA x.1)=List.take y (Sp.cA x.2.1))/\q38-y<q38-x_1/\q50=(↑y:Int)/\q39))/\
 (q41=false->
 q2/\
 (∃(x_2:Nat),(x_2<=q40/\q40=(Sp.cL x.2.1).length/\List.take x_2 (Sp.cL x.1)=List.take x_2 (Sp.cL x.2.1))/\q3=(↑x_2:Int)/\q39)/\
 ∀(x_2:Nat),
 let q51:Bool:=decide ((↑x_2:Int)<q32);
 let q52:=(↑x_2:Int).toNat;
 let q53:Sp.Opd:=q30.getD q52 q5;
 let q54:Sp.Opd:=q33.getD q52 q5;
 let q55:Int×Int×Unit:=q53.2;
 let q56:Int×Int×Unit:=q54.2;
 let q57:Bool:= !(decide (q53.1=q54.1)&&(decide (q55.1=q56.1)&&(decide (q55.2.1=q56.2.1)&&true)));
 let q58:Int:=(↑x_2:Int)+q7;
 x_2<=q40/\q40=(Sp.cL x.2.1).length/\List.take x_2 (Sp.cL x.1)=List.take x_2 (Sp.cL x.2.1)->aB tI (↑x_2:Int)/\True->q4/\(q51=true->((True/\True/\True/\inN (↑x_2:Int) q31/\True/\True/\True/\True/\inN (↑x_2:Int) q34/\q0)/\True)/\(q57=true->q37)/\(q57=false->((True/\inK IntKind.i64 q58/\True/\True)/\True)/\∃(y:Nat),(y<=q40/\q40=(Sp.cL x.2.1).length/\List.take y (Sp.cL x.1)=List.take y (Sp.cL x.2.1))/\q40-y<q40-x_2/\q58=(↑y:Int)/\q39))/\(q51=false->q2/\true=q36)))):=by kernel_rfl
theorem vc11:(eR C11 (hY C11) S11 L11 Try.f11)=(
let q0:=(2:Nat);
let q1:=True/\True/\True/\True;
let q2:=(True/\True)/\True;
let q3:Int:=(0:Int);
let q4:Sp.Opd:=(q3,q3,q3,());
let q5:Sp.Block:=(([]:List aC.den),(q3,q3,q4,q4,q4,List.replicate q0 q3,()),());
let q6:Int:=(1:Int);
∀(x:Sp.Code×Sp.Code×Unit),
 let q7:Bool:= !Sp.w4 x.1 x.2.1;
 let q8:=(true&&bif q7 then false else true)=true->True;
 let q9:List Sp.Block:=x.1.2.2.2.2.2.2.2.1;
 let q10:=q9.length;
 let q11:Int:=(↑q10:Int);
 let q12:List Sp.Block:=x.2.1.2.2.2.2.2.2.2.1;
 let q13:=q12.length;
 let q14:Bool:=bif q7 then true else q11 !=(↑q13:Int);
 let q15:Bool:=Sp.eF x.1 x.2.1;
 let q16:=q2/\false=q15;
 let q17:=(Sp.cB x.1).length;
 let q18:=x.1=x.1/\x.2.1=x.2.1/\True;
 True->
 aB (tI.prod (tI.prod (tI.prod (tI.prod (tI.prod (cC.slice.prod (bC.slice.prod ((aC.slice.prod ((tI.prod (tI.prod (aM.prod (aM.prod (aM.prod ((Ty.arr q0 tI).prod Ty.unit)))))).prod Ty.unit)).slice.prod Ty.unit)))))))) x.1/\aB (tI.prod (tI.prod (tI.prod (tI.prod (tI.prod (cC.slice.prod (bC.slice.prod ((aC.slice.prod ((tI.prod (tI.prod (aM.prod (aM.prod (aM.prod ((Ty.arr q0 tI).prod Ty.unit)))))).prod Ty.unit)).slice.prod Ty.unit)))))))) x.2.1/\True->
 (q1/\True)/\
 ((True/\True/\True/\True/\True/\q8/\q8/\q8/\q8/\q8/\q8/\q8/\True/\True)/\True)/\
 (q14=true->q16)/\
 (q14=false->
 q2/\
 (∃(x_1:Nat),(x_1<=q17/\q17=(Sp.cB x.2.1).length/\List.take x_1 (Sp.cB x.1)=List.take x_1 (Sp.cB x.2.1))/\q3=(↑x_1:Int)/\q18)/\
 ∀(x_1:Nat),
 let q19:Bool:=decide ((↑x_1:Int)<q11);
 let q20:=(↑x_1:Int).toNat;
 let q21:Bool:= !Sp.qI (q9.getD q20 q5) (q12.getD q20 q5);
 let q22:Int:=(↑x_1:Int)+q6;
 x_1<=q17/\q17=(Sp.cB x.2.1).length/\List.take x_1 (Sp.cB x.1)=List.take x_1 (Sp.cB x.2.1)->aB tI (↑x_1:Int)/\True->((True/\True/\q1)/\True)/\(q19=true->((True/\True/\True/\inN (↑x_1:Int) q10/\True/\True/\True/\True/\inN (↑x_1:Int) q13/\q1)/\True)/\(q21=true->q16)/\(q21=false->((True/\inK IntKind.i64 q22/\True/\True)/\True)/\∃(y:Nat),(y<=q17/\q17=(Sp.cB x.2.1).length/\List.take y (Sp.cB x.1)=List.take y (Sp.cB x.2.1))/\q17-y<q17-x_1/\q22=(↑y:Int)/\q18))/\(q19=false->q2/\true=q15))):=by kernel_rfl
theorem vc119:(eR C119 (hY C119) S119 L119 Try.f119)=(
let q0:=(True/\True)/\True;
let q1:Int:=(0:Int);
let q2:=True/\True/\True/\True;
let q3:Int:=(1:Int);
∀(x:List Int×Int×Unit),
 let q4:=x.1.length;
 let q5:=x.1=x.1/\x.2.1=x.2.1/\True;
 let q6:Bool:=Sp.mem x.1 x.2.1;
 True->
 aB tI.slice x.1/\aB tI x.2.1/\True->
 q0/\
 q0/\
 (∃(x_1:Nat),(x_1<=q4/\¬x.2.1∈List.take x_1 x.1)/\q1=(↑x_1:Int)/\q5)/\
 ∀(x_1:Nat),
 let q7:Bool:=decide ((↑x_1:Int)<(↑q4:Int));
 let q8:Bool:=x.1.getD (↑x_1:Int).toNat q1==x.2.1;
 let q9:Int:=(↑x_1:Int)+q3;
 x_1<=q4/\¬x.2.1∈List.take x_1 x.1->aB tI (↑x_1:Int)/\True->((True/\q2)/\True)/\(q7=true->((True/\True/\inN (↑x_1:Int) q4/\q2)/\True)/\(q8=true->q0/\true=q6)/\(q8=false->((True/\inK IntKind.i64 q9/\True/\True)/\True)/\∃(y:Nat),(y<=q4/\¬x.2.1∈List.take y x.1)/\q4-y<q4-x_1/\q9=(↑y:Int)/\q5))/\(q7=false->q0/\false=q6)):=by kernel_rfl
theorem vc63:(eR C63 (hY C63) S63 L63 Try.f63)=(
let q0:=(True/\True)/\True;
let q1:=True/\True/\True;
let q2:=True/\q1;
let q3:Int:=(0:Int);
let q4:Sp.Arr:=(([]:List UInt8),q3,q3,q3,());
let q5:Int:=(1:Int);
∀(x:List Sp.Arr×List Sp.Arr×Unit),
 let q6:=x.1.length;
 let q7:Int:=(↑q6:Int);
 let q8:=x.2.1.length;
 let q9:Bool:=q7 !=(↑q8:Int);
 let q10:Bool:=Sp.vF x.1 x.2.1;
 let q11:=q0/\false=q10;
 let q12:Int:=(↑x.1.length:Int);
 let q13:=x.1=x.1/\x.2.1=x.2.1/\True;
 True->
 aB cC.slice x.1/\aB cC.slice x.2.1/\True->
 q0/\
 ((True/\True/\q2)/\True)/\
 (q9=true->q11)/\
 (q9=false->
 (q2/\True)/\
 (∃(x_1:Nat),(x_1<=x.1.length/\x.1.length=x.2.1.length/\List.take x_1 x.1=List.take x_1 x.2.1)/\q3=(↑x_1:Int)/\q7=q12/\q13)/\
 ∀(x_1:Nat),
 let q14:Bool:=decide ((↑x_1:Int)<q12);
 let q15:=(↑x_1:Int).toNat;
 let q16:Sp.Arr:=x.1.getD q15 q4;
 let q17:Sp.Arr:=x.2.1.getD q15 q4;
 let q18:Sp.Opd:=q16.2;
 let q19:Sp.Opd:=q17.2;
 let q20:Int×Int×Unit:=q18.2;
 let q21:Int×Int×Unit:=q19.2;
 let q22:Bool:= !(decide (q16.1=q17.1)&&(decide (q18.1=q19.1)&&(decide (q20.1=q21.1)&&(decide (q20.2.1=q21.2.1)&&true))));
 let q23:Int:=(↑x_1:Int)+q5;
 x_1<=x.1.length/\x.1.length=x.2.1.length/\List.take x_1 x.1=List.take x_1 x.2.1->aB tI (↑x_1:Int)/\aB tI q12/\True->q0/\(q14=true->(q1/\True)/\((True/\True/\inN (↑x_1:Int) q6/\True/\True/\True/\inN (↑x_1:Int) q8/\q1)/\True)/\(q22=true->q11)/\(q22=false->((inK IntKind.i64 q23/\True/\True)/\True)/\∃(y:Nat),(y<=x.1.length/\x.1.length=x.2.1.length/\List.take y x.1=List.take y x.2.1)/\x.1.length-y<x.1.length-x_1/\q23=(↑y:Int)/\q12=q12/\q13))/\(q14=false->q0/\true=q10))):=by kernel_rfl
theorem vc64:(eR C64 (hY C64) S64 L64 Try.f64)=(
let q0:=(True/\True)/\True;
let q1:=True/\True/\True;
let q2:=True/\q1;
let q3:Int:=(0:Int);
let q4:Sp.Opd:=(q3,q3,q3,());
let q5:Int:=(1:Int);
∀(x:List Sp.Opd×List Sp.Opd×Unit),
 let q6:=x.1.length;
 let q7:Int:=(↑q6:Int);
 let q8:=x.2.1.length;
 let q9:Bool:=q7 !=(↑q8:Int);
 let q10:Bool:=Sp.eqLps x.1 x.2.1;
 let q11:=q0/\false=q10;
 let q12:Int:=(↑x.1.length:Int);
 let q13:=x.1=x.1/\x.2.1=x.2.1/\True;
 True->
 aB bC.slice x.1/\aB bC.slice x.2.1/\True->
 q0/\
 ((True/\True/\q2)/\True)/\
 (q9=true->q11)/\
 (q9=false->
 (q2/\True)/\
 (∃(x_1:Nat),(x_1<=x.1.length/\x.1.length=x.2.1.length/\List.take x_1 x.1=List.take x_1 x.2.1)/\q3=(↑x_1:Int)/\q7=q12/\q13)/\
 ∀(x_1:Nat),
 let q14:Bool:=decide ((↑x_1:Int)<q12);
 let q15:=(↑x_1:Int).toNat;
 let q16:Sp.Opd:=x.1.getD q15 q4;
 let q17:Sp.Opd:=x.2.1.getD q15 q4;
 let q18:Int×Int×Unit:=q16.2;
 let q19:Int×Int×Unit:=q17.2;
 let q20:Bool:= !(decide (q16.1=q17.1)&&(decide (q18.1=q19.1)&&(decide (q18.2.1=q19.2.1)&&true)));
 let q21:Int:=(↑x_1:Int)+q5;
 x_1<=x.1.length/\x.1.length=x.2.1.length/\List.take x_1 x.1=List.take x_1 x.2.1->aB tI (↑x_1:Int)/\aB tI q12/\True->q0/\(q14=true->(q1/\True)/\((True/\True/\inN (↑x_1:Int) q6/\True/\True/\True/\inN (↑x_1:Int) q8/\q1)/\True)/\(q20=true->q11)/\(q20=false->((inK IntKind.i64 q21/\True/\True)/\True)/\∃(y:Nat),(y<=x.1.length/\x.1.length=x.2.1.length/\List.take y x.1=List.take y x.2.1)/\x.1.length-y<x.1.length-x_1/\q21=(↑y:Int)/\q12=q12/\q13))/\(q14=false->q0/\true=q10))):=by kernel_rfl
theorem vc62:(eR C62 (hY C62) S62 L62 Try.f62)=(
let q0:=(True/\True)/\True;
let q1:=True/\True/\True;
let q2:=True/\q1;
let q3:Int:=(0:Int);
let q4:Sp.Opd:=(q3,q3,q3,());
let q5:Sp.Inst:=(q3,q3,q3,q4,q4,q4,q4,());
let q6:Int:=(1:Int);
∀(x:List Sp.Inst×List Sp.Inst×Unit),
 let q7:=x.1.length;
 let q8:Int:=(↑q7:Int);
 let q9:=x.2.1.length;
 let q10:Bool:=q8 !=(↑q9:Int);
 let q11:Bool:=Sp.eqIns x.1 x.2.1;
 let q12:=q0/\false=q11;
 let q13:Int:=(↑x.1.length:Int);
 let q14:=x.1=x.1/\x.2.1=x.2.1/\True;
 True->
 aB aC.slice x.1/\aB aC.slice x.2.1/\True->
 q0/\
 ((True/\True/\q2)/\True)/\
 (q10=true->q12)/\
 (q10=false->
 (q2/\True)/\
 (∃(x_1:Nat),(x_1<=x.1.length/\x.1.length=x.2.1.length/\List.take x_1 x.1=List.take x_1 x.2.1)/\q3=(↑x_1:Int)/\q8=q13/\q14)/\
 ∀(x_1:Nat),
 let q15:Bool:=decide ((↑x_1:Int)<q13);
 let q16:=(↑x_1:Int).toNat;
 let q17:Sp.Inst:=x.1.getD q16 q5;
 let q18:Sp.Inst:=x.2.1.getD q16 q5;
 let q19:Int×Int×Sp.Opd×Sp.Opd×Sp.Opd×Sp.Opd×Unit:=q17.2;
 let q20:Int×Int×Sp.Opd×Sp.Opd×Sp.Opd×Sp.Opd×Unit:=q18.2;
 let q21:Int×Sp.Opd×Sp.Opd×Sp.Opd×Sp.Opd×Unit:=q19.2;
 let q22:Int×Sp.Opd×Sp.Opd×Sp.Opd×Sp.Opd×Unit:=q20.2;
 let q23:Sp.Opd×Sp.Opd×Sp.Opd×Sp.Opd×Unit:=q21.2;
 let q24:Sp.Opd:=q23.1;
 let q25:Sp.Opd×Sp.Opd×Sp.Opd×Sp.Opd×Unit:=q22.2;
 let q26:Sp.Opd:=q25.1;
 let q27:Int×Int×Unit:=q24.2;
 let q28:Int×Int×Unit:=q26.2;
 let q29:Sp.Opd×Sp.Opd×Sp.Opd×Unit:=q23.2;
 let q30:Sp.Opd:=q29.1;
 let q31:Sp.Opd×Sp.Opd×Sp.Opd×Unit:=q25.2;
 let q32:Sp.Opd:=q31.1;
 let q33:Int×Int×Unit:=q30.2;
 let q34:Int×Int×Unit:=q32.2;
 let q35:Sp.Opd×Sp.Opd×Unit:=q29.2;
 let q36:Sp.Opd:=q35.1;
 let q37:Sp.Opd×Sp.Opd×Unit:=q31.2;
 let q38:Sp.Opd:=q37.1;
 let q39:Int×Int×Unit:=q36.2;
 let q40:Int×Int×Unit:=q38.2;
 let q41:Sp.Opd:=q35.2.1;
 let q42:Sp.Opd:=q37.2.1;
 let q43:Int×Int×Unit:=q41.2;
 let q44:Int×Int×Unit:=q42.2;
 let q45:Bool:= !(decide (q17.1=q18.1)&&(decide (q19.1=q20.1)&&(decide (q21.1=q22.1)&&(decide (q24.1=q26.1)&&(decide (q27.1=q28.1)&&(decide (q27.2.1=q28.2.1)&&true))&&(decide (q30.1=q32.1)&&(decide (q33.1=q34.1)&&(decide (q33.2.1=q34.2.1)&&true))&&(decide (q36.1=q38.1)&&(decide (q39.1=q40.1)&&(decide (q39.2.1=q40.2.1)&&true))&&(decide (q41.1=q42.1)&&(decide (q43.1=q44.1)&&(decide (q43.2.1=q44.2.1)&&true))&&true)))))));
 let q46:Int:=(↑x_1:Int)+q6;
 x_1<=x.1.length/\x.1.length=x.2.1.length/\List.take x_1 x.1=List.take x_1 x.2.1->aB tI (↑x_1:Int)/\aB tI q13/\True->q0/\(q15=true->(q1/\True)/\((True/\True/\inN (↑x_1:Int) q7/\True/\True/\True/\inN (↑x_1:Int) q9/\q1)/\True)/\(q45=true->q12)/\(q45=false->((inK IntKind.i64 q46/\True/\True)/\True)/\∃(y:Nat),(y<=x.1.length/\x.1.length=x.2.1.length/\List.take y x.1=List.take y x.2.1)/\x.1.length-y<x.1.length-x_1/\q46=(↑y:Int)/\q13=q13/\q14))/\(q15=false->q0/\true=q11))):=by kernel_rfl
theorem vc86:(eR C86 (hY C86) S86 L86 Try.f86)=(
let q0:=(True/\True)/\True;
∀(x:List Sp.Block×Unit),
 let q1:=x.1.length;
 q1<=(5000:Nat)->aB eW.slice x.1/\True->q0/\((True/\True/\True)/\True)/\(x.1=([]:List eW.den)->q0/\([]:List eW.den)=x.1)/\(True->((True/\True/\(↑((0:Nat)+q1):Int)<=bJ/\True)/\True/\True)/\x.1=x.1)):=by kernel_rfl
end Go.User
namespace Sp
theorem i8{α:Type}{a b:List α}{i:Nat}{d:α}(hi:(i:Int)<(a.length:Int))(hl:a.length=b.length)(h:a.take i=b.take i)(e:a.getD i d=b.getD i d):a.take (i+1)=b.take (i+1):=by
 have h1:i<a.length:=by omega
 have h2:i<b.length:=by omega
 rw[List.take_add_one,List.take_add_one,h]
 rw[List.getD_eq_getElem?_getD,List.getD_eq_getElem?_getD,List.getElem?_eq_getElem h1,List.getElem?_eq_getElem h2]at e
 rw[List.getElem?_eq_getElem h1,List.getElem?_eq_getElem h2]
 simp only[Option.getD_some]at e
 rw[e]
theorem kM{α:Type}{a b:List α}{i:Nat}(hi:(a.length:Int)<=(i:Int))(hl:a.length=b.length)(h:a.take i=b.take i):a=b:=by
 rwa [List.take_of_length_le (by omega),List.take_of_length_le (by omega)]at h
theorem gL{a b:Opd}(h1:a.1=b.1)(h2:a.2.1=b.2.1)(h3:a.2.2.1=b.2.2.1):a=b:=by
 obtain⟨a1,a2,a3,_⟩:=a
 obtain⟨b1,b2,b3,_⟩:=b
 dsimp only at h1 h2 h3
 rw[h1,h2,h3]
theorem inst_ext{a b:Inst}(h1:a.1=b.1)(h2:a.2.1=b.2.1)(h3:a.2.2.1=b.2.2.1)(h4:a.2.2.2.1=b.2.2.2.1)(h5:a.2.2.2.2.1=b.2.2.2.2.1)(h6:a.2.2.2.2.2.1=b.2.2.2.2.2.1)(h7:a.2.2.2.2.2.2.1=b.2.2.2.2.2.2.1):a=b:=by
 obtain⟨a1,a2,a3,a4,a5,a6,a7,_⟩:=a
 obtain⟨b1,b2,b3,b4,b5,b6,b7,_⟩:=b
 dsimp only at h1 h2 h3 h4 h5 h6 h7
 rw[h1,h2,h3,h4,h5,h6,h7]
theorem term_ext{a b:Term}(h1:a.1=b.1)(h2:a.2.1=b.2.1)(h3:a.2.2.1=b.2.2.1)(h4:a.2.2.2.1=b.2.2.2.1)(h5:a.2.2.2.2.1=b.2.2.2.2.1)(h6:a.2.2.2.2.2.1=b.2.2.2.2.2.1):a=b:=by
 obtain⟨a1,a2,a3,a4,a5,a6,_⟩:=a
 obtain⟨b1,b2,b3,b4,b5,b6,_⟩:=b
 dsimp only at h1 h2 h3 h4 h5 h6
 rw[h1,h2,h3,h4,h5,h6]
theorem arr_ext{a b:Arr}(h1:a.1=b.1)(h2:a.2.1=b.2.1)(h3:a.2.2.1=b.2.2.1)(h4:a.2.2.2.1=b.2.2.2.1):a=b:=by
 obtain⟨a1,a2,a3,a4,_⟩:=a
 obtain⟨b1,b2,b3,b4,_⟩:=b
 dsimp only at h1 h2 h3 h4
 rw[h1,h2,h3,h4]
theorem loop_ext{a b:Loop}(h1:a.1=b.1)(h2:a.2.1=b.2.1)(h3:a.2.2.1=b.2.2.1):a=b:=gL h1 h2 h3
theorem gU(a b:Block):qI a b=true↔a=b:=by unfold qI;exact @decide_eq_true_iff _ (Classical.propDecidable _)
theorem mG(a b:Code):eF a b=true↔a=b:=by unfold eF;exact @decide_eq_true_iff _ (Classical.propDecidable _)
theorem oN(a b:List Inst):eqIns a b=true↔a=b:=by unfold eqIns;exact @decide_eq_true_iff _ (Classical.propDecidable _)
theorem pH(a b:List Arr):vF a b=true↔a=b:=decide_eq_true_iff
theorem rX(a b:List Loop):eqLps a b=true↔a=b:=decide_eq_true_iff
theorem rY(a b:List Int):mS a b=true↔a=b:=decide_eq_true_iff
theorem mem_iff(l:List Int)(n:Int):mem l n=true↔n∈l:=decide_eq_true_iff
theorem jO(a b:Code):w4 a b=true↔a.1=b.1/\a.2.1=b.2.1/\a.2.2.1=b.2.2.1/\a.2.2.2.1=b.2.2.2.1/\a.2.2.2.2.1=b.2.2.2.2.1/\cA a=cA b/\cL a=cL b:=by
 unfold w4
 simp only[Bool.and_eq_true,decide_eq_true_iff,and_assoc]
theorem code_ext{a b:Code}(h:w4 a b=true)(hB:cB a=cB b):a=b:=by
 obtain⟨h1,h2,h3,h4,h5,h6,h7⟩:=(jO a b).1 h
 obtain⟨a1,a2,a3,a4,a5,a6,a7,a8,_⟩:=a
 obtain⟨b1,b2,b3,b4,b5,b6,b7,b8,_⟩:=b
 unfold cA at h6;unfold cL at h7;unfold cB at hB
 dsimp only at h1 h2 h3 h4 h5 h6 h7 hB
 rw[h1,h2,h3,h4,h5,h6,h7,hB]
theorem jI{b:Bool}(h:¬b=true):false=b:=by cases b<;>simp at h⊢
theorem sE{b:Bool}(h:b=true):true=b:=h.symm
end Sp
namespace Go.User
open Go.Lf Go.Proofs
theorem ok12:FOk Try.prog 12 S12:=by
 have hC:aG Try.prog C12:=okA aS
 refine FOk.intro hC (cU hC) Try.call12 Try.func12 (by kernel_rfl) (by kernel_rfl) L12 ?_
 rw[vc12]
 simp only[zz,zy]
 rintro⟨a,b,u⟩ ⟨ha,hb⟩
 dsimp only
 refine⟨fun h=>Sp.jI fun e=>h (by rw[(Sp.rY a b).1 e]),fun h=>⟨⟨0,⟨Nat.zero_le _,by have:(List.length a:Int)=(List.length b:Int):=h;omega,rfl⟩,rfl⟩,?_⟩⟩
 intro i hi _
 obtain⟨h1,h2,h3⟩:=hi
 refine⟨fun hlt=>⟨⟨eZ hlt,eZ (by rw[<-h2];exact hlt)⟩,fun c=>Sp.jI fun e=>c (by rw[(Sp.rY a b).1 e]),fun c=>⟨d9 hlt ha.1,i+1,⟨by have:(i:Int)<(List.length a:Int):=hlt;omega,h2,Sp.i8 hlt h2 h3 c⟩,by have:(i:Int)<(List.length a:Int):=hlt;omega,rfl⟩⟩,fun hge=>Sp.sE ((Sp.rY a b).2 (Sp.kM hge h2 h3))⟩
theorem ok63:FOk Try.prog 63 S63:=by
 have hC:aG Try.prog C63:=okA aS
 refine FOk.intro hC (cU hC) Try.call63 Try.func63 (by kernel_rfl) (by kernel_rfl) L63 ?_
 rw[vc63]
 simp only[zz,zy]
 rintro⟨a,b,u⟩ ⟨ha,hb⟩
 dsimp only
 refine⟨fun h=>Sp.jI fun e=>h (by rw[(Sp.pH a b).1 e]),fun h=>⟨⟨0,⟨Nat.zero_le _,by have:(List.length a:Int)=(List.length b:Int):=h;omega,rfl⟩,rfl⟩,?_⟩⟩
 intro i hi _
 obtain⟨h1,h2,h3⟩:=hi
 refine⟨fun hlt=>⟨⟨eZ hlt,eZ (by rw[<-h2];exact hlt)⟩,fun c=>Sp.jI fun e=> ?_,fun c=>⟨d9 hlt ha.1,i+1,⟨by have:(i:Int)<(List.length a:Int):=hlt;omega,h2,Sp.i8 hlt h2 h3 (Sp.arr_ext c.1 c.2.1 c.2.2.1 c.2.2.2)⟩,by have:(i:Int)<(List.length a:Int):=hlt;omega,rfl⟩⟩,fun hge=>Sp.sE ((Sp.pH a b).2 (Sp.kM hge h2 h3))⟩
 have e:=(Sp.pH a b).1 e
 subst e
 simp at c
theorem ok64:FOk Try.prog 64 S64:=by
 have hC:aG Try.prog C64:=okA aS
 refine FOk.intro hC (cU hC) Try.call64 Try.func64 (by kernel_rfl) (by kernel_rfl) L64 ?_
 rw[vc64]
 simp only[zz,zy]
 rintro⟨a,b,u⟩ ⟨ha,hb⟩
 dsimp only
 refine⟨fun h=>Sp.jI fun e=>h (by rw[(Sp.rX a b).1 e]),fun h=>⟨⟨0,⟨Nat.zero_le _,by have:(List.length a:Int)=(List.length b:Int):=h;omega,rfl⟩,rfl⟩,?_⟩⟩
 intro i hi _
 obtain⟨h1,h2,h3⟩:=hi
 refine⟨fun hlt=>⟨⟨eZ hlt,eZ (by rw[<-h2];exact hlt)⟩,fun c=>Sp.jI fun e=> ?_,fun c=>⟨d9 hlt ha.1,i+1,⟨by have:(i:Int)<(List.length a:Int):=hlt;omega,h2,Sp.i8 hlt h2 h3 (Sp.loop_ext c.1 c.2.1 c.2.2)⟩,by have:(i:Int)<(List.length a:Int):=hlt;omega,rfl⟩⟩,fun hge=>Sp.sE ((Sp.rX a b).2 (Sp.kM hge h2 h3))⟩
 have e:=(Sp.rX a b).1 e
 subst e
 simp at c
theorem ok62:FOk Try.prog 62 S62:=by
 have hC:aG Try.prog C62:=okA aS
 refine FOk.intro hC (cU hC) Try.call62 Try.func62 (by kernel_rfl) (by kernel_rfl) L62 ?_
 rw[vc62]
 simp only[zz,zy]
 rintro⟨a,b,u⟩ ⟨ha,hb⟩
 dsimp only
 refine⟨fun h=>Sp.jI fun e=>h (by rw[(Sp.oN a b).1 e]),fun h=>⟨⟨0,⟨Nat.zero_le _,by have:(List.length a:Int)=(List.length b:Int):=h;omega,rfl⟩,rfl⟩,?_⟩⟩
 intro i hi _
 obtain⟨h1,h2,h3⟩:=hi
 refine⟨fun hlt=>⟨⟨eZ hlt,eZ (by rw[<-h2];exact hlt)⟩,fun c=>Sp.jI fun e=> ?_,fun c=>⟨d9 hlt ha.1,i+1,⟨by have:(i:Int)<(List.length a:Int):=hlt;omega,h2,Sp.i8 hlt h2 h3 (Sp.inst_ext c.1 c.2.1 c.2.2.1 (Sp.gL c.2.2.2.1.1 c.2.2.2.1.2.1 c.2.2.2.1.2.2) (Sp.gL c.2.2.2.2.1.1 c.2.2.2.2.1.2.1 c.2.2.2.2.1.2.2) (Sp.gL c.2.2.2.2.2.1.1 c.2.2.2.2.2.1.2.1 c.2.2.2.2.2.1.2.2) (Sp.gL c.2.2.2.2.2.2.1 c.2.2.2.2.2.2.2.1 c.2.2.2.2.2.2.2.2))⟩,by have:(i:Int)<(List.length a:Int):=hlt;omega,rfl⟩⟩,fun hge=>Sp.sE ((Sp.oN a b).2 (Sp.kM hge h2 h3))⟩
 have e:=(Sp.oN a b).1 e
 subst e
 simp at c
theorem ok28:FOk Try.prog 28 S28:=by
 have hC:aG Try.prog C28:=okA aS
 refine FOk.intro hC (cU hC) Try.call28 Try.func28 (by kernel_rfl) (by kernel_rfl) L28 ?_
 rw[vc28]
 simp only[zz,zy]
 rintro⟨a,b,u⟩ ⟨ha,hb⟩
 dsimp only
 refine⟨fun h=>Sp.jI fun e=> ?_,fun h=>⟨⟨0,⟨Nat.zero_le _,by have:(List.length a.1:Int)=(List.length b.1:Int):=h.1;omega,rfl⟩,rfl⟩,?_⟩⟩
 ·have e:=(Sp.gU a b).1 e
  subst e;simp at h
 intro i hi _
 obtain⟨h1,h2,h3⟩:=hi
 refine⟨fun hlt=>⟨⟨eZ hlt,eZ (by rw[<-h2];exact hlt)⟩,fun c=>Sp.jI fun e=> ?_,fun c=>⟨d9 hlt ha.1.1,i+1,⟨by have:(i:Int)<(List.length a.1:Int):=hlt;omega,h2,Sp.i8 hlt h2 h3 (Sp.inst_ext c.1 c.2.1 c.2.2.1 (Sp.gL c.2.2.2.1.1 c.2.2.2.1.2.1 c.2.2.2.1.2.2) (Sp.gL c.2.2.2.2.1.1 c.2.2.2.2.1.2.1 c.2.2.2.2.1.2.2) (Sp.gL c.2.2.2.2.2.1.1 c.2.2.2.2.2.1.2.1 c.2.2.2.2.2.1.2.2) (Sp.gL c.2.2.2.2.2.2.1 c.2.2.2.2.2.2.2.1 c.2.2.2.2.2.2.2.2))⟩,by have:(i:Int)<(List.length a.1:Int):=hlt;omega,rfl⟩⟩,fun hge=>Sp.sE ((Sp.gU a b).2 ?_)⟩
 ·have e:=(Sp.gU a b).1 e
  subst e;simp at c
 ·have e1:=Sp.kM hge h2 h3
  have e2:a.2.1=b.2.1:=Sp.term_ext h.2.1 h.2.2.1 (Sp.gL h.2.2.2.1.1 h.2.2.2.1.2.1 h.2.2.2.1.2.2) (Sp.gL h.2.2.2.2.1.1 h.2.2.2.2.1.2.1 h.2.2.2.2.1.2.2) (Sp.gL h.2.2.2.2.2.1.1 h.2.2.2.2.2.1.2.1 h.2.2.2.2.2.1.2.2) h.2.2.2.2.2.2
  obtain⟨a1,a2,_⟩:=a;obtain⟨b1,b2,_⟩:=b
  dsimp only at e1 e2
  rw[e1,e2]
theorem ok27:FOk Try.prog 27 S27:=by
 have hC:aG Try.prog C27:=okA aS
 refine FOk.intro hC (cU hC) Try.call27 Try.func27 (by kernel_rfl) (by kernel_rfl) L27 ?_
 rw[vc27]
 simp only[zz,zy]
 rintro⟨a,b,u⟩ ⟨ha,hb⟩
 dsimp only
 refine⟨fun h=>Sp.jI fun e=> ?_,fun h=>⟨⟨0,⟨Nat.zero_le _,?_,rfl⟩,rfl⟩,?_⟩⟩
 ·obtain⟨e1,e2,e3,e4,e5,e6,e7⟩:=(Sp.jO a b).1 e
  unfold Sp.cA at e6;unfold Sp.cL at e7;rw[e1,e2,e3,e4,e5,e6,e7]at h;simp at h
 ·have:=h.1.2
  show(Sp.cA a).length=(Sp.cA b).length
  exact Int.ofNat.inj this
 intro i hi _
 obtain⟨h1,h2,h3⟩:=hi
 refine⟨fun hlt=>⟨⟨eZ hlt,eZ (by have h2:a.2.2.2.2.2.1.length=b.2.2.2.2.2.1.length:=h2;rw[<-h2];exact hlt)⟩,fun c=>Sp.jI fun e=> ?_,fun c=>⟨d9 hlt ha.2.2.2.2.2.1.1,i+1,⟨?_,h2,Sp.i8 hlt h2 h3 (Sp.arr_ext c.1 c.2.1 c.2.2.1 c.2.2.2)⟩,?_,rfl⟩⟩,fun hge=>⟨⟨0,⟨Nat.zero_le _,Int.ofNat.inj h.2,rfl⟩,rfl⟩,?_⟩⟩
 ·have e6:=((Sp.jO a b).1 e).2.2.2.2.2.1
  unfold Sp.cA at e6;rw[e6]at c;simp at c
 ·show i+1<=(Sp.cA a).length
  have:(i:Int)<((Sp.cA a).length:Int):=hlt
  omega
 ·have:(i:Int)<((Sp.cA a).length:Int):=hlt
  omega
 intro j hj _
 obtain⟨g1,g2,g3⟩:=hj
 refine⟨fun hlt=>⟨⟨eZ hlt,eZ (by have g2:a.2.2.2.2.2.2.1.length=b.2.2.2.2.2.2.1.length:=g2;rw[<-g2];exact hlt)⟩,fun c=>Sp.jI fun e=> ?_,fun c=>⟨d9 hlt ha.2.2.2.2.2.2.1.1,j+1,⟨?_,g2,Sp.i8 hlt g2 g3 (Sp.loop_ext c.1 c.2.1 c.2.2)⟩,?_,rfl⟩⟩,fun hge2=>Sp.sE ((Sp.jO a b).2 ⟨h.1.1.1.1.1.1,h.1.1.1.1.1.2,h.1.1.1.1.2,h.1.1.1.2,h.1.1.2,Sp.kM hge h2 h3,Sp.kM hge2 g2 g3⟩)⟩
 ·have e7:=((Sp.jO a b).1 e).2.2.2.2.2.2
  unfold Sp.cL at e7;rw[e7]at c;simp at c
 ·show j+1<=(Sp.cL a).length
  have:(j:Int)<((Sp.cL a).length:Int):=hlt
  omega
 ·have:(j:Int)<((Sp.cL a).length:Int):=hlt
  omega
theorem ok11:FOk Try.prog 11 S11:=by
 have hC:aG Try.prog C11:=okA (aE ok27 (aE ok28 aS))
 refine FOk.intro hC (cU hC) Try.call11 Try.func11 (by kernel_rfl) (by kernel_rfl) L11 ?_
 rw[vc11]
 simp only[zz,zy]
 rintro⟨a,b,u⟩ ⟨ha,hb⟩
 dsimp only
 refine⟨fun h=>Sp.jI fun e=> ?_,fun h=>⟨⟨0,⟨Nat.zero_le _,Int.ofNat.inj h.2,rfl⟩,rfl⟩,?_⟩⟩
 ·have e:=(Sp.mG a b).1 e
  subst e;rw[(Sp.jO a a).2 ⟨rfl,rfl,rfl,rfl,rfl,rfl,rfl⟩]at h;simp at h
 intro i hi _
 obtain⟨h1,h2,h3⟩:=hi
 refine⟨fun hlt=>⟨⟨eZ hlt,eZ (by have h2:a.2.2.2.2.2.2.2.1.length=b.2.2.2.2.2.2.2.1.length:=h2;rw[<-h2];exact hlt)⟩,fun c=>Sp.jI fun e=> ?_,fun c=>⟨d9 hlt ha.2.2.2.2.2.2.2.1.1,i+1,⟨?_,h2,Sp.i8 hlt h2 h3 ((Sp.gU _ _).1 c)⟩,?_,rfl⟩⟩,fun hge=>Sp.sE ((Sp.mG a b).2 (Sp.code_ext h.1 (Sp.kM hge h2 h3)))⟩
 ·have e:=(Sp.mG a b).1 e
  subst e;rw[(Sp.gU _ _).2 rfl]at c;cases c
 ·show i+1<=(Sp.cB a).length
  have:(i:Int)<((Sp.cB a).length:Int):=hlt
  omega
 ·have:(i:Int)<((Sp.cB a).length:Int):=hlt
  omega
end Go.User
namespace Sp
theorem vZ{l:List Int}{n:Int}{i:Nat}{d:Int}(hi:(i:Int)<(l.length:Int)):n∈l.take (i+1)↔n∈l.take i∨l.getD i d=n:=by
 have h1:i<l.length:=by omega
 rw[List.take_add_one,List.getElem?_eq_getElem h1,List.getD_eq_getElem?_getD,List.getElem?_eq_getElem h1]
 simp only[Option.toList_some,List.mem_append,List.mem_singleton,Option.getD_some]
 exact or_congr Iff.rfl eq_comm
theorem mem_getD{l:List Int}{i:Nat}{d:Int}(hi:(i:Int)<(l.length:Int)):l.getD i d∈l:=by
 have h1:i<l.length:=by omega
 rw[List.getD_eq_getElem?_getD,List.getElem?_eq_getElem h1]
 exact List.getElem_mem h1
end Sp
namespace Go.User
open Go.Lf Go.Proofs
theorem gW{n:Nat}(h:n<=100000000):(n:Int)<=bJ:=by rw[lC];omega
theorem ok119:FOk Try.prog 119 S119:=by
 have hC:aG Try.prog C119:=okA aS
 refine FOk.intro hC (cU hC) Try.call119 Try.func119 (by kernel_rfl) (by kernel_rfl) L119 ?_
 rw[vc119]
 simp only[zz,zy]
 rintro⟨l,n,u⟩ ⟨hl,hn⟩
 dsimp only
 refine⟨⟨0,⟨Nat.zero_le _,by simp⟩,rfl⟩,?_⟩
 intro i hi _
 obtain⟨h1,h2⟩:=hi
 refine⟨fun hlt=>⟨eZ hlt,fun c=>Sp.sE ((Sp.mem_iff l n).2 ?_),fun c=>⟨d9 hlt hl.1,i+1,⟨?_,?_⟩,?_,rfl⟩⟩,fun hge=>Sp.jI fun e=>h2 ?_⟩
 ·have c:l.getD i 0=n:=c
  rw[<-c];exact Sp.mem_getD hlt
 ·have hlt:(i:Int)<(List.length l:Int):=hlt
  omega
 ·intro hm
  rcases (Sp.vZ (d:=0) hlt).1 hm with h|h
  ·exact h2 h
  ·exact c h
 ·have hlt:(i:Int)<(List.length l:Int):=hlt
  omega
 ·have hge:(List.length l:Int)<=(i:Int):=hge
  have e:=(Sp.mem_iff l n).1 e
  rwa [List.take_of_length_le (by omega)]
theorem ok86:FOk Try.prog 86 S86:=by
 have hC:aG Try.prog C86:=okA aS
 refine FOk.intro hC (cU hC) Try.call86 Try.func86 (by kernel_rfl) (by kernel_rfl) L86 ?_
 rw[vc86]
 simp only[zz,zy]
 rintro⟨l,u⟩ h _
 dsimp only
 exact⟨fun h=>h.symm,gW (by have h:List.length l<=5000:=h;omega)⟩
theorem take_blk{B:List Sp.Block}{i:Nat}(h:(i:Int)<(B.length:Int))(d:Sp.Block):B.take i++((B.getD i d).1,(B.getD i d).2.1,())::[]=B.take (i+1):=by
 have h1:i<B.length:=by omega
 rw[List.take_add_one,List.getElem?_eq_getElem h1,List.getD_eq_getElem?_getD,List.getElem?_eq_getElem h1]
 rfl
theorem ok16:FOk Try.prog 16 S16:=by
 have hC:aG Try.prog C16:=okC aS rfl rfl rfl rfl rfl rfl rfl
 refine FOk.intro hC (cU hC) Try.call16 Try.func16 (by kernel_rfl) (by kernel_rfl) L16 ?_
 rw[vc16]
 simp only[zz,zy]
 rintro⟨c,u⟩ hc hd
 obtain⟨h1,h2,h3,h4⟩:=hc
 dsimp only at h1 h2 h3 h4⊢
 have h1:c.2.2.2.2.2.1.length<=5000:=h1
 have h2:c.2.2.2.2.2.2.1.length<=5000:=h2
 have h3:c.2.2.2.2.2.2.2.1.length<=5000:=h3
 refine⟨gW (by omega),gW (by omega),⟨0,Nat.zero_le _,by simp,rfl⟩,?_⟩
 intro i hi _
 have hi:i<=c.2.2.2.2.2.2.2.1.length:=hi
 refine⟨fun hlt=>⟨⟨⟨eZ hlt,gW ?_,eZ hlt⟩,gW ?_⟩,aQ (by omega) (by omega),i+1,?_,?_,take_blk hlt _,rfl⟩,fun hge=> ?_⟩
 ·have hm:c.2.2.2.2.2.2.2.1.getD i ([],(0,0,(0,0,0,()),(0,0,0,()),(0,0,0,()),List.replicate 2 0,()),())∈c.2.2.2.2.2.2.2.1:=by
   have hl:i<c.2.2.2.2.2.2.2.1.length:=by omega
   rw[List.getD_eq_getElem?_getD,List.getElem?_eq_getElem hl];exact List.getElem_mem hl
  have:=h4 _ hm
  exact Nat.le_trans (Nat.le_of_eq (Nat.zero_add _)) (Nat.le_trans this (by decide))
 ·have:(List.take i (Sp.cB c)).length<=i:=by rw[List.length_take];omega
  omega
 ·show i+1<=c.2.2.2.2.2.2.2.1.length
  omega
 ·show c.2.2.2.2.2.2.2.1.length-(i+1)<c.2.2.2.2.2.2.2.1.length-i
  omega
 ·have e:List.take i (Sp.cB c)=c.2.2.2.2.2.2.2.1:=List.take_of_length_le (by show c.2.2.2.2.2.2.2.1.length<=i;omega)
  rw[e]
end Go.User
namespace Go.Lf

section
variable {P:Program} {C:Ctx} {N:NP} {w0:World} {F0 H:aA} {env:St} {a:Act} {w:World} {F:aA} {S:Nat->aA}
theorem aJ.setOwn(hi:aJ P N w0 F0 H env a w F S){r:Nat}{τ:Ty}{m:Md}{x:τ.den}{Sr:aA}(hroot:∀t,(env t).root≠some r)(hSr:∀k,¬S r k)
  (hS:∀b,Sr b->(w0.heap.size<=b∨H b)/\b<w.heap.size/\¬F b/\∀t,¬S t b) (hv:aT F w τ m Sr (a.tmps.getD r undef) x):
  aJ P N w0 F0 H (upd env r (.own τ m x)) a w F (fun t=>if t=r then Sr else S t):=by
 refine⟨hi.os,hi.tape,hi.output,hi.size,hi.block,hi.fb,hi.f0,hi.fn,?_,?_,?_,hi.defers,hi.slots⟩
 ·intro t b ht
  by_cases h:t=r
  ·simp only[h,if_true]at ht;exact⟨(hS b ht).1,(hS b ht).2.1,(hS b ht).2.2.1⟩
  ·simp only[h,if_false]at ht;exact hi.sb t b ht
 ·intro t u htu b h1 h2
  by_cases h:t=r
  ·simp only[h,if_true]at h1
   by_cases h':u=r
   ·exact htu (h.trans h'.symm)
   ·simp only[h',if_false]at h2
    exact(hS b h1).2.2.2 u h2
  ·simp only[h,if_false]at h1
   by_cases h':u=r
   ·simp only[h',if_true]at h2
    exact(hS b h2).2.2.2 t h1
   ·simp only[h',if_false]at h2
    exact hi.sd t u htu b h1 h2
 ·intro t
  by_cases h:t=r
  ·subst h
   rw[bU];obtain⟨cs,h1,h2⟩:=hv;refine⟨.val cs,Sr,cs,.inl ⟨rfl,rfl,?_,h1⟩,rfl,h2⟩
   simp
  ·rw[bG _ _ h]
   refine aF.keep (fun _ h=>h) (fun _ _=>rfl) rfl ?_ ?_ (hi.ent t)
   ·intro q hq
    have hqr:q≠r:=fun e=>hroot t (e▸hq)
    exact⟨fun ho=>bG _ _ hqr,fun _=>rfl,by simp[hqr],fun _ _=>rfl,fun b h1 h2=>absurd h1 h2,fun b hb=>(hi.sb q b hb).2.2⟩
   ·intro _
    exact⟨by simp[h],fun _ _=>rfl,fun b h1 h2=>absurd h1 h2⟩
theorem oO(env:St)(r t:Nat):(drop env r t).root≠some r:=by
 unfold drop
 by_cases h:t=r
 ·subst h;rw[bU];exact fun h=>by cases h
 ·rw[bG _ _ h]
  rcases c9 env r t with h'|⟨h',hne⟩
  ·rw[h'];exact fun h=>by cases h
  ·rw[h'];exact hne
end
end Go.Lf
namespace Go.Lf

def d6:Code->List Code
 | .seq a b=>a::d6 b
 |c=>[c]

def j9(P:Program):List Code->(Exit->Act->World->Prop)->Act->World->Prop
 | [],Q,a,w=>Q .normal a w
 |c::cs,Q,a,w=>c.wp P (Exit.then (j9 P cs Q) Q) a w

def wpTL(C:Ctx)(stp:St->Oper->Option (Prop×St)):List KT->List Code->St->(St->Prop)->(Nat->St->Prop)->(St->Prop)->Prop
 | [],[],st,Qn,_,_=>Qn st
 |k::ks,c::cs,st,Qn,Qx,Qr=>wpT C stp k c st (fun st'=>wpTL C stp ks cs st' Qn Qx Qr) Qx Qr
 |_,_,_,_,_,_=>False

def cF:St:=fun _=> .dead

def HandOK(P:Program)(C:Ctx)(M:List Code)(l1:aW)(l2:l1.ι->aW):Prop:=
 ∀(x:l1.ι),l1.inv x->mF (l1.ovr x) []->∀(w0:World) (F0 H:aA) (a:Act) (w:World),Inv P C.np w0 F0 H (stx l1 cF x) a w->
  j9 P M (fun e a' w'=>e= .normal/\∃y,(l2 x).inv y/\Inv P C.np w0 F0 H (stx (l2 x) cF y) a' w') a w

structure Mid(K:Type) where
 n:Nat
 k:Nat
 KA:K->List KT
 l1:K->aW
 l2:(x:K)->(l1 x).ι->aW
 KR:(x:K)->(i:(l1 x).ι)->(l2 x i).ι->List KT

def funIM(C:Ctx)(stp:St->Oper->Option (Prop×St))(s:bD)(m:Mid (aH s.args))(fn:Func):Prop:=
 match fn.body with
 |some c=>∀x,s.pre x->gE s.args x->
   wpTL C stp (m.KA x) ((d6 c).take m.n) (ofL (bZ s.args x 0)) (fun st'=>∃i,(m.l1 x).inv i/\atX (m.l1 x) cF i (kC st' (m.l1 x).frz)) (fun _ _=>False) (jU C fn.results.toList s (s.fn x))/\
   ∀i,(m.l1 x).inv i->mF ((m.l1 x).ovr i) []->∀j,(m.l2 x i).inv j->mF ((m.l2 x i).ovr j) []->
    wpTL C stp (m.KR x i j) ((d6 c).drop (m.n+m.k)) (stx (m.l2 x i) cF j) (jU C fn.results.toList s (s.fn x)) (fun _ _=>False) (jU C fn.results.toList s (s.fn x))
 |none=>False

section
variable {P:Program} {C:Ctx} {w0:World} {F0 H:aA}

theorem gQ{Q:Exit->Act->World->Prop}:∀ {A B:List Code} {a:Act} {w:World},j9 P A (Exit.then (j9 P B Q) Q) a w->j9 P (A++B) Q a w
 | [],B,a,w,h=>h
 |c::A,B,a,w,h=>by
  refine Code.wp_mono (fun e a' w' h2=> ?_) h
  cases e with
  |normal=>exact gQ h2
  |_=>exact h2
theorem tS{Q:Exit->Act->World->Prop}:∀(c:Code) {a:Act} {w:World},j9 P (d6 c) Q a w->c.wp P Q a w:=by
 intro c
 induction c with
 |seq x y ihx ihy=>
  intro a w h;refine wp_seq (Code.wp_mono (fun e a' w' h2=> ?_) h)
  cases e with
  |normal=>exact ihy h2
  |_=>exact h2
 |_=>
  intro a w h;refine Code.wp_mono (fun e a' w' h2=> ?_) h
  cases e<;>exact h2
theorem wC{Q R:Exit->Act->World->Prop}(hQ:∀e a w,Q e a w->R e a w):∀ {A:List Code} {a:Act} {w:World},j9 P A Q a w->j9 P A R a w
 | [],a,w,h=>hQ _ _ _ h
 |c::A,a,w,h=>by
  refine Code.wp_mono (fun e a' w' h2=> ?_) h
  cases e with
  |normal=>exact wC hQ h2
  |_=>exact hQ _ _ _ h2
theorem oC(hC:aG P C){stp:St->Oper->Option (Prop×St)}(hstp:dM P C stp):
  ∀ {cs:List Code} {ks:List KT} {st:St} {Qn:St->Prop} {Qx:Nat->St->Prop} {Qr:St->Prop} {Q:Exit->Act->World->Prop} {a:Act} {w:World},wpTL C stp ks cs st Qn Qx Qr->Inv P C.np w0 F0 H st a w->
   (∀st a w,Qn st->Inv P C.np w0 F0 H st a w->Q .normal a w)->(∀i st a w,Qx i st->Inv P C.np w0 F0 H st a w->Q (.exit i) a w)->(∀st a w,Qr st->Inv P C.np w0 F0 H st a w->Q .ret a w)->j9 P cs Q a w
 | [],[],st,Qn,Qx,Qr,Q,a,w,h,hi,hn,hx,hr=>hn _ _ _ h hi
 | [],_::_,st,Qn,Qx,Qr,Q,a,w,h,hi,hn,hx,hr=>h.elim
 |c::cs,[],st,Qn,Qx,Qr,Q,a,w,h,hi,hn,hx,hr=>h.elim
 |c::cs,k::ks,st,Qn,Qx,Qr,Q,a,w,h,hi,hn,hx,hr=>by
  refine qR hC hstp c h hi ?_ (fun i st a w h1 h2=>hx i st a w h1 h2) (fun st a w h1 h2=>hr st a w h1 h2)
  intro st1 a1 w1 h1 hi1;exact oC hC hstp h1 hi1 hn hx hr

theorem FOk.introM(hC:aG P C){stp:St->Oper->Option (Prop×St)}(hstp:dM P C stp){f:FuncId}{s:bD}{fn:Func}{c:Code}(hdef:fV P f)(hf:P.funcs[f]? =some fn)(hb:fn.body=some c)
  (hN:C.np=⟨fn.ntmps,none,0,s.glb,[]⟩) (hlen:Nat.ble s.args.length fn.ntmps=true) (m:Mid (aH s.args))
  (hM:∀x,s.pre x->HandOK P C (((d6 c).drop m.n).take m.k) (m.l1 x) (m.l2 x)) (h:funIM C stp s m fn):FOk P f s:=by
 refine⟨hdef,?_⟩
 intro w F vs xs hG hF ha hp
 unfold funIM at h
 rw[hb]at h
 dsimp only at h
 obtain⟨hA,hR⟩:=h xs hp (d4 ha)
 have hl:=cD.len ha
 have hlen':s.args.length<=fn.ntmps:=Nat.le_of_ble_eq_true hlen
 have hst:=aJ.start (P:=P) (N:=C.np) (by rw[hN];exact hG) hF ha (by rw[hN];show vs.length<=fn.ntmps;omega) (by rw[hN]) (by rw[hN])
 refine calls_of_wp hf hb ?_
 rw[show C.np.n=fn.ntmps by rw[hN]]at hst
 have hend:∀(b:Bool) st a w',jU C fn.results.toList s (s.fn xs) st->Inv P C.np w F none' st a w'->bodyPost P fn (mZ F w s.multi s.res s.mode (s.fn xs)) (bif b then .normal else .ret) a w':=by
  intro b st a w' hq hi;obtain⟨v,h1,h2⟩:=kE hC hq hi;obtain⟨_,_,hi⟩:=hi;cases b<;>exact⟨hi.defers,v,h1,h2⟩
 refine tS c ?_
 have e1:d6 c=(d6 c).take m.n++((((d6 c).drop m.n).take m.k)++(d6 c).drop (m.n+m.k)):=by
  rw[<-List.drop_drop,List.take_append_drop,List.take_append_drop]
 rw[e1]
 refine gQ (oC hC hstp hA ⟨F,_,by simpa using hst⟩ ?_ (fun _ _ _ _ h=>h.elim) (fun st a w' hq hi=>hend false st a w' hq hi))
 intro st1 a1 w1 h1 hi1
 obtain⟨i,g1,g2⟩:=h1
 have hi2:=mI g2 (iT (l:=(m.l1 xs).frz) hi1)
 have f1:=iN hi2 (f:=(m.l1 xs).ovr i) (fun t e h=>by simp only[stx,h]) ((m.l1 xs).ovr i) [] (fun t e _ h=>h)
 refine gQ (wC ?_ (hM xs hp i g1 f1 w F none' a1 w1 hi2))
 rintro e a2 w2 ⟨rfl,j,k1,k2⟩
 have f2:=iN k2 (f:=(m.l2 xs i).ovr j) (fun t e h=>by simp only[stx,h]) ((m.l2 xs i).ovr j) [] (fun t e _ h=>h)
 exact oC hC hstp (hR i g1 f1 j k1 f2) k2 (fun st a w' hq hi=>hend true st a w' hq hi) (fun _ _ _ _ h=>h.elim) (fun st a w' hq hi=>hend false st a w' hq hi)
end
end Go.Lf
namespace Go.Lf

structure jA where
 args:List AK
 τ:Ty
 m:Md
 pre:aH args->Prop
 fn:aH args->τ.den

def BPost(F:aA)(w:World)(s:jA)(y:s.τ.den)(e:Ending)(w':World):Prop:=
 ∃v F' Sd,e= .returned v/\RowKit.Below w.heap.size w w'/\Sub F F'/\(∀b,F' b->¬F b->w.heap.size<=b)/\(∀b,F' b∨Sd b->b<w'.heap.size)/\
  (∀b,Sd b->w.heap.size<=b/\¬F' b)/\∃pl S0 cs,fH F' w' Sd v (.box s.τ s.m y) s.τ s.m y pl S0 cs
def BOk(P:Program)(f:FuncId)(s:jA):Prop:=
 fV P f/\∀(w:World) (F:aA) vs xs,(∀b,F b->b<w.heap.size)->cD P F w s.args vs xs->s.pre xs->Calls P f vs.toArray w (BPost F w s (s.fn xs))

def nboxE(st:St)(d:Nat)(s:jA)(vs:List aP):Option (Prop×St):=match mT s.args vs with
 |some (x,true)=>some (s.pre x,put st d (.box s.τ s.m (s.fn x)))
 |_=>none
def boxC(bs:List (FuncId×jA))(C:Ctx)(st:St)(o:Oper)(q:Call):Option (Prop×St):=
 match q.callee,o.dst with
 | .value (.func f),some d=>match look bs f with
  |some s=>bif wrB C d then nboxE st d s (q.args.toList.map (bR st))else none
  |none=>none
 |_,_=>none
def pendO(st:St)(t:Nat):St:=match st t with
 | .pend r _ e me x=>upd (drop (drop st r) t) t (.own (.slice e) (.own me) x)
 |_=>st
def pendL(st:St):List (Nat×Operand)->St
 | []=>st
 |(_,.tmp t)::l=>pendL (pendO st t) l
 |_::l=>pendL st l
def dL(bs:List (FuncId×jA))(C:Ctx)(st:St)(o:Oper):Option (Prop×St):=match o.op with
 | .call q=>(match boxC bs C st o q with
  |some r=>some r
  |none=>hY C st o)
 | .build _ ps=>(match hY C st o with
  |some r=>some r
  |none=>hY C (pendL st ps.toList) o)
 |_=>hY C st o

def retB(rs:List ResultVar)(s:jA)(y:s.τ.den)(st:St):Prop:=match rs with
 | [.tmp t]=>match st t with
  | .addr r []=>match st r with
   | .box τ m x=>bif decide (m=s.m)then(match bY (τ:=τ) (σ:=s.τ) x with
    |some z=>z=y
    |none=>False)else False
   |_=>False
  |_=>False
 |_=>False
def funB(C:Ctx)(stp:St->Oper->Option (Prop×St))(s:jA)(L:aH s.args->KT)(fn:Func):Prop:=
 match fn.body with
 |some c=>∀x,s.pre x->gE s.args x->wpT C stp (L x) c (ofL (bZ s.args x 0)) (retB fn.results.toList s (s.fn x)) (fun _ _=>False) (retB fn.results.toList s (s.fn x))
 |none=>False

section
variable {P:Program} {C:Ctx} {N:NP} {w0:World} {F0 H:aA} {env:St} {a:Act} {w:World} {F:aA} {S:Nat->aA}

theorem nboxE_ok(hi:aJ P N w0 F0 H env a w F S){d:Nat}(hd:Wr N d){f:FuncId}{s:jA}(hs:BOk P f s){args:Array Operand}{ts:Array TypeId}{o:Oper}(ho:o.op= .call {callee:= .value (.func f),args,argTypes:=ts})(hod:o.dst=some d)
  {c:Prop} {env':St} (h:nboxE env d s (args.toList.map (bR env))=some (c,env')) (hc:c):mN P N w0 F0 H a w o d env':=by
 unfold nboxE at h
 split at h
 ·rename_i x hx
  simp only[Option.some.injEq,Prod.mk.injEq]at h;obtain⟨rfl,rfl⟩:=h;have hargs:=i9 hi (fS (fun z _=>aX hi z)) hx
  have hcall:=hs.2 w F _ x hi.fb hargs hc
  intro K Q hK;have hrun:(execOp a.eval o).run P w= .ok (.enter f (args.toList.map a.eval).toArray) w:=by
   simp only[execOp,ho,resolve,Sem.run_bind,Act.eval,Deferred.ofValue,Sem.run_pure,Result.andThen,invoke];have:=hs.1 ((args.toList.map a.eval).toArray) w;rw[<-this]
   congr 1
   congr 1
   apply Array.ext'
   simp
  unfold Oper.wp;rw[hrun,Oper.upon_enter];refine hcall.mono ?_;rintro e w' ⟨v,F',Sd,rfl,h2,h3,h4,h5,h6,pl,S0,cs,h7⟩;rw[hod];have hVd:(a.put (some d) v).tmps.getD d undef=v:=by rw[Act.getD_put (by rw[hi.slots.size];exact hd.1),if_pos rfl]
  have hsz:=hi.size
  refine hK v w' F' _ (hi.put (Sd:=Sd) hd h2 h3 (fun b hb=>h5 b (.inl hb)) ?_ (fun b hb=>⟨.inl (by have:=(h6 b hb).1;omega),h5 b (.inr hb),(h6 b hb).2,fun t _ ht=>by have:=(hi.sb t b ht).2.1;have:=(h6 b hb).1;omega⟩) ?_)
  ·intro b h1 h2
   have:=h4 b h1 h2
   exact⟨.inl (by omega),fun t _ ht=>by have:=(hi.sb t b ht).2.1;omega⟩
  ·simp only[aF,if_true,hVd]
   exact⟨pl,S0,cs,h7⟩
 ·cases h

theorem pendO_ok(h:Inv P N w0 F0 H env a w)(t:Nat):Inv P N w0 F0 H (pendO env t) a w:=by
 obtain⟨F,S,hi⟩:=h
 unfold pendO
 split
 ·rename_i r p e me x ht
  obtain⟨Sd,h1,h2⟩:=takeE_ok hi (aX hi (.tmp t)) (k:=⟨.slice e,.own me,x,r⟩) (by simp only[bR];rw[ht];rfl);have h1:Sub Sd (S r):=h1;have hi2:=(hi.drop r).drop t;refine⟨F,_,hi2.setOwn (r:=t) (τ:= .slice e) (m:= .own me) (x:=x) (Sr:=Sd) (fun u=>oO _ t u) (fun k hk=> ?_) (fun b hb=> ?_) h2⟩
  ·simp only[if_true]at hk;exact hk
  ·obtain⟨q1,q2,q3⟩:=hi.sb r b (h1 b hb)
   refine⟨q1,q2,q3,fun u hu=> ?_⟩
   by_cases e1:u=t
   ·simp only[e1,if_true]at hu;exact hu
   ·simp only[e1,if_false]at hu
    by_cases e2:u=r
    ·simp only[e2,if_true]at hu;exact hu
    ·simp only[e2,if_false]at hu
     exact hi.sd u r e2 b hu (h1 b hb)
 ·exact⟨F,S,hi⟩
theorem pendL_ok(l:List (Nat×Operand)):∀ {env:St},Inv P N w0 F0 H env a w->Inv P N w0 F0 H (pendL env l) a w:=by
 induction l with
 |nil=>intro env h;exact h
 |cons z l ih=>
  intro env h;obtain⟨k,z⟩:=z;cases z with
  |tmp t=>exact ih (pendO_ok h t)
  |_=>exact ih h
theorem oF{bs:List (FuncId×jA)}(hC:aG P C)(hb:∀f s,look bs f=some s->BOk P f s):dM P C (dL bs C):=by
 intro w0 F0 H env env' a w o c hi h hc K Q hK
 unfold dL at h
 split at h
 ·rename_i q hop
  split at h
  ·rename_i r hr
   simp only[Option.some.injEq]at h;subst h;obtain⟨F,S,hi⟩:=hi;obtain⟨callee,args,ts⟩:=q;unfold boxC at hr;simp only at hr;split at hr
   ·rename_i f d hod
    split at hr
    ·rename_i s hs
     cases hw:wrB C d
     ·rw[hw]at hr;cases hr
     rw[hw]at hr;exact nboxE_ok hi (eA hw) (hb f s hs) hop hod hr hc K Q (fun v w' F2 S2 h=>hK _ _ ⟨F2,S2,h⟩)
    ·cases hr
   ·cases hr
  ·exact cU hC hi h hc K Q hK
 ·split at h
  ·rename_i r hr
   simp only[Option.some.injEq]at h;subst h;exact cU hC hi hr hc K Q hK
  ·exact cU hC (pendL_ok _ hi) h hc K Q hK
 ·exact cU hC hi h hc K Q hK

theorem retB_ok{s:jA}{fn:Func}{y:s.τ.den}(h:retB fn.results.toList s y env)(hi:Inv P N w0 F0 none' env a w):
  ∃v,(results fn a.tmps).run P w= .ok v w/\BPost F0 w0 s y (.returned v) w:=by
 obtain⟨F,S,hi⟩:=hi
 unfold retB at h
 split at h
 ·rename_i t hrs
  split at h
  ·rename_i r ht
   split at h
   ·rename_i τ m x hr
    cases hm:decide (m=s.m)
    ·rw[hm]at h;cases h
    rw[hm]at h;simp only[cond_true]at h;have hm:=of_decide_eq_true hm;split at h
    ·rename_i z hz
     subst h;have:=aV hz;injection this with e1 e2;subst e1 hm;cases e2;have hrun:=cX (P:=P) (w:=w) (a:=a) (fn:=fn) (vs:=[a.tmps.getD t undef]) (by rw[hrs];simp[oS,Sem.run_bind,Sem.run_pure,Result.andThen]);refine⟨_,hrun,?_⟩;simp only[List.size_toArray,List.length_cons,List.length_nil,Nat.zero_add,dite_true];show BPost F0 w0 s _ (.returned (a.tmps.getD t undef)) w;have hval:a.tmps.getD t undef=a.tmps.getD r undef:=by
      have h1:=hi.ent t
      rw[ht]at h1;obtain⟨τ1,m1,x1,pl,S0,cs,σ,μ,b,off,h1,h2,h3,h4,h5,h6⟩:=h1;rw[hr]at h1;obtain⟨_,_,b',rfl,_,g1,_⟩:=h1.box_inj;simp only[loc,Option.some.injEq,Prod.mk.injEq,aK.mem.injEq]at h2;obtain⟨_,rfl,rfl⟩:=h2;exact h3.trans g1.symm
     have h1:=hi.ent r
     rw[hr]at h1;obtain⟨pl,S0,cs,h1⟩:=h1;rw[hval];have hnew:∀b,S r b->w0.heap.size<=b/\b<w.heap.size/\¬F b:=by
      intro b hb;obtain⟨k1,k2,k3⟩:=hi.sb r b hb;exact⟨k1.elim id (fun h=>h.elim),k2,k3⟩
     refine⟨_,F,S r,rfl,⟨hi.os,hi.tape,hi.output,hi.size,fun k hk=>hi.block k hk (fun h=>h)⟩,hi.f0,fun b g1 g2=>(hi.fn b g1 g2).elim id (fun h=>h.elim),fun b g=>g.elim (hi.fb b) (fun g=>(hnew b g).2.1),fun b g=>⟨(hnew b g).1,(hnew b g).2.2⟩,pl,S0,cs,h1⟩
    ·cases h
   ·cases h
  ·cases h
 ·cases h

theorem BOk.intro(hC:aG P C){stp:St->Oper->Option (Prop×St)}(hstp:dM P C stp){f:FuncId}{s:jA}{fn:Func}(hdef:fV P f)(hf:P.funcs[f]? =some fn)(hN:C.np=⟨fn.ntmps,none,0,0,[]⟩)
  (hlen:Nat.ble s.args.length fn.ntmps=true) (L:aH s.args->KT) (h:funB C stp s L fn):BOk P f s:=by
 refine⟨hdef,?_⟩
 intro w F vs xs hF ha hp
 unfold funB at h
 split at h
 ·rename_i c hb
  have hl:=cD.len ha
  have hlen':s.args.length<=fn.ntmps:=Nat.le_of_ble_eq_true hlen
  have hst:=aJ.start (P:=P) (N:=C.np) (by rw[hN];exact kQ.zero _ _) hF ha (by rw[hN];show vs.length<=fn.ntmps;omega) (by rw[hN]) (by rw[hN])
  refine calls_of_wp hf hb ?_
  rw[show C.np.n=fn.ntmps by rw[hN]]at hst
  refine qR hC hstp c (h xs hp (d4 ha)) ⟨F,_,by simpa using hst⟩ ?_ (fun _ _ _ _ h=>h.elim) ?_
  ·intro st a w' hq hi
   obtain⟨v,h1,h2⟩:=retB_ok hq hi;obtain⟨_,_,hi⟩:=hi;exact⟨hi.defers,v,h1,h2⟩
  ·intro st a w' hq hi
   obtain⟨v,h1,h2⟩:=retB_ok hq hi;obtain⟨_,_,hi⟩:=hi;exact⟨hi.defers,v,h1,h2⟩
 ·cases h
end
end Go.Lf
namespace Sp
noncomputable section
def trm(c:Code)(b:Nat):Term:=(List.getD (cB c) b bE).2.1
def ins(c:Code)(b:Nat):List Inst:=(List.getD (cB c) b bE).1
def to0(t:Term):Int:=t.2.2.2.2.2.1.getD 0 0
def to1(t:Term):Int:=t.2.2.2.2.2.1.getD 1 0
def aR(t:Term):List Int:=if t.1=5 then []else if t.1=2/\to0 t≠to1 t then t.2.2.2.2.2.1 else [to0 t]
inductive Rch(c:Code):Nat->Prop
 |zero:Rch c 0
 |step {b:Nat} {t:Int}:Rch c b->b<(cB c).length->t∈aR (trm c b)->Rch c t.toNat
def gI(c:Code)(b:Nat):Bool:=@decide (Rch c b) (Classical.propDecidable _)
def eP(c:Code):List Bool:=(List.range (cB c).length).map (gI c)
structure okT(c:Code):Prop where
 ne:0<(cB c).length
 bd:(cB c).length<=3000
 to:∀b,b<(cB c).length->∀t∈aR (trm c b),0<=t/\t<((cB c).length:Int)
 two:∀b,b<(cB c).length->(trm c b).2.2.2.2.2.1.length=2
def nf(l:List Bool):Nat:=(l.filter (fun x=> !x)).length
structure RI(c:Code)(out:List Bool)(left:List Int):Prop where
 len:out.length=(cB c).length
 lf:∀t∈left,0<=t/\t<((cB c).length:Int)/\out.getD t.toNat false=true
 sd:∀b,out.getD b false=true->Rch c b
 z:out.getD 0 false=true
 cl:∀b,out.getD b false=true->(b:Int)∉left->∀t∈aR (trm c b),out.getD t.toNat false=true
 ms:2*nf out+left.length<=2*(cB c).length
structure RJ(c:Code)(b:Int)(M:Nat)(out:List Bool)(left:List Int)(j:Nat):Prop where
 len:out.length=(cB c).length
 lf:∀t∈left,0<=t/\t<((cB c).length:Int)/\out.getD t.toNat false=true
 sd:∀b,out.getD b false=true->Rch c b
 z:out.getD 0 false=true
 bo:0<=b/\b<((cB c).length:Int)/\out.getD b.toNat false=true
 cl:∀b',out.getD b' false=true->(b':Int)∉left->(b':Int)≠b->∀t∈aR (trm c b'),out.getD t.toNat false=true
 cj:∀t∈(aR (trm c b.toNat)).take j,out.getD t.toNat false=true
 jl:j<=(aR (trm c b.toNat)).length
 ms:2*nf out+left.length+1<=M
def sZ(c:Code)(k a:Nat):Nat:=((List.range k).filter (fun b=>gI c b&&decide ((a:Int)∈aR (trm c b)))).length
def frN(c:Code)(k:Nat):List Int:=(List.range (cB c).length).map fun a=>(sZ c k a:Int)
def frM(c:Code)(k j:Nat):List Int:=(List.range (cB c).length).map fun a=>(sZ c k a:Int)+if(a:Int)∈(aR (trm c k)).take j then 1 else 0
def frL(c:Code):List Int:=frN c (cB c).length
def gA(i:Inst):Bool:=decide (1<=i.1/\i.1<=6)
def qH(p:Inst->Bool)(l:List Inst):Int:=match l.findIdx? p with
 |some i=>i
 |none=> -1
def pN(w:Wk)(b a:Int):Bool:=decide (a≠b)&&(decide (a≠0)&&(decide (w.2.2.1.getD a.toNat 0=1)&&(decide ((ins w.1 a.toNat).length<=8)&&(decide ((trm w.1 a.toNat).1=1)&& !((ins w.1 a.toNat).any fun i=> !gA i)))))
def gX(w:Wk)(b a:Int):Int:=if pN w b a then to0 (trm w.1 a.toNat)else a
def d5(w:Wk)(b a:Int):Int:=if pN w b a then a else-1
def rF(w:Wk)(b:Int):List Int×Int×Bool×Unit:=
 let t:=trm w.1 b.toNat
 if w.2.1.getD b.toNat false=false∨t.1≠2∨to0 t=to1 t then([0,0],0,false,())
 else if d5 w b (to0 t)<0/\d5 w b (to1 t)<0 then([d5 w b (to0 t),d5 w b (to1 t)],0,false,())
 else if gX w b (to0 t)≠gX w b (to1 t)then([d5 w b (to0 t),d5 w b (to1 t)],0,false,())
 else([d5 w b (to0 t),d5 w b (to1 t)],gX w b (to0 t),decide (gX w b (to0 t)≠b),())
def gF(l:List Block):Int:=(((l.map fun b=>b.1.length).sum:Nat):Int)
end
end Sp
namespace Go.User
noncomputable section
open Go.Lf
abbrev mCW:Md:= .pair .shr (.pair .shr (.pair .shr (.pair .shr (.pair .shr (.pair .shr (.pair .shr (.pair (.own .shr) .shr)))))))
abbrev mWk:Md:= .pair mCW (.pair .shr (.pair (.own .shr) .shr))
def S87:bD:={args:=[.val oV],multi:=false,res:= .slice tI,mode:= .shr,pre:=fun x=>x.1.2.2.2.2.2.1.length=2,fn:=fun x=>Sp.aR x.1}
def S85:bD:={args:=[.val bF],multi:=false,res:= .slice .bool,mode:= .shr,pre:=fun x=>Sp.okT x.1,fn:=fun x=>Sp.eP x.1}
def C85:Ctx:={mkC 55 [(87,S87)]with mds:=[(11,.own .shr),(3,.own .shr),(14,.own .shr),(4,.own .shr)],cuts:=[28]}
def T85(x:aH S85.args):KT:=
 .s (.i []) (.s (.i []) (.s (.i []) (.s (.s (.i []) (.b (.l
  {ι:=List Bool×List Int,inv:=fun t=>Sp.RI x.1 t.1 t.2,dec:=fun t=>2*Sp.nf t.1+List.length t.2,ovr:=fun t=>[(3,.own (.slice .bool) (.own .shr) t.1),(4,.own (.slice tI) (.own .shr) t.2)],keep:=[1]}
  (fun t=> .s (.i []) (.b (.s (.i []) (.s (.i []) (.s (.i []) (.i [
   {ι:=List Bool×List Int×Nat,inv:=fun u=>Sp.RJ x.1 (t.2.getD (List.length t.2-1) 0) (2*Sp.nf t.1+List.length t.2) u.1 u.2.1 u.2.2,dec:=fun u=>List.length (Sp.aR (Sp.trm x.1 (t.2.getD (List.length t.2-1) 0).toNat))-u.2.2,
    ovr:=fun u=>[(3,.own (.slice .bool) (.own .shr) u.1),(4,.own (.slice tI) (.own .shr) u.2.1),(37,.shr tI (u.2.2:Int))],keep:=[1,35,36]}]))))))))) (.i []))))
def S52:bD:={args:=[.val tI],multi:=false,res:=aM,mode:= .shr,pre:=fun _=>True,fn:=fun x=>Sp.bK x.1}
def C52:Ctx:=mkC 5 []
def L52(x:aH S52.args):List aW:=[]
def S53:bD:={args:=[.val (.slice aC)],multi:=false,res:= .slice aC,mode:= .own .shr,pre:=fun x=>List.length x.1<=5000,fn:=fun x=>x.1}
def C53:Ctx:=mkC 8 []
def L53(x:aH S53.args):List aW:=[]
def S99:bD:={args:=[.val aC],multi:=false,res:= .bool,mode:= .shr,pre:=fun _=>True,fn:=fun x=>Sp.gA x.1}
def C99:Ctx:=mkC 12 []
def L99(x:aH S99.args):List aW:=[]
def S98:bD:={args:=[.val aC],multi:=false,res:= .bool,mode:= .shr,pre:=fun _=>True,fn:=fun x=> !Sp.gA x.1}
def C98:Ctx:=mkC 6 [(99,S99)]
def L98(x:aH S98.args):List aW:=[]
def S75:bD:={args:=[.val (.slice aC),.fn [aC] .bool],multi:=false,res:=tI,mode:= .shr,pre:=fun x=>∀e,x.2.1.pre (e,()),fn:=fun x=>Sp.qH (fun e=>x.2.1.fn (e,())) x.1}
def C75:Ctx:=mkC 19 []
def L75(x:aH S75.args):List aW:=[
 {ι:=Nat,inv:=fun i=>i<=List.length x.1/\∀e∈List.take i x.1,x.2.1.fn (e,())=false,dec:=fun i=>List.length x.1-i,ovr:=fun i=>[(8,.shr tI (i:Int))],keep:=[0,1,7]}]
def S35:bD:={args:=[.val (.slice aC),.fn [aC] .bool],multi:=false,res:= .bool,mode:= .shr,pre:=fun x=>∀e,x.2.1.pre (e,()),fn:=fun x=>List.any x.1 (fun e=>x.2.1.fn (e,()))}
def C35:Ctx:=mkC 9 [(75,S75)]
def L35(x:aH S35.args):List aW:=[]
def S50:jA:={args:=[.val bF],τ:=tWk,m:=mWk,pre:=fun x=>Sp.okT x.1,fn:=fun x=>(x.1,Sp.eP x.1,Sp.frL x.1,())}
def C50:Ctx:={mkC 59 [(85,S85),(86,S86),(87,S87)]with mds:=[(14,.own .shr),(15,.pair .shr (.pair .shr (.pair (.own .shr) .shr))),(16,.pair .shr (.pair .shr (.pair (.own .shr) .shr))),(20,.own .shr)]}
def T50(x:aH S50.args):KT:=
 .s (.i []) (.s (.i []) (.s (.i []) (.s (.s (.i []) (.b (.l
  {ι:=Nat,inv:=fun k=>k<=List.length (Sp.cB x.1),dec:=fun k=>List.length (Sp.cB x.1)-k,ovr:=fun k=>[(16,.box tWk mWk (x.1,Sp.eP x.1,Sp.frN x.1 k,())),(3,.addr 16 []),(29,.shr tI (k:Int))],keep:=[1,27,28]}
  (fun k=> .s (.i []) (.s (.i []) (.s (.b (.i [
   {ι:=Nat,inv:=fun j=>j<=List.length (Sp.aR (Sp.trm x.1 k)),dec:=fun j=>List.length (Sp.aR (Sp.trm x.1 k))-j,ovr:=fun j=>[(16,.box tWk mWk (x.1,Sp.eP x.1,Sp.frM x.1 k j,())),(3,.addr 16 []),(43,.shr tI (j:Int))],keep:=[1,27,28,29,41,42]}])) (.i []))))))) (.i []))))
end
end Go.User
namespace Sp
theorem kB{α:Type}(l:List α)(i j:Nat)(v d:α)(h:i<l.length):(l.set i v).getD j d=if i=j then v else l.getD j d:=by
 rw[List.getD_eq_getElem?_getD,List.getElem?_set]
 by_cases e:i=j
 ·subst e;rw[if_pos rfl,if_pos h,if_pos rfl];rfl
 ·rw[if_neg e,if_neg e,<-List.getD_eq_getElem?_getD]
theorem gat{α:Type}{l:List α}{i:Nat}(h:i<l.length)(d:α):l.getD i d=l[i]:=by rw[List.getD_eq_getElem?_getD,List.getElem?_eq_getElem h];rfl
theorem sV{α:Type}(d:α){a b:List α}(hl:a.length=b.length)(h:∀i,i<a.length->a.getD i d=b.getD i d):a=b:=by
 refine List.ext_getElem hl fun i h1 h2=> ?_
 have:=h i h1
 rwa [gat h1,gat h2]at this
theorem oU{α:Type}(n:Nat)(f:Nat->α)(d:α){i:Nat}(h:i<n):((List.range n).map f).getD i d=f i:=by
 rw[gat (by simpa using h)];simp
theorem nf_set{l:List Bool}:∀ {i:Nat},i<l.length->l.getD i false=false->nf (l.set i true)+1=nf l:=by
 induction l with
 |nil=>intro i h;cases h
 |cons a l ih=>
  intro i h hf;cases i with
  |zero=>
   have hf:a=false:=hf
   subst hf;show nf (true::l)+1=nf (false::l);unfold nf
   simp
  |succ i=>
   have:=ih (i:=i) (by simpa using h) hf
   show nf (a::l.set i true)+1=nf (a::l)
   unfold nf at *;cases a<;>simp at * <;>omega
theorem nf_rep(n:Nat):nf (List.replicate n false)=n:=by unfold nf;simp
theorem take_last{l:List Int}(h:0<l.length):l=l.take (l.length-1)++[l.getD (l.length-1) 0]:=by
 have e:l.drop (l.length-1)=[l.getD (l.length-1) 0]:=by
  rw[List.drop_eq_getElem_cons (by omega),gat (by omega),List.drop_eq_nil_of_le (by omega)]
 rw[<-e,List.take_append_drop]
theorem nU(n i:Nat):(List.replicate n false).getD i false=false:=by
 rw[List.getD_eq_getElem?_getD]
 rcases Nat.lt_or_ge i n with h|h
 ·rw[List.getElem?_eq_getElem (by simpa using h)];simp
 ·rw[List.getElem?_eq_none (by simpa using h)];rfl
theorem RI.start{c:Code}(h:okT c):RI c ((List.replicate (cB c).length false).set 0 true) [0]:=by
 have hz:((List.replicate (cB c).length false).set 0 true).getD 0 false=true:=by rw[kB _ _ _ _ _ (by simpa using h.ne),if_pos rfl]
 have hb:∀b,((List.replicate (cB c).length false).set 0 true).getD b false=true->b=0:=by
  intro b hb;rw[kB _ _ _ _ _ (by simpa using h.ne)]at hb;split at hb
  ·omega
  ·rw[nU]at hb;cases hb
 refine⟨by simp,fun t ht=> ?_,fun b hb2=> ?_,hz,fun b hb2 hn=> ?_,?_⟩
 ·have:t=0:=by simpa using ht
  subst this;exact⟨by omega,by have:=h.ne;omega,hz⟩
 ·rw[hb b hb2];exact .zero
 ·exfalso;exact hn (by rw[hb b hb2];simp)
 ·have:=nf_set (l:=List.replicate (cB c).length false) (i:=0) (by simpa using h.ne) (nU _ _)
  rw[nf_rep]at this;simp only[List.length_cons,List.length_nil];omega
theorem RJ.start{c:Code}(h:okT c){out:List Bool}{left:List Int}(hr:RI c out left)(hl:0<left.length):
  RJ c (left.getD (left.length-1) 0) (2*nf out+left.length) out (left.take (left.length-1)) 0:=by
 have hm:=take_last hl
 have hb:left.getD (left.length-1) 0∈left:=by rw[gat (by omega)];exact List.getElem_mem _
 refine⟨hr.len,fun t ht=>hr.lf t (List.mem_of_mem_take ht),hr.sd,hr.z,hr.lf _ hb,fun b' h1 h2 h3=>hr.cl b' h1 fun h4=> ?_,fun t ht=>by simp at ht,Nat.zero_le _,?_⟩
 ·rw[hm,List.mem_append,List.mem_singleton]at h4
  rcases h4 with h4|h4
  ·exact h2 h4
  ·exact h3 h4
 ·rw[List.length_take];omega
theorem xL{c:Code}(h:okT c){b:Int}(hb:0<=b/\b<((cB c).length:Int)){j:Nat}(hj:j<(aR (trm c b.toNat)).length):
  (aR (trm c b.toNat)).getD j 0∈aR (trm c b.toNat)/\0<=(aR (trm c b.toNat)).getD j 0/\(aR (trm c b.toNat)).getD j 0<((cB c).length:Int):=by
 have hm:(aR (trm c b.toNat)).getD j 0∈aR (trm c b.toNat):=by rw[gat hj];exact List.getElem_mem _
 exact⟨hm,h.to _ (by omega) _ hm⟩
theorem jN{l:List Int}{j:Nat}(h:j<l.length):l.take (j+1)=l.take j++[l.getD j 0]:=by rw[List.take_succ_eq_append_getElem h,gat h]
theorem RJ.push{c:Code}(h:okT c){b:Int}{M:Nat}{out:List Bool}{left:List Int}{j:Nat}(hr:RJ c b M out left j)(hj:j<(aR (trm c b.toNat)).length)
  (hf:out.getD ((aR (trm c b.toNat)).getD j 0).toNat false=false):
  RJ c b M (out.set ((aR (trm c b.toNat)).getD j 0).toNat true) (left++[(aR (trm c b.toNat)).getD j 0]) (j+1):=by
 obtain⟨m1,m2,m3⟩:=xL h ⟨hr.bo.1,hr.bo.2.1⟩ hj
 have htake:=jN hj
 generalize (aR (trm c b.toNat)).getD j 0=t at *
 have htl:t.toNat<out.length:=by rw[hr.len];omega
 have hmono:∀k,out.getD k false=true->(out.set t.toNat true).getD k false=true:=fun k hk=>by
  rw[kB _ _ _ _ _ htl];split
  ·rfl
  ·exact hk
 have hinv:∀k,(out.set t.toNat true).getD k false=true->k=t.toNat∨out.getD k false=true:=fun k hk=>by
  rw[kB _ _ _ _ _ htl]at hk;split at hk
  ·rename_i e;exact .inl e.symm
  ·exact .inr hk
 have ht:(out.set t.toNat true).getD t.toNat false=true:=by rw[kB _ _ _ _ _ htl,if_pos rfl]
 refine⟨by rw[List.length_set];exact hr.len,fun x hx=> ?_,fun k hk=> ?_,hmono 0 hr.z,⟨hr.bo.1,hr.bo.2.1,hmono _ hr.bo.2.2⟩,fun k h1 h2 h3 x hx=> ?_,fun x hx=> ?_,by omega,?_⟩
 ·rw[List.mem_append,List.mem_singleton]at hx
  rcases hx with hx|hx
  ·have:=hr.lf x hx
   exact⟨this.1,this.2.1,hmono _ this.2.2⟩
  ·subst hx;exact⟨m2,m3,ht⟩
 ·rcases hinv k hk with e|e
  ·subst e
   exact .step (hr.sd _ hr.bo.2.2) (by have:=hr.bo;omega) m1
  ·exact hr.sd k e
 ·rcases hinv k h1 with e|e
  ·exfalso
   refine h2 ?_
   rw[List.mem_append,List.mem_singleton];right;subst e;omega
  ·exact hmono _ (hr.cl k e (fun q=>h2 (List.mem_append_left _ q)) h3 x hx)
 ·rw[htake,List.mem_append,List.mem_singleton]at hx
  rcases hx with hx|hx
  ·exact hmono _ (hr.cj x hx)
  ·subst hx;exact ht
 ·have:=nf_set htl hf
  have:=hr.ms
  rw[List.length_append,List.length_singleton];omega
theorem RJ.skip{c:Code}{b:Int}{M:Nat}{out:List Bool}{left:List Int}{j:Nat}(hr:RJ c b M out left j)(hj:j<(aR (trm c b.toNat)).length)
  (hf:out.getD ((aR (trm c b.toNat)).getD j 0).toNat false=true):RJ c b M out left (j+1):=by
 refine⟨hr.len,hr.lf,hr.sd,hr.z,hr.bo,hr.cl,fun x hx=> ?_,by omega,hr.ms⟩
 rw[jN hj,List.mem_append,List.mem_singleton]at hx
 rcases hx with hx|hx
 ·exact hr.cj x hx
 ·subst hx;exact hf
theorem RJ.fin{c:Code}{b:Int}{M:Nat}{out:List Bool}{left:List Int}{j:Nat}(hr:RJ c b M out left j)(hj:(aR (trm c b.toNat)).length<=j)(hM:M<=2*(cB c).length):RI c out left:=by
 refine⟨hr.len,hr.lf,hr.sd,hr.z,fun k h1 h2 x hx=> ?_,by have:=hr.ms;omega⟩
 by_cases e:(k:Int)=b
 ·refine hr.cj x ?_
  rw[List.take_of_length_le hj,<-e]
  simpa using hx
 ·exact hr.cl k h1 h2 e x hx
theorem RI.fin{c:Code}(h:okT c){out:List Bool}{left:List Int}(hr:RI c out left)(hl:left.length=0):out=eP c:=by
 have hnil:left=[]:=List.eq_nil_of_length_eq_zero hl
 subst hnil
 have hall:∀k,Rch c k->out.getD k false=true:=by
  intro k hk
  induction hk with
  |zero=>exact hr.z
  |step _ _ ht ih=>exact hr.cl _ ih (by simp) _ ht
 refine sV false (by rw[hr.len];simp[eP]) fun i hi=> ?_
 rw[eP,oU _ _ _ (by rw[<-hr.len];exact hi)]
 unfold gI
 by_cases e:Rch c i
 ·rw[hall i e];exact(@decide_eq_true _ (Classical.propDecidable _) e).symm
 ·rw[@decide_eq_false _ (Classical.propDecidable _) e]
  cases hq:out.getD i false
  ·rfl
  ·exact absurd (hr.sd i hq) e
theorem jV(c:Code):(eP c).length=(cB c).length:=by simp[eP]
theorem kF(c:Code){b:Nat}(h:b<(cB c).length):(eP c).getD b false=gI c b:=oU _ _ _ h
theorem lR{t:Term}(h:t.2.2.2.2.2.1.length=2):(aR t).Nodup/\(aR t).length<=2:=by
 unfold aR
 split
 ·exact⟨List.nodup_nil,by simp⟩
 ·split
  ·rename_i h2
   obtain⟨_,h2⟩:=h2;unfold to0 to1 at h2;generalize t.2.2.2.2.2.1=l at *;obtain⟨a,b,rfl⟩:∃a b,l=[a,b]:=by
    rcases l with _|⟨a,_|⟨b,_|⟨c,r⟩⟩⟩<;>simp at h
    exact⟨a,b,rfl⟩
   have h2:a≠b:=h2
   refine⟨by simp[h2],by simp⟩
  ·exact⟨by simp,by simp⟩
theorem kL(c:Code)(k:Nat):(frN c k).length=(cB c).length:=by simp[frN]
theorem jL(c:Code)(k j:Nat):(frM c k j).length=(cB c).length:=by simp[frM]
theorem frN_zero(c:Code):frN c 0=List.replicate (cB c).length 0:=by
 refine sV 0 (by rw[kL];simp) fun i hi=> ?_
 rw[kL]at hi
 rw[frN,oU _ _ _ hi,gat (by simpa using hi)]
 simp[sZ]
theorem frM_zero(c:Code)(k:Nat):frM c k 0=frN c k:=by
 refine sV 0 (by rw[jL,kL]) fun i hi=> ?_
 rw[jL]at hi
 rw[frN,frM,oU _ _ _ hi,oU _ _ _ hi]
 simp
theorem cnt_succ(c:Code)(k a:Nat):sZ c (k+1) a=sZ c k a+if gI c k=true/\(a:Int)∈aR (trm c k)then 1 else 0:=by
 unfold sZ
 rw[List.range_succ,List.filter_append,List.length_append]
 congr 1
 by_cases h1:gI c k=true
 ·by_cases h2:(a:Int)∈aR (trm c k)
  ·simp[h1,h2]
  ·simp[h1,h2]
 ·simp[h1]
theorem frM_end(c:Code)(k j:Nat)(hk:gI c k=true)(hj:(aR (trm c k)).length<=j):frM c k j=frN c (k+1):=by
 refine sV 0 (by rw[jL,kL]) fun i hi=> ?_
 rw[jL]at hi
 rw[frN,frM,oU _ _ _ hi,oU _ _ _ hi,cnt_succ,List.take_of_length_le hj]
 by_cases h2:(i:Int)∈aR (trm c k)
 ·rw[if_pos h2,if_pos ⟨hk,h2⟩];simp
 ·rw[if_neg h2,if_neg (fun h=>h2 h.2)];simp
theorem frN_skip(c:Code)(k:Nat)(hk:gI c k=false):frN c k=frN c (k+1):=by
 refine sV 0 (by rw[kL,kL]) fun i hi=> ?_
 rw[kL]at hi
 rw[frN,frN,oU _ _ _ hi,oU _ _ _ hi,cnt_succ,if_neg (fun h=>by rw[hk]at h;exact absurd h.1 (by simp))]
 simp
theorem cnt_le(c:Code)(k a:Nat):sZ c k a<=k:=by
 unfold sZ
 exact Nat.le_trans (List.length_filter_le _ _) (by simp)
theorem frM_step{c:Code}(h:okT c){k j:Nat}(hk:k<(cB c).length)(hj:j<(aR (trm c k)).length):
  (frM c k j).set ((aR (trm c k)).getD j 0).toNat ((frM c k j).getD ((aR (trm c k)).getD j 0).toNat 0+1)=frM c k (j+1):=by
 have hnd:=(lR (h.two k hk)).1
 have hm:(aR (trm c k)).getD j 0∈aR (trm c k):=by rw[gat hj];exact List.getElem_mem _
 have hb:=h.to k hk _ hm
 have hnt:(aR (trm c k)).getD j 0∉(aR (trm c k)).take j:=by
  intro hc;have h3:=jN hj;have h4:((aR (trm c k)).take (j+1)).Nodup:=hnd.sublist (List.take_sublist _ _);rw[h3,List.nodup_append]at h4;exact h4.2.2 _ hc _ (by simp) rfl
 have htake:=jN hj
 generalize (aR (trm c k)).getD j 0=t at *
 refine sV 0 (by rw[List.length_set,jL,jL]) fun i hi=> ?_
 rw[List.length_set,jL]at hi
 rw[kB _ _ _ _ _ (by rw[jL];omega)]
 have e0:∀q,q<(cB c).length->(frM c k j).getD q 0=(sZ c k q:Int)+if(q:Int)∈(aR (trm c k)).take j then 1 else 0:=fun q hq=>by rw[frM,oU _ _ _ hq]
 rw[show (frM c k (j+1)).getD i 0=(sZ c k i:Int)+if(i:Int)∈(aR (trm c k)).take (j+1)then 1 else 0 by rw[frM,oU _ _ _ hi]]
 rw[htake]
 by_cases e:t.toNat=i
 ·rw[if_pos e,e,e0 i hi]
  have e1:(i:Int)=t:=by omega
  rw[e1,if_neg hnt,if_pos (by simp)];omega
 ·rw[if_neg e,e0 i hi]
  have e1:(i:Int)≠t:=by omega
  have:((i:Int)∈(aR (trm c k)).take j++[t])↔(i:Int)∈(aR (trm c k)).take j:=by simp[e1]
  by_cases e2:(i:Int)∈(aR (trm c k)).take j
  ·rw[if_pos e2,if_pos (this.2 e2)]
  ·rw[if_neg e2,if_neg (fun q=>e2 (this.1 q))]
theorem findX_at{l:List Inst}{p:Inst->Bool}{i:Nat}{d:Inst}(h:∀e∈l.take i,p e=false)(hi:i<l.length)(hp:p (l.getD i d)=true):(i:Int)=qH p l:=by
 rw[gat hi]at hp
 unfold qH
 have:l.findIdx? p=some i:=by
  rw[List.findIdx?_eq_some_iff_getElem];refine⟨hi,hp,fun j hj=> ?_⟩
  have:=h l[j] (List.mem_take_iff_getElem.2 ⟨j,by omega,rfl⟩)
  rw[this];simp
 rw[this]
theorem findX_none{l:List Inst}{p:Inst->Bool}(h:∀e∈l,p e=false):(-1:Int)=qH p l:=by
 unfold qH
 have:l.findIdx? p=none:=by rw[List.findIdx?_eq_none_iff];exact h
 rw[this]
theorem findX_any(l:List Inst)(p:Inst->Bool):decide (0<=qH p l)=l.any p:=by
 unfold qH
 cases h:l.findIdx? p with
 |none=>
  rw[List.findIdx?_eq_none_iff]at h;have:l.any p=false:=by rw[List.any_eq_false];intro y hy;rw[h y hy];simp
  rw[this];rfl
 |some i=>
  rw[List.findIdx?_eq_some_iff_getElem]at h;obtain⟨hi,hp,_⟩:=h;have:l.any p=true:=List.any_eq_true.2 ⟨_,List.getElem_mem hi,hp⟩;rw[this]
  simp
theorem all_take{l:List Inst}{p:Inst->Bool}{i:Nat}{d:Inst}(h:∀e∈l.take i,p e=false)(hi:i<l.length)(hp:p (l.getD i d)=false):∀e∈l.take (i+1),p e=false:=by
 rw[List.take_succ_eq_append_getElem hi]
 intro e he
 rw[List.mem_append,List.mem_singleton]at he
 rcases he with he|he
 ·exact h e he
 ·subst he;rwa [gat hi]at hp
end Sp
