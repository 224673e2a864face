/- Codes and orders that are equal; registers; what an instruction accesses. -/
import Derived.Test.YtagdgckmikcllaaLfj
set_option linter.unusedVariables false
set_option linter.unusedSimpArgs false
namespace Go.User
open Go.Proofs Go.Lf
set_option maxRecDepth 100000
theorem vc23:(oZ C23 (stpN numsO C23) S23 T23 Try.f23)=(
let q0:=True/\True/\True;
let q1:=q0/\True;
let q2:=True/\q0;
let q3:=True/\q2;
let q4:=True/\q3;
let q5:=(10:Nat);
let q6:=q5=q5;
let q7:=([]:List aD)=([]:List aD);
let q8:=True/\q6/\q7;
let q9:=q8/\q8/\True;
let q10:Int:=(0:tI.den);
let q11:Int:=(0:Int);
let q12:Int:=(5000:tI.den);
let q13:=q10<=q11/\q11<=q12;
let q14:Int:=(5:Int);
let q15:=q14≠q11;
let q16:List Sp.Opd×List Sp.Block×Unit:=(([]:List bC.den),([]:List eW.den),());
let q17:Sp.Code:=(q11,q11,q11,q11,q11,([]:List cC.den),q16);
let q18:Int×Sp.Code×Unit:=(q11,q17,());
let q19:Int:=(4:Int);
let q20:Int:=(1:Int);
let q21:Int:=(2:Int);
let q22:Int:=(8:Int);
let q23:Int:=(6:Int);
let q24:List Int:=q19::q20::q21::q22::q23::([]:List tI.den);
let q25:=(12:Nat);
let q26:List aD:=aD.snd::aD.fst::([]:List aD);
let q27:List aD:=aD.snd::q26;
let q28:=True/\q6/\q27=q27;
let q29:Int:=(3:Int);
let q30:=(2:Nat);
let q31:=aB (tI.prod (tI.prod (tI.prod (tI.prod (tI.prod (cC.slice.prod (bC.slice.prod ((aC.slice.prod ((tI.prod (tI.prod (aM.prod (aM.prod (aM.prod ((Ty.arr q30 tI).prod Ty.unit)))))).prod Ty.unit)).slice.prod Ty.unit)))))))) Sp.sL;
let q32:=q29≠q11;
let q33:=q32/\True/\True;
let q34:=(1:Nat);
let q35:=Sp.sL=Sp.sL;
let q36:=(4000:Nat);
let q37:Int:=(0:(AK.val tI).den);
let q38:Int:=(2:(AK.val tI).den);
let q39:=(5000:Nat);
let q40:Sp.Opd:=(q11,q11,q11,());
let q41:List Int:=List.replicate q30 q11;
let q42:Int×Sp.Opd×Sp.Opd×Sp.Opd×List Int×Unit:=(q11,q40,q40,q40,q41,());
let q43:Sp.Block:=(([]:List aC.den),(q11,q42),());
let q44:=(0:Nat);
let q45:List aD:=aD.snd::aD.snd::aD.fst::aD.snd::aD.snd::aD.snd::aD.snd::aD.snd::q27;
let q46:=True/\q6/\q45=q45;
let q47:=q23≠q11;
∀(x:(List Int×Unit)×Unit),
 let q48:Int:=(Sp.nxV (x.1.1,q18)).tmod q14;
 let q49:=inN q48 q24.length;
 let q50:=q49/\True/\True;
 let q51:=q15/\q48=q48;
 let q52:=q48.toNat;
 let q53:List aD:=aD.idx q52::([]:List aD);
 let q54:Int:=q24.getD q52 q11;
 let q55:=q8/\q51/\(q49/\q25=q25/\q53=q53)/\(True/\q54=q54)/\True;
 let q56:=q55/\(True/\q0/\(q8/\q8/\q28/\True)/\(True/\True/\True/\∃(x_1:Unit),True/\q17=Sp.sL/\q7/\(x.1.1,q11+q20,(q54,q20,q23,q11,q29,Sp.mX,q16),())=Sp.md1 x.1.1/\True)/\True)/\True/\True;
 let q57:=q55/\(True/\True/\q56)/\q0;
 let q58:=q8/\q51/\True;
 let q59:Int×Sp.Code×Unit:=(Sp.md2 x.1.1).2;
 let q60:Int:=q59.1;
 let q61:Int×Sp.Code×Unit:=(Sp.md3 x.1.1).2;
 let q62:Int:=q61.1;
 let q63:Sp.Mk:=((Sp.md3 x.1.1).1,q62+q20,q61.2);
 let q64:Int:=(Sp.nxV (Sp.md3 x.1.1)).tmod q29;
 let q65:Sp.Mk:=Sp.q1 (Sp.md3 x.1.1);
 let q66:Int×Sp.Code×Unit:=q65.2;
 let q67:Int:=q66.1;
 let q68:Bool:=(Sp.nxV q65).tmod q29==q11;
 let q69:Sp.Mk:=(q65.1,q67+q20,q66.2);
 let q70:Sp.Mk:=Sp.lpM q69;
 let q71:Sp.Mk:=Sp.fG q70;
 let q72:Int×Sp.Code×Unit:=(Sp.md4 x.1.1).2;
 let q73:Sp.Code×Unit:=q72.2;
 let q74:Sp.Code:=q73.1;
 let q75:Int×Int×Int×Int×List Sp.Arr×List Sp.Opd×List Sp.Block×Unit:=q74.2;
 let q76:Int×Int×Int×List Sp.Arr×List Sp.Opd×List Sp.Block×Unit:=q75.2;
 let q77:Int×Int×List Sp.Arr×List Sp.Opd×List Sp.Block×Unit:=q76.2;
 let q78:Int×List Sp.Arr×List Sp.Opd×List Sp.Block×Unit:=q77.2;
 let q79:List Sp.Arr×List Sp.Opd×List Sp.Block×Unit:=q78.2;
 let q80:List Sp.Opd×List Sp.Block×Unit:=q79.2;
 let q81:List Sp.Block×Unit:=q80.2;
 let q82:List Sp.Block:=q81.1;
 let q83:=q82.length;
 let q84:Int:=(↑q83:Int)-q20;
 let q85:=q84.toNat;
 let q86:Sp.Block:=q82.getD q85 q43;
 True->
 aB (tU8.slice.prod Ty.unit) x.1/\True->
 q1/\
 (q4/\True)/\
 (q0/\q9/\(True/\True/\q9/\(q13/\(q15/\q50)/\q57)/\q2)/\(q13/\(q15/\True)/\q58/\(True/\q50/\q57)/\(True/\True/\q58/\(True/\q50/\q56)/\q0)/\q0)/\q2)/\
 ∀(x_1:Unit),
 True->
 q31/\True/\aB (tU8.slice.prod (tI.prod ((tI.prod (tI.prod (tI.prod (tI.prod (tI.prod (cC.slice.prod (bC.slice.prod ((aC.slice.prod ((tI.prod (tI.prod (aM.prod (aM.prod (aM.prod ((Ty.arr q30 tI).prod Ty.unit)))))).prod Ty.unit)).slice.prod Ty.unit)))))))).prod Ty.unit))) (Sp.md1 x.1.1)/\True->
 (((True/\True)/\(q10<=q20/\q20<=q12)/\q33)/\
 (∃(x_2:Nat×Sp.Mk),(x_2.1<=q30/\Sp.aL q30 x_2.2/\q20<=Sp.gS x_2.2/\Sp.gS x_2.2<=q19/\(q34<=x_2.1->Sp.gS x_2.2<=q21)/\(q30<=x_2.1->Sp.gS x_2.2<=q20)/\Sp.sbN x_2.1 x_2.2=Sp.md2 x.1.1)/\q35/\q7/\(x.1.1,q20+q20,((q19::q20::q21::q22::q23::([]:List Int)).getD ((Sp.nxV (Sp.md0 x.1.1)).tmod (5:Int)).toNat q11,q20,q23,q11,q29,Sp.mX,([]:List Sp.Loop),([]:List Sp.Block),()),())=x_2.2/\(Sp.nxV (Sp.md1 x.1.1)).tmod q29=(↑x_2.1:Int)/\True)/\
 ∀(x_2:Nat×Sp.Mk),
 let q87:Int:=(↑x_2.1:Int);
 let q88:Bool:=decide (q87>q11);
 let q89:=(true&&bif q88 then true else false)=true;
 let q90:=q89->True;
 let q91:Int×Int×Int×Int×List Sp.Arr×List Sp.Opd×List Sp.Block×Unit:=x_2.2.2.2.1.2;
 let q92:Int:=q21*q91.1;
 let q93:=inK IntKind.i64 q92;
 let q94:Int:=x_2.2.2.2.1.1;
 let q95:Bool:=bif q88 then q94.tmod q92==q11 else false;
 let q96:Int:=q87-q20;
 x_2.1<=q30/\Sp.aL q30 x_2.2/\q20<=Sp.gS x_2.2/\Sp.gS x_2.2<=q19/\(q34<=x_2.1->Sp.gS x_2.2<=q21)/\(q30<=x_2.1->Sp.gS x_2.2<=q20)/\Sp.sbN x_2.1 x_2.2=Sp.md2 x.1.1->q31/\True/\aB (tU8.slice.prod (tI.prod ((tI.prod (tI.prod (tI.prod (tI.prod (tI.prod (cC.slice.prod (bC.slice.prod ((aC.slice.prod ((tI.prod (tI.prod (aM.prod (aM.prod (aM.prod ((Ty.arr q30 tI).prod Ty.unit)))))).prod Ty.unit)).slice.prod Ty.unit)))))))).prod Ty.unit))) x_2.2/\aB tI q87/\True->((True/\True/\True/\q90/\q90/\q90/\q90/\q90/\q90/\q90/\q90/\q90/\q90/\(q89->q93)/\(q89->q92≠q11)/\q90/\True/\True)/\True)/\(q95=true->((True/\True/\True/\True/\True/\True/\q93/\q2)/\True/\True)/\((True/\inK IntKind.i64 q96/\True/\True)/\True)/\∃(y:Nat×Sp.Mk),(y.1<=q30/\Sp.aL q30 y.2/\q20<=Sp.gS y.2/\Sp.gS y.2<=q19/\(q34<=y.1->Sp.gS y.2<=q21)/\(q30<=y.1->Sp.gS y.2<=q20)/\Sp.sbN y.1 y.2=Sp.md2 x.1.1)/\y.1<x_2.1/\q35/\q7/\(x_2.2.1,x_2.2.2.1,(q94,q92,q91.2),x_2.2.2.2.2)=y.2/\q96=(↑y.1:Int)/\True)/\(q95=false->∃(x_3:Unit),True/\q35/\q7/\x_2.2=Sp.md2 x.1.1/\True))/\
 ∀(x_2:Unit),
 True->
 q31/\True/\aB (tU8.slice.prod (tI.prod ((tI.prod (tI.prod (tI.prod (tI.prod (tI.prod (cC.slice.prod (bC.slice.prod ((aC.slice.prod ((tI.prod (tI.prod (aM.prod (aM.prod (aM.prod ((Ty.arr q30 tI).prod Ty.unit)))))).prod Ty.unit)).slice.prod Ty.unit)))))))).prod Ty.unit))) (Sp.md2 x.1.1)/\True->
 (((True/\True)/\(q10<=q60/\q60<=q12)/\q33)/\
 (∃(x_3:Nat×Sp.Mk),(x_3.1<=q30/\Sp.aL ((700:Nat)-(310:Nat)*x_3.1) x_3.2/\Sp.mdN x_3.1 x_3.2=Sp.md3 x.1.1)/\q35/\q7/\((Sp.md2 x.1.1).1,q60+q20,q59.2)=x_3.2/\(Sp.nxV (Sp.md2 x.1.1)).tmod q29=(↑x_3.1:Int)/\True)/\
 ∀(x_3:Nat×Sp.Mk),
 let q97:Int:=(↑x_3.1:Int);
 let q98:=aB tI q97;
 let q99:=q98/\True;
 let q100:Bool:=decide (q97>q11);
 let q101:Sp.Mk:=(x_3.2.1,x_3.2.2.1+q20,x_3.2.2.2);
 let q102:Int:=(Sp.nxV x_3.2).tmod q29;
 let q103:=q97=q97;
 let q104:=q103/\True;
 let q105:Int:=(Sp.q1 x_3.2).2.1;
 let q106:Bool:=(Sp.nxV (Sp.q1 x_3.2)).tmod q29==q11;
 let q107:Sp.Mk:=((Sp.q1 x_3.2).1,q105+q20,(Sp.q1 x_3.2).2.2);
 let q108:Sp.Mk:=Sp.lpM q107;
 let q109:Sp.Mk:=Sp.q2 (Sp.q1 x_3.2);
 let q110:=aB (tU8.slice.prod (tI.prod ((tI.prod (tI.prod (tI.prod (tI.prod (tI.prod (cC.slice.prod (bC.slice.prod ((aC.slice.prod ((tI.prod (tI.prod (aM.prod (aM.prod (aM.prod ((Ty.arr q30 tI).prod Ty.unit)))))).prod Ty.unit)).slice.prod Ty.unit)))))))).prod Ty.unit))) q109;
 let q111:Int×Sp.Code×Unit:=q109.2;
 let q112:Sp.Code×Unit:=q111.2;
 let q113:Sp.Code:=q112.1;
 let q114:Int×Int×Int×Int×List Sp.Arr×List Sp.Opd×List Sp.Block×Unit:=q113.2;
 let q115:Int×Int×Int×List Sp.Arr×List Sp.Opd×List Sp.Block×Unit:=q114.2;
 let q116:Int×Int×List Sp.Arr×List Sp.Opd×List Sp.Block×Unit:=q115.2;
 let q117:Int×List Sp.Arr×List Sp.Opd×List Sp.Block×Unit:=q116.2;
 let q118:List Sp.Arr×List Sp.Opd×List Sp.Block×Unit:=q117.2;
 let q119:List Sp.Opd×List Sp.Block×Unit:=q118.2;
 let q120:List Sp.Block×Unit:=q119.2;
 let q121:List Sp.Block:=q120.1;
 let q122:=q121.length;
 let q123:Int:=(↑q122:Int)-q20;
 let q124:Int:=Sp.nB q109-q20;
 let q125:=q98/\aB tI q124/\True;
 let q126:Int:=q124+q20;
 let q127:=inK IntKind.i64 q126;
 let q128:List Int:=q109.1;
 let q129:Int:=q111.1;
 let q130:Int:=q113.1;
 let q131:Int:=q114.1;
 let q132:Int:=q115.1;
 let q133:Int:=q116.1;
 let q134:Int:=q117.1;
 let q135:List Sp.Arr:=q118.1;
 let q136:List Sp.Opd:=q119.1;
 let q137:=q124.toNat;
 let q138:Sp.Block:=q121.getD q137 q43;
 let q139:List Int×Unit:=((q41.set q44 q126).set q34 q11,());
 let q140:Sp.Mk:=Sp.q3 q109;
 let q141:=q124=q124;
 let q142:Bool:=(Sp.nxV q140).tmod q29==q11;
 let q143:=True/\q141;
 let q144:=q127/\q126=q126;
 let q145:Int:=q129+q20;
 let q146:=q10<=q145/\q145<=q12;
 let q147:List Sp.Block:=Sp.qW (Sp.cB q113) q124 (Sp.tJ q29 q126 q11);
 let q148:Sp.Code×Unit:=(Sp.nG q113 q147,());
 let q149:Sp.Mk:=(q128,q145,q148);
 let q150:Int:=(Sp.nxV q149).tmod q23;
 let q151:Int:=q20+q150;
 let q152:=inK IntKind.i64 q151;
 let q153:=q47/\q152/\True;
 let q154:=(q47/\q150=q150)/\(q152/\q151=q151)/\True;
 let q155:=q143/\q144/\q154;
 let q156:=q8/\q155;
 let q157:=q8/\q156;
 let q158:Int:=q145+q20;
 let q159:Sp.Mk:=(q128,q158,q148);
 let q160:=Sp.aL q39 q159;
 let q161:Int:=q158+q20;
 let q162:Sp.Mk:=(q128,q161,q148);
 let q163:=Sp.aL q39 q162;
 let q164:Int:=q161+q20;
 let q165:Sp.Mk:=(q128,q164,q148);
 let q166:=Sp.aL q39 q165;
 let q167:=inN q124 q147.length;
 let q168:List aD:=aD.snd::aD.snd::aD.fst::aD.snd::aD.snd::aD.snd::aD.snd::aD.snd::aD.snd::aD.snd::aD.fst::aD.idx q137::([]:List aD);
 let q169:List aD:=aD.snd::aD.snd::aD.fst::aD.snd::aD.snd::aD.snd::aD.snd::aD.snd::aD.snd::aD.snd::aD.fst::aD.idx q137::q26;
 let q170:Sp.Block:=q147.getD q137 q43;
 let q171:=True/\(q8/\q8/\q28/\q46/\q46/\q143/\q154)/\(True/\(q167/\True/\True)/\(q8/\q8/\q28/\q46/\q46/\q143/\(q167/\q6/\q168=q168)/\(True/\q6/\q169=q169)/\True)/\(True/\True/\True/\∃(x:Unit),True/\q35/\q7/\(q128,q164+q20,(q130,q131,q132,q133,q134,q135,q136,q147.set q137 (q170.1,(q19,q151,Sp.d7 q159,Sp.eL q162,Sp.eL q165,q139),q170.2.2),()),())=Sp.mdS x_3.2/\q104)/\True)/\True/\True;
 let q172:=q8/\q154;
 let q173:=True/\(q8/\q8/\q28/\q46/\q46/\q143/\q172)/\(q166/\q171)/\q0;
 let q174:=q8/\q172;
 let q175:=True/\(q8/\q8/\q28/\q46/\q46/\q143/\q174)/\(q163/\q173)/\q2;
 let q176:=(q8/\q8/\q28/\q46/\q46/\q143/\q8/\q174)/\(q160/\q175)/\q3;
 let q177:Int:=q97-q20;
 x_3.1<=q30/\Sp.aL ((700:Nat)-(310:Nat)*x_3.1) x_3.2/\Sp.mdN x_3.1 x_3.2=Sp.md3 x.1.1->q31/\True/\aB (tU8.slice.prod (tI.prod ((tI.prod (tI.prod (tI.prod (tI.prod (tI.prod (cC.slice.prod (bC.slice.prod ((aC.slice.prod ((tI.prod (tI.prod (aM.prod (aM.prod (aM.prod ((Ty.arr q30 tI).prod Ty.unit)))))).prod Ty.unit)).slice.prod Ty.unit)))))))).prod Ty.unit))) x_3.2/\q99->q1/\(q100=true->(((q0/\(q10<=x_3.2.2.1/\x_3.2.2.1<=q12)/\q32/\(Sp.aL q36 q101/\q37<=q102/\q102<=q38)/\True)/\∃(x:Unit),True/\q35/\q7/\Sp.rgM q101 q102=Sp.q1 x_3.2/\q104)/\∀(x:Unit),True->q31/\True/\aB (tU8.slice.prod (tI.prod ((tI.prod (tI.prod (tI.prod (tI.prod (tI.prod (cC.slice.prod (bC.slice.prod ((aC.slice.prod ((tI.prod (tI.prod (aM.prod (aM.prod (aM.prod ((Ty.arr q30 tI).prod Ty.unit)))))).prod Ty.unit)).slice.prod Ty.unit)))))))).prod Ty.unit))) (Sp.q1 x_3.2)/\q99->(((True/\True)/\(q10<=q105/\q105<=q12)/\q33)/\(q106=true->((True/\True)/\(Sp.aL q36 q107/\Sp.has q107)/\True)/\((True/\True)/\Sp.aL q39 q108/\True)/\∃(x:Unit),True/\q35/\q7/\Sp.fG q108=q109/\q104)/\(q106=false->∃(x:Unit),True/\q35/\q7/\q107=q109/\q104))/\∀(x:Unit),True->q31/\True/\q110/\q99->(((True/\True/\True/\True/\True/\True/\inK IntKind.i64 q123/\True/\True)/\True)/\∃(x:Unit),True/\q35/\q7/\q109=q109/\q103/\q123=q124/\True)/\∀(x:Unit),True->q31/\True/\q110/\q125->(((True/\True/\True/\True/\True/\True/\True/\q127/\True/\True/\inN q124 q122/\True/\True)/\True/\True)/\∃(x:Unit),True/\q35/\q7/\(q128,q129,(q130,q131,q132,q133,q134,q135,q136,q121.set q137 (q138.1,(q29,q11,q40,q40,q40,q139),q138.2.2),q120.2),q112.2)=q140/\q103/\q141/\True)/\∀(x:Unit),True->q31/\True/\aB (tU8.slice.prod (tI.prod ((tI.prod (tI.prod (tI.prod (tI.prod (tI.prod (cC.slice.prod (bC.slice.prod ((aC.slice.prod ((tI.prod (tI.prod (aM.prod (aM.prod (aM.prod ((Ty.arr q30 tI).prod Ty.unit)))))).prod Ty.unit)).slice.prod Ty.unit)))))))).prod Ty.unit))) q140/\q125->((True/\True)/\(q10<=q129/\q129<=q12)/\q33)/\(q142=true->(True/\True/\True/\True/\True/\True/\True/\True/\True/\True/\True/\q127/\True)/\(q8/\q8/\q28/\q46/\q46/\q143/\q8/\q8/\q8/\q8/\q143/\q144/\True)/\(q146/\q153/\(q8/\q8/\q28/\q46/\q46/\q143/\q8/\q157)/\(q160/\True/\(q8/\q8/\q28/\q46/\q46/\q143/\q157)/\(q163/\True/\(q8/\q8/\q28/\q46/\q46/\q143/\q156)/\(q166/\True/\(q8/\q8/\q28/\q46/\q46/\q143/\q155)/\(True/\q171)/\q0)/\(True/\q173)/\q0)/\True/\(True/\q175)/\q0)/\True/\True/\(True/\True/\q176)/\q0)/\True/\True/\True/\(True/\True/\(q8/\q8/\q28/\q46/\q46/\q143/\q8/\q8/\q9)/\(q146/\q153/\q176)/\q4)/\q0)/\(q142=false->∃(x:Unit),True/\q35/\q7/\q149=Sp.mdS x_3.2/\q104))/\∀(x_4:Unit),True->q31/\True/\aB (tU8.slice.prod (tI.prod ((tI.prod (tI.prod (tI.prod (tI.prod (tI.prod (cC.slice.prod (bC.slice.prod ((aC.slice.prod ((tI.prod (tI.prod (aM.prod (aM.prod (aM.prod ((Ty.arr q30 tI).prod Ty.unit)))))).prod Ty.unit)).slice.prod Ty.unit)))))))).prod Ty.unit))) (Sp.mdS x_3.2)/\q99->((True/\inK IntKind.i64 q177/\True/\True)/\True)/\∃(y:Nat×Sp.Mk),(y.1<=q30/\Sp.aL ((700:Nat)-(310:Nat)*y.1) y.2/\Sp.mdN y.1 y.2=Sp.md3 x.1.1)/\y.1<x_3.1/\q35/\q7/\Sp.mdS x_3.2=y.2/\q177=(↑y.1:Int)/\True)/\(q100=false->∃(x_4:Unit),True/\q35/\q7/\x_3.2=Sp.md3 x.1.1/\True))/\
 ∀(x_3:Unit),True->q31/\True/\aB (tU8.slice.prod (tI.prod ((tI.prod (tI.prod (tI.prod (tI.prod (tI.prod (cC.slice.prod (bC.slice.prod ((aC.slice.prod ((tI.prod (tI.prod (aM.prod (aM.prod (aM.prod ((Ty.arr q30 tI).prod Ty.unit)))))).prod Ty.unit)).slice.prod Ty.unit)))))))).prod Ty.unit))) (Sp.md3 x.1.1)/\True->((q0/\(q10<=q62/\q62<=q12)/\q32/\(Sp.aL q36 q63/\q37<=q64/\q64<=q38)/\True)/\∃(x:Unit),True/\q35/\q7/\Sp.rgM q63 q64=q65/\True)/\∀(x_4:Unit),True->q31/\True/\aB (tU8.slice.prod (tI.prod ((tI.prod (tI.prod (tI.prod (tI.prod (tI.prod (cC.slice.prod (bC.slice.prod ((aC.slice.prod ((tI.prod (tI.prod (aM.prod (aM.prod (aM.prod ((Ty.arr q30 tI).prod Ty.unit)))))).prod Ty.unit)).slice.prod Ty.unit)))))))).prod Ty.unit))) q65/\True->(((True/\True)/\(q10<=q67/\q67<=q12)/\q33)/\(q68=true->((True/\True)/\(Sp.aL q36 q69/\Sp.has q69)/\True)/\((True/\True)/\Sp.aL q39 q70/\True)/\((True/\True)/\(Sp.aL (4500:Nat) q71/\Sp.has q71)/\True)/\∃(x_5:Unit),True/\q35/\q7/\Sp.insM q71=Sp.md4 x.1.1/\True)/\(q68=false->∃(x_5:Unit),True/\q35/\q7/\q69=Sp.md4 x.1.1/\True))/\∀(x_5:Unit),True->q31/\True/\aB (tU8.slice.prod (tI.prod ((tI.prod (tI.prod (tI.prod (tI.prod (tI.prod (cC.slice.prod (bC.slice.prod ((aC.slice.prod ((tI.prod (tI.prod (aM.prod (aM.prod (aM.prod ((Ty.arr q30 tI).prod Ty.unit)))))).prod Ty.unit)).slice.prod Ty.unit)))))))).prod Ty.unit))) (Sp.md4 x.1.1)/\True->(((True/\True/\True/\True/\True/\True/\True/\True/\True/\True/\True/\inK IntKind.i64 q84/\True/\inN q84 q83/\True/\True)/\True/\True)/\∃(x_6:Unit),True/\q35/\q7/\((Sp.md4 x.1.1).1,q72.1,(q74.1,q75.1,q76.1,q77.1,q78.1,q79.1,q80.1,q82.set q85 (q86.1,(q14,q42),q86.2.2),q81.2),q73.2)=Sp.md5 x.1.1/\True)/\∀(x_6:Unit),True->q31/\True/\aB (tU8.slice.prod (tI.prod ((tI.prod (tI.prod (tI.prod (tI.prod (tI.prod (cC.slice.prod (bC.slice.prod ((aC.slice.prod ((tI.prod (tI.prod (aM.prod (aM.prod (aM.prod ((Ty.arr q30 tI).prod Ty.unit)))))).prod Ty.unit)).slice.prod Ty.unit)))))))).prod Ty.unit))) (Sp.md5 x.1.1)/\True->(q3/\True/\True)/\Sp.nG q74 (Sp.qW (Sp.cB q74) (Sp.nB (Sp.md4 x.1.1)-q20) (Sp.tJ q14 q11 q11))=Sp.dX x.1.1):=by kernel_rfl
end Go.User
namespace Sp
theorem fst_inst(s:Mk):(bX s).1=s.1:=by
 unfold bX i7
 repeat' split
 all_goals rfl
theorem w5:∀(k:Nat) (s:Mk),(instN k s).1=s.1
 |0,s=>rfl
 |k+1,s=>(w5 k (bX s)).trans (fst_inst s)
theorem qG(s:Mk):(insM s).1=s.1:=w5 _ (nxM s)
theorem fst_rg2(b last:Int)(s:Mk):(rg2 b last s).1=s.1:=rC (fun t=>t.1=s.1) b last s rfl rfl
theorem yS(last:Int):∀(k:Nat) (s:Mk),(rgN last k s).1=s.1
 |0,s=>rfl
 |k+1,s=>(yS last k _).trans ((fst_rg2 _ _ _).trans (qG s))
theorem fst_rg(s:Mk)(n:Int):(rgM s n).1=s.1:=(qG _).trans (yS _ _ (fG s))
def Byt(s:Mk):Prop:=∀v∈s.1,0<=v/\v<=255
theorem Byt.to{s t:Mk}(h:Byt s)(e:t.1=s.1):Byt t:=fun v hv=>h v (e▸hv)
theorem aL.rgN{last:Int}:∀ {k n:Nat} {s:Mk},aL n s->Byt s->aL (n+55*k) (rgN last k s)/\cJ (Sp.rgN last k s)=cJ s+k
 |0,n,s,h,hb=>⟨h,rfl⟩
 |k+1,n,s,h,hb=>by
  have h1:=(rg_facts h hb (last-((k+1:Nat):Int)) last).2.2.2
  have h2:=(rg_len (last-((k+1:Nat):Int)) last s).2.2
  obtain⟨h3,h4⟩:=aL.rgN (last:=last) (k:=k) h1 (hb.to ((fst_rg2 _ _ _).trans (qG s)));exact⟨h3.mono (by omega),by show cJ (Sp.rgN last k _)=_;rw[h4,h2];omega⟩
theorem aL.rg{n:Nat}{s:Mk}{k:Int}(h:aL n s)(hb:Byt s)(h0:0<=k)(h2:k<=2):aL (n+161) (rgM s k)/\has (rgM s k):=by
 have h1:=aL.rgN (last:=nB s+k) (k:=k.toNat) h.bl hb
 have h3:=h1.1.insM (hb.to (yS _ _ (fG s)))
 refine⟨h3.mono (by omega),kK.2 ?_⟩
 have e:cJ (rgM s k)=cJ (fG s)+k.toNat:=(nQ _).trans h1.2
 rw[e,j4];omega
theorem fst_lp6(s:Mk):(lp6 s).1=s.1:=qG _
theorem lp_cases(P:Mk->Prop)(s:Mk)(h1:P (wT (nxM (nxM (lp6 s))) (nB s+1) (tB (d7 (nxM (lp6 s))) (nB s) (nB s+2))))(h2:P (nxM (lp6 s))):P (lpM s):=by
 unfold lpM
 split
 ·exact h1
 ·exact h2
theorem fst_lp(s:Mk):(lpM s).1=s.1:=lp_cases (fun t=>t.1=s.1) s (fst_lp6 s) (fst_lp6 s)
theorem aL.lp{n:Nat}{s:Mk}(h:aL n s)(hh:has s)(hb:Byt s):aL (n+59) (lpM s)/\has (lpM s):=by
 have h1:=(lp_facts h hh hb).2.2.2.2.2.2.2.2.2
 have h2:=(lp_len s).2.2.2.2.2
 refine lp_cases (fun t=>aL (n+59) t/\has t) s ⟨h1.nx.nx.wT _ _,kK.2 ?_⟩ ⟨h1.nx.mono (by omega),kK.2 ?_⟩
 ·rw[lZ];show 0<cJ (lp6 s);omega
 ·show 0<cJ (lp6 s);omega
theorem bd3(s:Mk)(hb:Byt s):0<=Int.tmod (nxV s) 3/\Int.tmod (nxV s) 3<=2:=by
 have:=fW (fB s hb).1 (k:=3) (by decide)
 omega
theorem rV(s:Mk):(q1 s).1=s.1:=fst_rg (nxM s) _
theorem aL.q1{n:Nat}{s:Mk}(h:aL n s)(hb:Byt s):aL (n+162) (q1 s)/\has (Sp.q1 s):=by
 obtain⟨h1,h2⟩:=bd3 s hb
 obtain⟨h3,h4⟩:=aL.rg h.nx (s:=nxM s) hb h1 h2
 exact⟨h3.mono (by omega),h4⟩
theorem q2_cases(P:Mk->Prop)(s:Mk)(h1:P (fG (lpM (nxM s))))(h2:P (nxM s)):P (q2 s):=by
 unfold q2
 split
 ·exact h1
 ·exact h2
theorem fst_q2(s:Mk):(q2 s).1=s.1:=q2_cases (fun t=>t.1=s.1) s (fst_lp (nxM s)) rfl
theorem aL.q2{n:Nat}{s:Mk}(h:aL n s)(hh:has s)(hb:Byt s):aL (n+61) (q2 s)/\has (Sp.q2 s):=by
 obtain⟨h1,h2⟩:=aL.lp h.nx (s:=nxM s) hh hb
 refine q2_cases (fun t=>aL (n+61) t/\has t) s ⟨h1.bl.mono (by omega),kK.2 ?_⟩ ⟨h.nx.mono (by omega),hh⟩
 rw[j4];omega
theorem q4_cases(P:Mk->Prop)(b:Int)(s:Mk)(h1:P (wT (nxM (nxM (nxM (nxM (nxM s))))) b (tC (nxM s) b)))(h2:P (nxM s)):P (q4 b s):=by
 unfold q4
 split
 ·exact h1
 ·exact h2
theorem fst_q4(b:Int)(s:Mk):(q4 b s).1=s.1:=q4_cases (fun t=>t.1=s.1) b s rfl rfl
theorem aL.q4{n:Nat}{s:Mk}(b:Int)(h:aL n s):aL (n+5) (q4 b s):=q4_cases (fun t=>aL (n+5) t) b s (h.nx.nx.nx.nx.nx.wT _ _) (h.nx.mono (by omega))
theorem fst_mdS(s:Mk):(mdS s).1=s.1:=(fst_q4 _ _).trans ((fst_q2 _).trans (rV s))
theorem aL.mdS{n:Nat}{s:Mk}(h:aL n s)(hb:Byt s):aL (n+228) (mdS s):=by
 obtain⟨h1,h2⟩:=h.q1 hb
 obtain⟨h3,h4⟩:=h1.q2 h2 (hb.to (rV s))
 exact(h3.wT _ _).q4 _
theorem aL.mdN:∀ {k n:Nat} {s:Mk},aL n s->Byt s->aL (n+228*k) (mdN k s)/\(Sp.mdN k s).1=s.1
 |0,n,s,h,hb=>⟨h,rfl⟩
 |k+1,n,s,h,hb=>by
  obtain⟨h3,h4⟩:=aL.mdN (k:=k) (h.mdS hb) (hb.to (fst_mdS s));exact⟨h3.mono (by omega),h4.trans (fst_mdS s)⟩
theorem aL.wS{n:Nat}{s:Mk}(h:aL n s)(k:Int):aL n (wS s k):=⟨h.at0,h.at1,h.arr,h.blk,h.ins,h.lps⟩
theorem aL.sbN:∀ {k n:Nat} {s:Mk},aL n s->aL n (sbN k s)/\(Sp.sbN k s).1=s.1
 |0,n,s,h=>⟨h,rfl⟩
 |k+1,n,s,h=>by
  show aL n (if _ then _ else _)/\Prod.fst (if _ then _ else _)=_
  split
  ·exact aL.sbN (h.wS _)
  ·exact⟨h,rfl⟩
theorem aL.md1(L:List Int):aL 1 (md1 L):=⟨Int.le_of_lt Int.zero_lt_one,Int.le_refl _,rfl,Nat.zero_le _,fun b hb=>(List.not_mem_nil hb).elim,Nat.zero_le _⟩
theorem aL.md2(L:List Int):aL 2 (md2 L)/\(Sp.md2 L).1=L:=aL.sbN (aL.md1 L).nx
theorem aL.md3(L:List Int)(hb:Byt (Sp.md0 L)):aL 500 (md3 L)/\(Sp.md3 L).1=L:=by
 obtain⟨h1,h2⟩:=aL.md2 L
 have hb2:Byt (Sp.md2 L):=hb.to h2
 have hk:=bd3 _ hb2
 obtain⟨h3,h4⟩:=aL.mdN (k:=(Int.tmod (nxV (Sp.md2 L)) 3).toNat) (s:=nxM (Sp.md2 L)) h1.nx hb2
 unfold Sp.md3
 exact⟨h3.mono (by omega),h4.trans h2⟩
theorem q5_cases(P:Mk->Prop)(s:Mk)(h1:P (insM (fG (lpM (nxM s)))))(h2:P (nxM s)):P (q5 s):=by
 unfold q5
 split
 ·exact h1
 ·exact h2
theorem aL.q5{n:Nat}{s:Mk}(h:aL n s)(hh:has s)(hb:Byt s):aL (n+112) (q5 s)/\has (Sp.q5 s)/\(Sp.q5 s).1=s.1:=by
 obtain⟨h5,h6⟩:=aL.lp h.nx (s:=nxM s) hh hb
 have e:(lpM (nxM s)).1=s.1:=fst_lp (nxM s)
 have hb5:Byt (lpM (nxM s)):=hb.to e
 have h7:=h5.bl.insM (s:=fG (lpM (nxM s))) hb5
 have e2:(Sp.insM (fG (lpM (nxM s)))).1=s.1:=(qG _).trans e
 have h8:has (Sp.insM (fG (lpM (nxM s)))):=kK.2 (by rw[nQ,j4];omega)
 exact q5_cases (fun t=>aL (n+112) t/\has t/\t.1=s.1) s ⟨h7.mono (by omega),h8,e2⟩ ⟨h.nx.mono (by omega),hh,rfl⟩
theorem aL.md4(L:List Int)(hb:Byt (Sp.md0 L)):aL 800 (md4 L)/\has (Sp.md4 L)/\(Sp.md4 L).1=L:=by
 obtain⟨h1,h2⟩:=aL.md3 L hb
 have hb3:Byt (Sp.md3 L):=hb.to h2
 obtain⟨h3,h4⟩:=h1.q1 hb3
 have hb4:Byt (Sp.q1 (Sp.md3 L)):=hb3.to (rV _)
 obtain⟨h5,h6,h7⟩:=h3.q5 h4 hb4
 unfold Sp.md4
 exact⟨h5.mono (by decide),h6,h7.trans ((rV _).trans h2)⟩
end Sp
namespace Go.User
open Go.Lf Go.Proofs
theorem vO{n:Nat}{s:Sp.Mk}(h:Sp.aL n s)(hn:n<=5000):0<=s.2.1/\s.2.1<=5000:=⟨h.at0,by have:=h.at1;omega⟩
theorem k3:¬((3:Int)=0):=by decide
theorem k5:¬((5:Int)=0):=by decide
theorem k6:¬((6:Int)=0):=by decide
set_option maxHeartbeats 4000000 in
set_option maxRecDepth 100000 in
theorem ok23:FOk Try.prog 23 S23:=by
 have hC:aG Try.prog C23:=okM' 0 (aE ok40 aS) (cG pk41 (cG pk42 (cG pk43 (cG pk44 (cG pk45 (cG pk46 dW)))))) rfl rfl rfl rfl rfl rfl
 refine FOk.introT hC (xM hC numsO_ok) Try.call23 Try.func23 rfl (by kernel_rfl) T23 ?_
 rw[vc23]
 simp only[zz,zy]
 rintro⟨⟨L,u⟩,u2⟩ hx
 dsimp only
 have hb:Sp.Byt (Sp.md0 L):=eS hx.1
 have hI:∀z:Int, -10<=z->z<=100000->inK .i64 z:=fun z _ _=>aQ (by omega) (by omega)
 have m1:=Sp.aL.md1 L
 obtain⟨m2,e2⟩:=Sp.aL.md2 L
 have hb2:Sp.Byt (Sp.md2 L):=hb.to e2
 obtain⟨m3,e3⟩:=Sp.aL.md3 L hb
 have hb3:Sp.Byt (Sp.md3 L):=hb.to e3
 obtain⟨m4,h4,e4⟩:=Sp.aL.md4 L hb
 have hb1:Sp.Byt (Sp.md1 L):=hb
 have d1:=Sp.bd3 _ hb1
 have d2:=Sp.bd3 _ hb2
 have d3:=Sp.bd3 _ hb3
 refine⟨?_,fun _=>⟨?_,fun _=>⟨?_,fun _=>⟨?_,fun _=>⟨?_,fun _=>⟨?_,fun _=> ?_⟩⟩⟩⟩⟩⟩
 ·have a1:inN ((Sp.nxV (L,0,(0,0,0,0,0,[],[],[],()),())).tmod 5) 5:=inN_t (Sp.md0 L) hb 5 (by decide)
  have a2:(0:Int)<=0/\(0:Int)<=5000:=⟨Int.le_refl _,by decide⟩
  repeat' first|exact a1|exact a2|exact k5|exact⟨(),rfl,rfl⟩|constructor
 ·refine⟨⟨vO m1 (by decide),k3⟩,⟨((Int.tmod (Sp.nxV (Sp.md1 L)) 3).toNat,Sp.nxM (Sp.md1 L)),⟨by dsimp only;omega,m1.nx,?_,?_,?_,?_,rfl⟩,rfl,by dsimp only;omega⟩,?_⟩
  ·show(1:Int)<=1;decide
  ·show(1:Int)<=4;decide
  ·intro _;show(1:Int)<=2;decide
  ·intro _;show(1:Int)<=1;decide
  rintro⟨k,s⟩
  dsimp only
  rintro⟨g1,g2,g3,g4,g5,g6,g7⟩ _
  have g3:1<=s.2.2.1.2.1:=g3
  have g4:s.2.2.1.2.1<=4:=g4
  have a1:inK .i64 (2*s.2.2.1.2.1):=hI _ (by omega) (by omega)
  refine⟨⟨fun _=>a1,fun _=>by omega⟩,?_,?_⟩
  ·rintro⟨c1,c2⟩
   obtain⟨j,rfl⟩:∃j,k=j+1:=⟨k-1,by omega⟩
   have g5:s.2.2.1.2.1<=2:=g5 (by omega)
   refine⟨a1,hI _ (by omega) (by omega),(j,Sp.wS s (2*Sp.gS s)),⟨by dsimp only;omega,g2.wS _,?_,?_,?_,?_,?_⟩,by dsimp only;omega,rfl,by dsimp only;omega⟩
   ·show 1<=2*s.2.2.1.2.1;omega
   ·show 2*s.2.2.1.2.1<=4;omega
   ·intro h
    have g6:s.2.2.1.2.1<=1:=g6 (by dsimp only at h;omega)
    show 2*s.2.2.1.2.1<=2;omega
   ·intro h;dsimp only at h;omega
   ·rw[<-g7]
    show _=(if _ then _ else _)
    have c3:Int.tmod (Sp.gG s) (2*Sp.gS s)=0:=c2
    rw[if_pos c3]
  ·intro hf
   refine⟨(),?_⟩
   rw[<-g7];cases k with
   |zero=>rfl
   |succ j=>
    show _=(if _ then _ else _)
    rw[if_neg];intro c;have c:s.2.2.1.1.tmod (2*s.2.2.1.2.1)=0:=c;rw[c]at hf;have h0:(0:Int)<((j+1:Nat):Int):=by omega
    rw[decide_eq_true h0]at hf;exact absurd hf (by decide)
 ·refine⟨⟨vO m2 (by decide),k3⟩,⟨((Int.tmod (Sp.nxV (Sp.md2 L)) 3).toNat,Sp.nxM (Sp.md2 L)),⟨by dsimp only;omega,m2.nx.mono (by dsimp only;omega),rfl⟩,rfl,by dsimp only;omega⟩,?_⟩
  rintro⟨k,s⟩
  dsimp only
  rintro⟨g1,g2,g3⟩ hd
  have hbs:Sp.Byt s:=eS hd.2.1.1
  refine⟨fun hk=> ?_,fun hk=>⟨(),?_⟩⟩
  ·obtain⟨n1,n2⟩:=g2.q1 hbs
   have hbq:Sp.Byt (Sp.q1 s):=hbs.to (Sp.rV s)
   obtain⟨n3,n4⟩:=n1.q2 n2 hbq;have hbq2:Sp.Byt (Sp.q2 (Sp.q1 s)):=hbq.to (Sp.fst_q2 _);obtain⟨n5,n6⟩:=Sp.aL.lp n1.nx (s:=Sp.nxM (Sp.q1 s)) n2 hbq;have ds:=Sp.bd3 _ hbs;have hl:(Sp.cB (Sp.q2 (Sp.q1 s)).2.2.1).length<=5000:=Nat.le_trans n3.blk (by omega);have hl0:0<(Sp.cB (Sp.q2 (Sp.q1 s)).2.2.1).length:=n4;have n0:Sp.nB (Sp.q2 (Sp.q1 s))=((Sp.cB (Sp.q2 (Sp.q1 s)).2.2.1).length:Int):=rfl;have a1:inK .i64 (Sp.nB (Sp.q2 (Sp.q1 s))-1+1):=hI _ (by omega) (by omega);have a2:inK .i64 (Sp.nB (Sp.q2 (Sp.q1 s))-1):=hI _ (by omega) (by omega);have a3:inN (Sp.nB (Sp.q2 (Sp.q1 s))-1) (Sp.cJ (Sp.q2 (Sp.q1 s))):=by rw[n0];exact uY hl0
   have n7:Sp.aL (700-310*k+162+61) (Sp.q3 (Sp.q2 (Sp.q1 s))):=n3.wT _ _
   have a4:inN (Sp.nB (Sp.q2 (Sp.q1 s))-1) (Sp.cJ (Sp.q3 (Sp.q2 (Sp.q1 s)))):=by
    have e:Sp.cJ (Sp.q3 (Sp.q2 (Sp.q1 s)))=Sp.cJ (Sp.q2 (Sp.q1 s)):=Sp.lZ _ _ _
    rw[e];exact a3
   have hbq3:Sp.Byt (Sp.q3 (Sp.q2 (Sp.q1 s))):=hbq2
   have n8:=g2.mdS hbs
   have t0:=vO n7 (by omega)
   refine⟨⟨⟨⟨vO g2 (by omega),k3,g2.nx.mono (by omega),ds.1,ds.2⟩,(),rfl⟩,fun _=>⟨⟨⟨vO n1 (by omega),k3⟩,fun c=>⟨⟨n1.nx.mono (by omega),n2⟩,n5.mono (by omega),(),?_⟩,fun c=>⟨(),?_⟩⟩,fun _=>⟨⟨a2,(),rfl⟩,fun _=>⟨⟨⟨a1,a3⟩,(),rfl⟩,fun _=>⟨⟨t0,k3⟩,fun c=> ?_,fun c=>⟨(),?_⟩⟩⟩⟩⟩⟩,fun _=> ?_⟩
   ·unfold Sp.q2
    rw[if_pos c]
    rfl
   ·unfold Sp.q2
    rw[if_neg c]
    rfl
   ·have E:∀A,A=Sp.wT (Sp.nxM (Sp.nxM (Sp.nxM (Sp.nxM (Sp.nxM (Sp.q3 (Sp.q2 (Sp.q1 s)))))))) (Sp.nB (Sp.q2 (Sp.q1 s))-1) (Sp.tC (Sp.nxM (Sp.q3 (Sp.q2 (Sp.q1 s)))) (Sp.nB (Sp.q2 (Sp.q1 s))-1))->A=Sp.mdS s:=by
     rintro A rfl
     unfold Sp.mdS Sp.q4;rw[if_pos c]
    clear hx hd n8 n5 n6 n3 n4 t0 a2 a3;have n7:Sp.aL 930 (Sp.q3 (Sp.q2 (Sp.q1 s))):=n7.mono (by omega);generalize Sp.q2 (Sp.q1 s)=z at *;have z0:0<=z.2.1:=n7.at0;have z1:z.2.1<=930:=n7.at1;have T:∀a:Int,0<=a->a<=5000->Sp.aL 5000 (z.1,a,Sp.nG z.2.2.1 (Sp.qW (Sp.cB z.2.2.1) (Sp.nB z-1) (Sp.tJ 3 (Sp.nB z-1+1) 0)),()):=fun a h0 h1=>
     ⟨h0,h1,n7.arr,Nat.le_trans n7.blk (by decide),fun b hb=>Nat.le_trans (n7.ins b hb) (by decide),Nat.le_trans n7.lps (by decide)⟩
    have t1:0<=z.2.1+1/\z.2.1+1<=5000:=⟨by omega,by omega⟩
    have t2:=T (z.2.1+1+1) (by omega) (by omega)
    have t3:=T (z.2.1+1+1+1) (by omega) (by omega)
    have t4:=T (z.2.1+1+1+1+1) (by omega) (by omega)
    have t5:inK .i64 (1+(Sp.nxV (z.1,z.2.1+1,Sp.nG z.2.2.1 (Sp.qW (Sp.cB z.2.2.1) (Sp.nB z-1) (Sp.tJ 3 (Sp.nB z-1+1) 0)),())).tmod 6):=uZ (Sp.nxM (Sp.q3 z)) hbq3 1 6 (by decide) (by decide)
    have a4:inN (Sp.nB z-1) (Sp.qW (Sp.cB z.2.2.1) (Sp.nB z-1) (Sp.tJ 3 (Sp.nB z-1+1) 0)).length:=a4
    repeat' first|with_reducible exact a1|with_reducible exact a4|with_reducible exact k6|with_reducible exact t5|with_reducible exact t1|with_reducible exact t2|with_reducible exact t3|with_reducible exact t4|with_reducible apply And.intro|exact⟨(),E _ rfl⟩
   ·unfold Sp.mdS Sp.q4
    rw[if_neg c]
    rfl
   ·obtain⟨j,rfl⟩:∃j,k=j+1:=⟨k-1,by omega⟩
    exact⟨hI _ (by omega) (by omega),(j,Sp.mdS s),⟨by dsimp only;omega,n8.mono (by dsimp only;omega),g3⟩,by dsimp only;omega,rfl,by dsimp only;omega⟩
  ·have:k=0:=by omega
   subst this;exact g3
 ·exact⟨⟨vO m3 (by decide),k3,m3.nx.mono (by decide),d3.1,d3.2⟩,(),rfl⟩
 ·obtain⟨n1,n2⟩:=m3.q1 hb3
  have hb4:Sp.Byt (Sp.q1 (Sp.md3 L)):=hb3.to (Sp.rV _)
  obtain⟨n3,n4⟩:=Sp.aL.lp n1.nx (s:=Sp.nxM (Sp.q1 (Sp.md3 L))) n2 hb4;refine⟨⟨vO n1 (by decide),k3⟩,fun c=>⟨⟨n1.nx.mono (by decide),n2⟩,n3.mono (by decide),⟨n3.bl.mono (by decide),Sp.has.bl⟩,(),?_⟩,fun c=>⟨(),?_⟩⟩
  ·unfold Sp.md4 Sp.q5
   rw[if_pos c]
   rfl
  ·unfold Sp.md4 Sp.q5
   rw[if_neg c]
   rfl
 ·have hl:(Sp.cB (Sp.md4 L).2.2.1).length<=5000:=Nat.le_trans m4.blk (by decide)
  have hl0:0<(Sp.cB (Sp.md4 L).2.2.1).length:=h4
  refine⟨⟨hI (((Sp.cB (Sp.md4 L).2.2.1).length:Int)-1) (by omega) (by omega),uY hl0⟩,(),rfl⟩
 ·rfl
end Go.User
namespace Go.User
open Go.Lf
abbrev mW:Md:= .pair (.own .shr) (.pair .shr .shr)
abbrev mCp:Md:= .pair .shr (.pair .shr (.pair .shr (.pair .shr (.pair .shr (.pair (.own .shr) (.pair (.own .shr) (.pair (.own mW) .shr)))))))
def codeOK(n:Nat)(c:Sp.Code):Prop:=(Sp.cA c).length<=n/\(Sp.cL c).length<=n/\(Sp.cB c).length<=n/\∀b∈Sp.cB c,b.1.length<=n
def S16:bD:={args:=[.val bF],multi:=false,res:=bF,mode:=mCp,pre:=fun x=>codeOK 5000 x.1,fn:=fun x=>x.1}
def C16:Ctx:={mkC 44 []with mds:=[(2,mCp),(15,.own mW),(3,.own mW),(38,mW),(39,.own mW)]}
def L16(x:aH S16.args):List aW:=[
 {ι:=Nat,inv:=fun i=>i<=(Sp.cB x.1).length,dec:=fun i=>(Sp.cB x.1).length-i,ovr:=fun i=>[(3,.own (.slice eW) (.own mW) ((Sp.cB x.1).take i)),(4,.shr tI (i:Int))],keep:=[1,2]}]
end Go.User
namespace Go.User
open Go.Proofs Go.Lf
set_option maxRecDepth 100000
theorem vc16:(eR C16 (hY C16) S16 L16 Try.f16)=(
let q0:=(5000:Nat);
let q1:=(2:Nat);
let q2:=True/\True/\True;
let q3:=(0:Nat);
let q4:=(True/\True)/\True/\True;
let q5:Int:=(0:Int);
let q6:Sp.Code:=(q5,q5,q5,q5,q5,([]:List cC.den),([]:List bC.den),([]:List eW.den),());
let q7:=q6=q6/\True;
let q8:=True/\True/\q2;
let q9:Sp.Opd:=(q5,q5,q5,());
let q10:Sp.Block:=(([]:List aC.den),(q5,q5,q9,q9,q9,List.replicate q1 q5,()),());
let q11:Int:=(1:Int);
∀(x:Sp.Code×Unit),
 let q12:=(Sp.cB x.1).length;
 let q13:Int×List Sp.Arr×List Sp.Opd×List Sp.Block×Unit:=x.1.2.2.2.2;
 let q14:List Sp.Arr×List Sp.Opd×List Sp.Block×Unit:=q13.2;
 let q15:List Sp.Arr:=q14.1;
 let q16:List Sp.Opd×List Sp.Block×Unit:=q14.2;
 let q17:List Sp.Opd:=q16.1;
 let q18:Int:=x.1.2.2.2.1;
 let q19:Int:=q13.1;
 let q20:List Sp.Block×Unit:=q16.2;
 let q21:Sp.Code:=(x.1.1,x.1.2.1,x.1.2.2.1,q18,q19,q15,q17,q20);
 let q22:=q21=q21/\q7;
 let q23:List Sp.Block:=q20.1;
 let q24:=q23.length;
 ((Sp.cA x.1).length<=q0/\(Sp.cL x.1).length<=q0/\q12<=q0/\∀(b:Sp.Block),b∈Sp.cB x.1->b.1.length<=q0)->
 aB (tI.prod (tI.prod (tI.prod (tI.prod (tI.prod (cC.slice.prod (bC.slice.prod ((aC.slice.prod ((tI.prod (tI.prod (aM.prod (aM.prod (aM.prod ((Ty.arr q1 tI).prod Ty.unit)))))).prod Ty.unit)).slice.prod Ty.unit)))))))) x.1/\True->
 (q2/\True)/\
 ((True/\True/\True/\(↑(q3+q15.length):Int)<=bJ/\True/\True)/\True/\True)/\
 ((True/\True/\True/\(↑(q3+q17.length):Int)<=bJ/\True/\True)/\True/\True)/\
 q4/\
 ((True/\True)/\True)/\
 (∃(x_1:Nat),x_1<=q12/\([]:List eW.den)=List.take x_1 (Sp.cB x.1)/\q5=(↑x_1:Int)/\q22)/\
 ∀(x_1:Nat),
 let q25:List Sp.Block:=List.take x_1 (Sp.cB x.1);
 let q26:Bool:=decide ((↑x_1:Int)<(↑q24:Int));
 let q27:=inN (↑x_1:Int) q24;
 let q28:Sp.Block:=q23.getD (↑x_1:Int).toNat q10;
 let q29:List Sp.Inst:=q28.1;
 let q30:List Sp.Block:=(q29,q28.2.1,())::([]:List eW.den);
 let q31:Int:=(↑x_1:Int)+q11;
 x_1<=q12->aB (aC.slice.prod ((tI.prod (tI.prod (aM.prod (aM.prod (aM.prod ((Ty.arr q1 tI).prod Ty.unit)))))).prod Ty.unit)).slice q25/\aB tI (↑x_1:Int)/\True->((True/\q8)/\True)/\(q26=true->((True/\True/\True/\True/\True/\q27/\True/\True/\(↑(q3+q29.length):Int)<=bJ/\True/\True/\True/\q27/\q8)/\(↑(q25.length+q30.length):Int)<=bJ/\True/\True)/\((True/\inK IntKind.i64 q31/\True/\True)/\True)/\∃(y:Nat),y<=q12/\q12-y<q12-x_1/\q25++q30=List.take y (Sp.cB x.1)/\q31=(↑y:Int)/\q22)/\(q26=false->(q2/\True/\True)/\q4/\(x.1.1,x.1.2.1,x.1.2.2.1,q18,q19,q15,q17,q25,q20.2)=x.1)):=by kernel_rfl
end Go.User
namespace Sp
noncomputable def qI(a b:Block):Bool:=@decide (a=b) (Classical.propDecidable _)
noncomputable def eF(a b:Code):Bool:=@decide (a=b) (Classical.propDecidable _)
def vF(a b:List Arr):Bool:=decide (a=b)
def eqLps(a b:List Loop):Bool:=decide (a=b)
noncomputable def eqIns(a b:List Inst):Bool:=@decide (a=b) (Classical.propDecidable _)
def mS(a b:List Int):Bool:=decide (a=b)
def mem(l:List Int)(n:Int):Bool:=decide (n∈l)
def w4(a b:Code):Bool:=decide (a.1=b.1)&&decide (a.2.1=b.2.1)&&decide (a.2.2.1=b.2.2.1)&&decide (a.2.2.2.1=b.2.2.2.1)&&decide (a.2.2.2.2.1=b.2.2.2.2.1)&&decide (cA a=cA b)&&decide (cL a=cL b)
end Sp
namespace Go.User
open Go.Lf
def eqL{α:Type}(a b:List α)(s:Nat)(keep:List Nat):aW:={ι:=Nat,inv:=fun i=>i<=a.length/\a.length=b.length/\a.take i=b.take i,dec:=fun i=>a.length-i,ovr:=fun i=>[(s,.shr tI (i:Int))],keep:=keep}
def S12:bD:={args:=[.val (.slice tI),.val (.slice tI)],multi:=false,res:= .bool,mode:= .shr,pre:=fun _=>True,fn:=fun x=>Sp.mS x.1 x.2.1}
def C12:Ctx:=mkC 26 []
def L12(x:aH S12.args):List aW:=[eqL (α:=Int) x.1 x.2.1 5 [0,1]]
noncomputable def S28:bD:={args:=[.val eW,.val eW],multi:=false,res:= .bool,mode:= .shr,pre:=fun _=>True,fn:=fun x=>Sp.qI x.1 x.2.1}
def C28:Ctx:=mkC 38 []
def L28(x:aH S28.args):List aW:=[eqL (α:=Sp.Inst) x.1.1 x.2.1.1 5 [2,3]]
def S27:bD:={args:=[.val bF,.val bF],multi:=false,res:= .bool,mode:= .shr,pre:=fun _=>True,fn:=fun x=>Sp.w4 x.1 x.2.1}
def C27:Ctx:=mkC 94 []
def L27(x:aH S27.args):List aW:=[eqL (Sp.cA x.1) (Sp.cA x.2.1) 5 [2,3],eqL (Sp.cL x.1) (Sp.cL x.2.1) 6 [2,3]]
noncomputable def S11:bD:={args:=[.val bF,.val bF],multi:=false,res:= .bool,mode:= .shr,pre:=fun _=>True,fn:=fun x=>Sp.eF x.1 x.2.1}
noncomputable def C11:Ctx:=mkC 38 [(27,S27),(28,S28)]
def L11(x:aH S11.args):List aW:=[eqL (Sp.cB x.1) (Sp.cB x.2.1) 5 [2,3]]
def S119:bD:={args:=[.val (.slice tI),.val tI],multi:=false,res:= .bool,mode:= .shr,pre:=fun _=>True,fn:=fun x=>Sp.mem x.1 x.2.1}
def C119:Ctx:=mkC 18 []
def L119(x:aH S119.args):List aW:=[{ι:=Nat,inv:=fun i=>i<=List.length x.1/\(x.2.1:Int)∉List.take i x.1,dec:=fun i=>List.length x.1-i,ovr:=fun i=>[(5,.shr tI (i:Int))],keep:=[0,1]}]
def eqR{α:Type}(a b:List α):aW:={ι:=Nat,inv:=fun i=>i<=a.length/\a.length=b.length/\a.take i=b.take i,dec:=fun i=>a.length-i,ovr:=fun i=>[(13,.shr tI (i:Int)),(12,.shr tI (a.length:Int))],keep:=[0,1]}
def S63:bD:={args:=[.val (.slice cC),.val (.slice cC)],multi:=false,res:= .bool,mode:= .shr,pre:=fun _=>True,fn:=fun x=>Sp.vF x.1 x.2.1}
def C63:Ctx:=mkC 26 []
def L63(x:aH S63.args):List aW:=[eqR (α:=Sp.Arr) x.1 x.2.1]
def S64:bD:={args:=[.val (.slice bC),.val (.slice bC)],multi:=false,res:= .bool,mode:= .shr,pre:=fun _=>True,fn:=fun x=>Sp.eqLps x.1 x.2.1}
def C64:Ctx:=mkC 26 []
def L64(x:aH S64.args):List aW:=[eqR (α:=Sp.Loop) x.1 x.2.1]
noncomputable def S62:bD:={args:=[.val (.slice aC),.val (.slice aC)],multi:=false,res:= .bool,mode:= .shr,pre:=fun _=>True,fn:=fun x=>Sp.eqIns x.1 x.2.1}
def C62:Ctx:=mkC 26 []
def L62(x:aH S62.args):List aW:=[eqR (α:=Sp.Inst) x.1 x.2.1]
def S86:bD:={args:=[.val (.slice eW)],multi:=false,res:= .slice eW,mode:= .own .shr,pre:=fun x=>List.length x.1<=5000,fn:=fun x=>x.1}
def C86:Ctx:=mkC 8 []
def L86(x:aH S86.args):List aW:=[]
end Go.User
