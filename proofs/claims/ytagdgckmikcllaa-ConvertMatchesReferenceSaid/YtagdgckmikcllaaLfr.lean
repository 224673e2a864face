/- The law ConvertMatchesReference. -/
import Derived.Test.YtagdgckmikcllaaLfq
set_option linter.unusedVariables false
set_option linter.unusedSimpArgs false
namespace Go.User
open Go.Proofs Go.Lf
set_option maxRecDepth 100000
theorem vc7:(eR C7 (dL [] C7) S7 L7 Try.f7)=(
let q0:=True/\True/\True;
let q1:=True/\q0;
let q2:=(8:Nat);
let q3:Int:=(16:Int);
∀(x:(List Int×Unit)×Int×Unit),
 let q4:Bool:=IntKind.u8.wrap (↑(BitVec.ofInt q2 x.2.1&&&BitVec.ofInt q2 q3).toNat:Int)==q3;
 let q5:Sp.Code:=Sp.vL x.1.1 x.2.1;
 True->aB (tU8.slice.prod Ty.unit) x.1/\aB tU8 x.2.1/\True->(q0/\True)/\(q1/\True)/\(q4=true->(q0/\True/\True)/\Sp.dX x.1.1=q5)/\(q4=false->(q1/\True/\True)/\Sp.armd x.1.1 x.2.1=q5)):=by kernel_rfl
theorem vc8:(oZ C8 (dL [] C8) S8 T8 Try.f8)=(
let q0:=(5000:Nat);
let q1:Int:=(0:tI.den);
let q2:Int:=(5000:tI.den);
let q3:=True/\True/\True;
let q4:Int:=(0:Int);
let q5:Sp.Uni:=(([]:List Ty.bool.den),([]:List Ty.bool.den),());
let q6:=q5=q5/\True;
let q7:=True/\q3;
let q8:=(64:Nat);
let q9:Int:=(1:Int);
let q10:Int:=(2:Int);
let q11:=q10≠q4;
∀(x:Sp.Code×List Int×Unit),
 let q12:=(Sp.cB x.1).length;
 let q13:=q12<=q0;
 let q14:=q1<=x.1.2.2.1;
 let q15:=x.1.2.2.1<=q2;
 let q16:=x.2.1.length;
 let q17:=x.2.1=x.2.1/\q6;
 q13/\q14/\q15/\(0:Nat)<q12->
 aB bF x.1/\aB tU8.slice x.2.1/\True->
 (q3/\True)/\
 ((True/\(q13/\q14/\q15)/\True/\True)/\True/\True)/\
 ((True/\True)/\True)/\
 (∃(x_1:Nat),x_1<=q16/\Sp.dN x.1 false=Sp.kS x.1 x.2.1 x_1/\q4=(↑x_1:Int)/\q17)/\
 ∀(x_1:Nat),
 let q18:Sp.Uni:=Sp.kS x.1 x.2.1 x_1;
 let q19:Bool:=decide ((↑x_1:Int)<(↑q16:Int));
 let q20:Int:=x.2.1.getD (↑x_1:Int).toNat q4;
 let q21:Int:=IntKind.i64.wrap (↑(BitVec.ofInt q8 q20&&&BitVec.ofInt q8 q9).toNat:Int);
 let q22:Bool:=q21==q4;
 let q23:Int:=q20.tdiv q10;
 let q24:=q11/\inK IntKind.i64 q23;
 let q25:List Bool:=q18.1;
 let q26:=q25.length;
 let q27:Int:=(↑q26:Int);
 let q28:Int:=q23.tmod q27;
 let q29:Bool:=q21==q9;
 let q30:=(true&&bif q29 then true else false)=true->True;
 let q31:=(True/\True/\True/\True/\q30/\q30/\q30/\q30/\True/\True)/\True;
 let q32:List Bool×Unit:=q18.2;
 let q33:List Bool:=q32.1;
 let q34:=q33.length;
 let q35:Int:=(↑q34:Int);
 let q36:Bool:=bif q29 then decide (q35>q4)else false;
 let q37:=q36=true;
 let q38:Int:=q23.tmod q35;
 let q39:=(True/\True/\True/\q24/\True/\True/\True/\q35≠q4/\inN q38 q34/\True)/\True/\True;
 let q40:Int:=(↑x_1:Int)+q9;
 let q41:=(True/\inK IntKind.i64 q40/\True/\True)/\True;
 let q42:List Bool:=q25.set q28.toNat true;
 let q43:List Bool×Unit:=(q33.set q38.toNat true,q32.2);
 let q44:=q36=false;
 x_1<=q16->aB gH q18/\aB tI (↑x_1:Int)/\True->((True/\q7)/\True)/\(q19=true->((True/\True/\inN (↑x_1:Int) q16/\q7)/\True)/\(q7/\True)/\(q22=true->((True/\True/\True/\q24/\True/\True/\True/\q27≠q4/\inN q28 q26/\True)/\True/\True)/\q31/\(q37->q39/\q41/\∃(y:Nat),y<=q16/\q16-y<q16-x_1/\(q42,q43)=Sp.kS x.1 x.2.1 y/\q40=(↑y:Int)/\q17)/\(q44->q41/\∃(y:Nat),y<=q16/\q16-y<q16-x_1/\(q42,q32)=Sp.kS x.1 x.2.1 y/\q40=(↑y:Int)/\q17))/\(q22=false->q31/\(q37->q39/\q41/\∃(y:Nat),y<=q16/\q16-y<q16-x_1/\(q25,q43)=Sp.kS x.1 x.2.1 y/\q40=(↑y:Int)/\q17)/\(q44->q41/\∃(y:Nat),y<=q16/\q16-y<q16-x_1/\q18=Sp.kS x.1 x.2.1 y/\q40=(↑y:Int)/\q17)))/\(q19=false->((True/\True)/\True/\True)/\q18=Sp.kS x.1 x.2.1 q16)):=by kernel_rfl
theorem vc24:(oZ C24 (dL [] C24) S24 T24 Try.f24)=(
let q0:=True/\True/\True;
let q1:=q0/\True;
let q2:=True/\q0;
let q3:=q2/\True/\True;
let q4:=(True/\True)/\True/\True;
let q5:=(True/\True)/\True;
let q6:Int:=(0:Int);
let q7:List Sp.Opd×List Sp.Block×Unit:=(([]:List bC.den),([]:List eW.den),());
let q8:Sp.Code:=(q6,q6,q6,q6,q6,([]:List cC.den),q7);
let q9:=q8=q8;
let q10:=True/\q2;
let q11:=True/\q10;
let q12:Int:=(1:Int);
let q13:Int:=(5:Int);
let q14:Sp.Term:=Sp.tJ q13 q6 q6;
let q15:Sp.Opd:=(q6,q6,q6,());
let q16:=(2:Nat);
let q17:List Int:=List.replicate q16 q6;
let q18:Int×Sp.Opd×Sp.Opd×Sp.Opd×List Int×Unit:=(q6,q15,q15,q15,q17,());
let q19:Sp.Block:=(([]:List aC.den),(q6,q18),());
let q20:=True/\q11;
let q21:=(8:Nat);
let q22:Int:=(8:Int);
let q23:=(0:Nat);
let q24:Int:=(3:Int);
let q25:=q24≠q6;
let q26:Sp.Inst:=(q6,q6,q6,q15,q15,q15,q15,());
let q27:Int:=(16:Int);
let q28:Int:=(2:Int);
let q29:=q2/\True;
let q30:Int:=(6:Int);
let q31:=(1:Nat);
let q32:List aD:=aD.snd::aD.snd::aD.snd::aD.snd::aD.snd::aD.snd::aD.snd::aD.fst::([]:List aD);
let q33:Int:=(32:Int);
let q34:=q12.toNat;
∀(x:(List Int×Unit)×Int×Unit),
 let q35:=(Sp.cB (Sp.dX x.1.1)).length;
 let q36:=x.2.1=x.2.1;
 let q37:=x.1=x.1;
 let q38:=Sp.dX x.1.1=Sp.dX x.1.1;
 let q39:=q36/\q37/\q9/\q38/\True;
 let q40:Sp.Code:=(Sp.md4 x.1.1).2.2.1;
 let q41:List Sp.Block:=Sp.qW (Sp.cB q40) (Sp.nB (Sp.md4 x.1.1)-q12) q14;
 let q42:=q41.length;
 let q43:Int:=q40.1;
 let q44:Int×Int×Int×Int×List Sp.Arr×List Sp.Opd×List Sp.Block×Unit:=q40.2;
 let q45:Int:=q44.1;
 let q46:Int×Int×Int×List Sp.Arr×List Sp.Opd×List Sp.Block×Unit:=q44.2;
 let q47:Int:=q46.1;
 let q48:Int×List Sp.Arr×List Sp.Opd×List Sp.Block×Unit:=q46.2.2;
 let q49:Int:=q48.1;
 let q50:List Sp.Arr:=q48.2.1;
 let q51:=(Sp.j7 x.1.1).length+q21;
 let q52:Bool:=IntKind.u8.wrap (↑(BitVec.ofInt q21 x.2.1&&&BitVec.ofInt q21 q12).toNat:Int)==q12;
 let q53:Bool:=IntKind.u8.wrap (↑(BitVec.ofInt q21 x.2.1&&&BitVec.ofInt q21 q30).toNat:Int)==q30;
 let q54:=q53=false;
 let q55:Bool:=IntKind.u8.wrap (↑(BitVec.ofInt q21 x.2.1&&&BitVec.ofInt q21 q33).toNat:Int)==q33;
 let q56:Int:=q12+x.2.1/(2:tU8.den)^iJ IntKind.u8 q30;
 let q57:Sp.Code:=Sp.armd x.1.1 x.2.1;
 True->
 aB (tU8.slice.prod Ty.unit) x.1/\aB tU8 x.2.1/\True->
 q1/\
 q3/\
 q4/\
 q5/\
 (∃(x_1:Nat),x_1<=q35/\([]:List aC.den)=Sp.sB x.1.1 x_1/\q6=(↑x_1:Int)/\q39)/\
 ∀(x_1:Nat),
 let q58:List Sp.Inst:=Sp.sB x.1.1 x_1;
 let q59:Bool:=decide ((↑x_1:Int)<(↑q42:Int));
 let q60:=q58.length;
 let q61:List Sp.Inst:=(q41.getD (↑x_1:Int).toNat q19).1;
 let q62:Int:=(↑x_1:Int)+q12;
 let q63:=q58=q58;
 let q64:=q36/\q37/\q9/\q38/\q63/\True;
 x_1<=q35->
 aB aC.slice q58/\aB tI (↑x_1:Int)/\True->
 (q11/\True)/\
 (q59=true->((True/\True/\True/\True/\inN (↑x_1:Int) q42/\q0)/\(↑(q60+q61.length):Int)<=bJ/\True/\True)/\((True/\inK IntKind.i64 q62/\True/\True)/\True)/\∃(y:Nat),y<=q35/\q35-y<q35-x_1/\q58++q61=Sp.sB x.1.1 y/\q62=(↑y:Int)/\q39)/\
 (q59=false->
 ((True/\True/\True/\True/\True/\True/\q20)/\True/\True)/\
 q5/\
 (∃(x_2:Nat),x_2<=q21/\(q43,q45,q47,q6,q49,q50,q7)=Sp.armC x.1.1 (Sp.mJ x.1.1 x.2.1 x_2)/\q6=(↑x_2:Int)/\q64)/\
 ∀(x_2:Nat),
 let q65:List Sp.Block:=Sp.mJ x.1.1 x.2.1 x_2;
 let q66:Sp.Code:=Sp.armC x.1.1 q65;
 let q67:Bool:=decide ((↑x_2:Int)<q22);
 let q68:=q66=q66;
 let q69:=(↑x_2:Int)=(↑x_2:Int);
 let q70:=q36/\q37/\q9/\q38/\q63/\q68/\q69/\True;
 let q71:Bool:=(↑x_2:Int).tmod q24==q6;
 let q72:=(true&&bif q71 then false else true)=true;
 let q73:=q72->True;
 let q74:Int:=(↑x_2:Int).tdiv q24;
 let q75:=q25/\inK IntKind.i64 q74;
 let q76:Int:=q74*q24;
 let q77:=inK IntKind.i64 q76;
 let q78:Int:=q76+q24;
 let q79:=inK IntKind.i64 q78;
 let q80:Int:=(↑x_2:Int)+q12;
 let q81:=inK IntKind.i64 q80;
 let q82:Int:=(↑x_2:Int)+q28;
 let q83:=True/\inK IntKind.i64 q82/\q0;
 let q84:Sp.Opd:=Sp.bK ((↑x_2:Int).tmod q13);
 let q85:List Int:=q17.set q23 q78;
 let q86:Sp.Term:=Sp.trm0 x.2.1 x_2;
 let q87:List Int:=q17.set q23 q80;
 let q88:Bool:=decide ((↑x_2:Int)≥q30);
 let q89:Bool:=(↑x_2:Int)==q30;
 let q90:=(true&&bif q89 then true else false)=true->True;
 let q91:Bool:=bif q89 then IntKind.u8.wrap (↑(BitVec.ofInt q21 x.2.1&&&BitVec.ofInt q21 q22).toNat:Int)==q22 else false;
 let q92:Sp.Term:=Sp.trm1 x.2.1 x_2;
 let q93:=q65.length;
 let q94:Sp.Term×Unit:=(q92,());
 let q95:Sp.Block:=q65.getD q34 q19;
 let q96:Sp.Term×Unit:=q95.2;
 let q97:Sp.Term:=q96.1;
 let q98:Int×Sp.Opd×Sp.Opd×Sp.Opd×List Int×Unit:=q97.2;
 let q99:Sp.Opd×Sp.Opd×Sp.Opd×List Int×Unit:=q98.2;
 let q100:Sp.Opd×Sp.Opd×List Int×Unit:=q99.2;
 let q101:Sp.Opd×List Int×Unit:=q100.2;
 let q102:List Int×Unit:=q101.2;
 x_2<=q21->
 aB (tI.prod (tI.prod (tI.prod (tI.prod (tI.prod (cC.slice.prod (bC.slice.prod ((aC.slice.prod ((tI.prod (tI.prod (aM.prod (aM.prod (aM.prod ((Ty.arr q16 tI).prod Ty.unit)))))).prod Ty.unit)).slice.prod Ty.unit)))))))) q66/\aB tI (↑x_2:Int)/\True->
 q1/\
 (q67=true->
 q4/\
 q1/\
 (∃(x_3:Nat),
 let q103:=x_2+q21*x_3;
 (x_3=q23∨q103<q51)/\([]:List aC.den)=Sp.pA x.1.1 x.2.1 x_2 x_3/\(↑x_2:Int)=(↑q103:Int)/\q70)/\
 ∀(x_3:Nat),
 let q104:=x_2+q21*x_3;
 let q105:List Sp.Inst:=Sp.pA x.1.1 x.2.1 x_2 x_3;
 let q106:Int:=(↑q104:Int);
 let q107:Bool:=decide (q106<(↑q60:Int));
 let q108:=inN q106 q60;
 let q109:Sp.Inst:=q58.getD q106.toNat q26;
 let q110:Bool:=bif q71 then true else Sp.gA q109;
 let q111:=(true&&bif q110 then false else true)=true;
 let q112:=q111->True;
 let q113:Bool:=bif q110 then true else x.2.1%q27==(9:Int);
 let q114:List Sp.Inst:=q109::([]:List aC.den);
 let q115:Int:=q106+q22;
 let q116:=(True/\inK IntKind.i64 q115/\True/\True)/\True;
 let q117:=q36/\q37/\q9/\q38/\q63/\q68/\q69/\q105=q105/\True;
 let q118:=q53=true->((True/\q75/\q77/\q79/\q83)/\True/\True)/\∃(x:Unit),True/\(q28,q6,q15,q84,q15,q85.set q31 q82,())=q86/\q117;
 let q119:List Sp.Block:=(q105,q94)::([]:List eW.den);
 x_3=q23∨q104<q51->
 aB aC.slice q105/\aB tI q106/\True->
 (q10/\True)/\
 (q107=true->
 ((True/\q25/\True/\True/\q73/\q73/\(q72->q108)/\q73/\q73/\True/\True/\q112/\(q111->q27≠q6)/\q112/\True/\True)/\True)/\
 (q113=true->
 ((True/\True/\True/\q108/\q0)/\(↑(q105.length+q114.length):Int)<=bJ/\True/\True)/\
 q116/\
 ∃(y:Nat),
 let q120:=x_2+q21*y;
 (y=q23∨q120<q51)/\q51-q120<q51-q104/\q105++q114=Sp.pA x.1.1 x.2.1 x_2 y/\q115=(↑q120:Int)/\q70)/\
 (q113=false->
 q116/\
 ∃(y:Nat),
 let q121:=x_2+q21*y;
 (y=q23∨q121<q51)/\q51-q121<q51-q104/\q105=Sp.pA x.1.1 x.2.1 x_2 y/\q115=(↑q121:Int)/\q70))/\
 (q107=false->((True/\q75/\q77/\q79/\q2)/\True/\True)/\(((True/\q25/\True/\True)/\True)/\(q71=true->((True/\q13≠q6/\True/\True/\q81/\q83)/\True/\True)/\q29/\(q52=true->((True/\q81/\True/\q75/\q77/\q79/\q0)/\True/\True)/\q29/\q118/\(q54->∃(x:Unit),True/\(q28,q6,q15,q84,q15,q87.set q31 q78,())=q86/\q117))/\(q52=false->q29/\q118/\(q54->∃(x:Unit),True/\(q28,q6,q15,q84,q15,q87.set q31 q82,())=q86/\q117)))/\(q71=false->∃(x:Unit),True/\(q12,q6,q15,q15,q15,q85.set q31 q6,())=q86/\q117))/\∀(x_4:Unit),True->aB (tI.prod (tI.prod (aM.prod (aM.prod (aM.prod ((Ty.arr q16 tI).prod Ty.unit)))))) q86/\True->(q1/\(q88=true->q4/\((True/\True/\True/\q90/\q90/\q90/\True/\True)/\True)/\(q91=true->q3/\∃(x:Unit),True/\(q28,q6,q15,Sp.bK q12,q15,(q17.set q23 (7:Int)).set q31 q6,())=q92/\q117)/\(q91=false->∃(x:Unit),True/\(q13,q18)=q92/\q117))/\(q88=false->∃(x:Unit),True/\q86=q92/\q117))/\∀(x_5:Unit),True->aB (tI.prod (tI.prod (aM.prod (aM.prod (aM.prod ((Ty.arr q16 tI).prod Ty.unit)))))) q92/\True->(q20/\(↑(q93+q119.length):Int)<=bJ/\True/\q32=q32/\True)/\((True/\q81/\True/\True)/\True)/\∃(y:Nat),y<=q21/\q21-y<q21-x_2/\(q43,q45,q47,q6,q49,q50,([]:List Sp.Loop),q65++q119,())=Sp.armC x.1.1 (Sp.mJ x.1.1 x.2.1 y)/\q80=(↑y:Int)/\q64))/\
 (q67=false->q29/\(q55=true->((True/\True/\True/\q6<=q30/\True/\inK IntKind.i64 q56/\inN q12 q93/\True/\True/\inN q6 q16/\True)/\True/\True)/\q4/\(q43,q45,q47,q6,q49,q50,([]:List Sp.Loop),q65.set q34 (q95.1,(q97.1,q98.1,q99.1,q100.1,q101.1,q102.1.set q6.toNat q56,q102.2),q96.2),())=q57)/\(q55=false->q4/\q66=q57)))):=by kernel_rfl
end Go.User
namespace Sp
theorem yX(c:Code)(l:List Int):∀i,(kS c l i).1.length=(cB c).length/\(kS c l i).2.1.length=c.2.2.1.toNat
 |0=>by unfold kS dN;simp
 |i+1=>by
  obtain⟨h1,h2⟩:=yX c l i;unfold kS;have ha:(yY (kS c l i) (l.getD i 0)).1.length=(cB c).length/\(yY (kS c l i) (l.getD i 0)).2.1.length=c.2.2.1.toNat:=by
   unfold yY;split
   ·exact⟨by rw[List.length_set];exact h1,h2⟩
   ·exact⟨h1,h2⟩
  unfold drwB;split
  ·exact⟨ha.1,by rw[List.length_set];exact ha.2⟩
  ·exact ha
theorem allN_succ(x:List Int){k:Nat}(h:k<(cB (dX x)).length):sB x (k+1)=sB x k++((cB (dX x)).getD k bE).1:=by
 unfold sB
 rw[List.take_succ_eq_append_getElem h,List.flatMap_append,gat h]
 simp
theorem flat_len{l:List Block}{n:Nat}(h:∀b∈l,b.1.length<=n):(l.flatMap (fun b=>b.1)).length<=l.length*n:=by
 induction l with
 |nil=>simp
 |cons a l ih=>
  have h1:=h a List.mem_cons_self
  have h2:=ih fun b hb=>h b (List.mem_cons_of_mem _ hb)
  rw[List.flatMap_cons,List.length_append,List.length_cons,Nat.add_mul];omega
theorem selJ_succ(x:List Int)(how:Int)(b j:Nat):pA x how b (j+1)=if pckA how b ((j7 x).getD (b+8*j) Go.User.cZ)=true then pA x how b j++[(j7 x).getD (b+8*j) Go.User.cZ]else pA x how b j:=by
 unfold pA
 rw[List.range_succ,List.map_append,List.filter_append]
 split
 ·rename_i h;rw[List.map_singleton,List.filter_cons_of_pos h];rfl
 ·rename_i h;rw[List.map_singleton,List.filter_cons_of_neg h];simp
theorem selJ_len(x:List Int)(how:Int)(b j:Nat):(pA x how b j).length<=j:=by
 unfold pA
 refine Nat.le_trans (List.length_filter_le _ _) ?_
 simp
theorem armB_succ(x:List Int)(how:Int)(b:Nat):mJ x how (b+1)=mJ x how b++[blkA x how b]:=by
 unfold mJ;rw[List.range_succ,List.map_append];rfl
theorem vP(x:List Int)(how:Int)(b:Nat):(mJ x how b).length=b:=by simp[mJ]
end Sp
namespace Go.User
open Go Go.Proofs Go.RowKit Go.Lib Go.Lf
theorem no_and{a b:Int}{p:Prop}[Decidable p](h:(a==b&&decide p)=false):¬(a=b/\p):=by
 rintro⟨h1,h2⟩
 rw[Bool.and_eq_false_iff]at h
 rcases h with h|h
 ·exact beq_eq_false_iff_ne.1 h h1
 ·exact of_decide_eq_false h h2
theorem no_and2{a b c d:Int}(h:(a==b&&c==d)=false):¬(a=b/\c=d):=by
 rintro⟨h1,h2⟩
 rw[Bool.and_eq_false_iff]at h
 rcases h with h|h
 ·exact beq_eq_false_iff_ne.1 h h1
 ·exact beq_eq_false_iff_ne.1 h h2
theorem ok8:FOk Try.prog 8 S8:=by
 have hC:aG Try.prog C8:=okC (aE ok14 aS) rfl rfl rfl rfl rfl rfl rfl
 refine FOk.introT hC (dG hC) Try.call8 Try.func8 (by kernel_rfl) (by kernel_rfl) T8 ?_
 rw[vc8]
 simp only[zz,zy]
 rintro⟨c,l,u⟩ ⟨h1,h2,h3,h4⟩ ⟨_,hl,hf⟩
 dsimp only at *
 have hb1:∀k:Int,IntKind.i64.wrap ((BitVec.ofInt 64 k&&&BitVec.ofInt 64 1).toNat:Int)=Sp.bit1 k:=fun _=>rfl
 simp only[hb1]
 have h1:(Sp.cB c).length<=5000:=h1
 have h4:0<(Sp.cB c).length:=h4
 refine⟨⟨h1,h2,h3⟩,⟨0,by omega,rfl,rfl⟩,fun i hi _=>⟨fun hlt=> ?_,fun hge=>by rw[show i=l.length by omega]⟩⟩
 have hil:i<l.length:=by omega
 have hk:=hf (l.getD i 0) (by rw[Sp.gat hil];exact List.getElem_mem _)
 obtain⟨q1,q2⟩:=Sp.yX c l i
 have hn:Sp.kS c l (i+1)=Sp.drwB (Sp.yY (Sp.kS c l i) (l.getD i 0)) (l.getD i 0):=rfl
 generalize hU:Sp.kS c l i=U at *
 generalize hK:l.getD i 0=k at *
 have hk1:(0:Int)<=k:=hk.1
 have hk2:k<=(255:Int):=hk.2
 have hd0:0<=Int.tdiv k 2:=Int.tdiv_nonneg hk1 (by decide)
 have hd1:Int.tdiv k 2<=k:=Int.tdiv_le_self _ hk1
 have hkk:inK .i64 (Int.tdiv k 2):=aQ (by omega) (by omega)
 have hik:inK .i64 ((i:Int)+1):=d9 hlt hl
 have hmod:∀ {n:Nat},0<(n:Int)->inN ((Int.tdiv k 2).tmod (n:Int)) n:=fun hn=>⟨Int.tmod_nonneg _ hd0,Int.tmod_lt_of_pos _ hn⟩
 refine⟨⟨by omega,hlt⟩,fun hz=>⟨⟨⟨by decide,hkk⟩,by rw[q1];omega,hmod (by rw[q1];omega)⟩,fun g=>⟨⟨⟨by decide,hkk⟩,by omega,hmod g.2⟩,hik,i+1,by omega,by omega,?_,by simp⟩,fun g=>⟨hik,i+1,by omega,by omega,?_,by simp⟩⟩,fun hz=>⟨fun g=>⟨⟨⟨by decide,hkk⟩,by omega,hmod g.2⟩,hik,i+1,by omega,by omega,?_,by simp⟩,fun g=>⟨hik,i+1,by omega,by omega,?_,by simp⟩⟩⟩
 ·rw[hn];unfold Sp.drwB Sp.yY;rw[if_pos hz,if_pos g]
 ·rw[hn];unfold Sp.drwB Sp.yY;rw[if_pos hz,if_neg (no_and g)]
 ·rw[hn];unfold Sp.drwB Sp.yY;rw[if_neg hz,if_pos g]
 ·rw[hn];unfold Sp.drwB Sp.yY;rw[if_neg hz,if_neg (no_and g)]
end Go.User
namespace Sp
def opI(i:Inst):Int:=i.1
def suI(i:Inst):Int:=i.2.1
def nuI(i:Inst):Int:=i.2.2.1
def dI(i:Inst):Opd:=i.2.2.2.1
def aO(i:Inst):Opd:=i.2.2.2.2.1
def bO(i:Inst):Opd:=i.2.2.2.2.2.1
def cO(i:Inst):Opd:=i.2.2.2.2.2.2.1
def isR(r:Int)(o:Opd):Prop:=o.1=2/\o.2.2.1=0/\0<=o.2.1/\o.2.1<r
def isV(r:Int)(o:Opd):Prop:=isR r o∨(o.1=1/\o.2.1=0)
def isZ(o:Opd):Prop:=o=bM
def atoS(s:Int):Prop:=s=10∨s=22∨s=23∨s=17∨s=18∨s=19
inductive fI(r:Int)(i:Inst):Prop
 |mov (o:opI i=1) (s:suI i=0) (n:nuI i=0) (d:isR r (dI i)) (a:isV r (aO i)) (b:isZ (bO i)) (c:isZ (cO i))
 |un (o:opI i=2) (s:1<=suI i/\suI i<=5) (n:nuI i=0) (d:isR r (dI i)) (a:isV r (aO i)) (b:isZ (bO i)) (c:isZ (cO i))
 |bin (o:opI i=3) (s:10<=suI i/\suI i<=29) (n:nuI i=0) (d:isR r (dI i)) (a:isV r (aO i)) (b:isV r (bO i)) (c:isZ (cO i))
 |sel (o:opI i=4) (s:suI i=0) (n:nuI i=0) (d:isR r (dI i)) (a:isV r (aO i)) (b:isV r (bO i)) (c:isV r (cO i))
 |id (o:opI i=5) (s:1<=suI i/\suI i<=7) (n:nuI i=0) (d:isR r (dI i)) (a:isZ (aO i)) (b:isZ (bO i)) (c:isZ (cO i))
 |param (o:opI i=6) (s:suI i=0) (n:0<=nuI i/\nuI i<3) (d:isR r (dI i)) (a:isZ (aO i)) (b:isZ (bO i)) (c:isZ (cO i))
 |load (o:opI i=7) (s:suI i=0) (n:0<=nuI i/\nuI i<5) (d:isR r (dI i)) (a:isV r (aO i)) (b:isZ (bO i)) (c:isZ (cO i))
 |store (o:opI i=8) (s:suI i=0) (n:0<=nuI i/\nuI i<5) (d:isZ (dI i)) (a:isV r (aO i)) (b:isV r (bO i)) (c:isZ (cO i))
 |atom (o:opI i=9) (s:atoS (suI i)) (n:(0<=nuI i/\nuI i<5)/\nuI i≠3) (d:isZ (dI i)) (a:isV r (aO i)) (b:isV r (bO i)) (c:isZ (cO i))
 |fence (o:opI i=10) (s:1<=suI i/\suI i<=2) (n:nuI i=0) (d:isZ (dI i)) (a:isZ (aO i)) (b:isZ (bO i)) (c:isZ (cO i))
inductive fT(r n:Int)(t:Term):Prop
 |jump (k:t.1=1∨t.1=3) (e:∃a,t=(t.1,0,bM,bM,bM,[a,0],())/\0<=a/\a<n)
 |branch (e:∃o a b,t=(2,0,bM,o,bM,[a,b],())/\isV r o/\0<=a/\a<n/\0<=b/\b<n)
 |collect (e:∃s d o p a,t=(4,s,d,o,p,[a,0],())/\1<=s/\s<=6/\isR r d/\isV r o/\isV r p/\0<=a/\a<n)
 |exit (e:t=(5,0,bM,bM,bM,[0,0],()))
theorem isR.mono{r q:Int}{o:Opd}(h:isR r o)(hq:r<=q):isR q o:=⟨h.1,h.2.1,h.2.2.1,by have:=h.2.2.2;omega⟩
theorem isV.mono{r q:Int}{o:Opd}(h:isV r o)(hq:r<=q):isV q o:=h.imp (fun h=>h.mono hq) id
theorem fI.mono{r q:Int}{i:Inst}(h:fI r i)(hq:r<=q):fI q i:=by
 cases h with
 |mov o s n d a b c=>exact .mov o s n (d.mono hq) (a.mono hq) b c
 |un o s n d a b c=>exact .un o s n (d.mono hq) (a.mono hq) b c
 |bin o s n d a b c=>exact .bin o s n (d.mono hq) (a.mono hq) (b.mono hq) c
 |sel o s n d a b c=>exact .sel o s n (d.mono hq) (a.mono hq) (b.mono hq) (c.mono hq)
 |id o s n d a b c=>exact .id o s n (d.mono hq) a b c
 |param o s n d a b c=>exact .param o s n (d.mono hq) a b c
 |load o s n d a b c=>exact .load o s n (d.mono hq) (a.mono hq) b c
 |store o s n d a b c=>exact .store o s n d (a.mono hq) (b.mono hq) c
 |atom o s n d a b c=>exact .atom o s n d (a.mono hq) (b.mono hq) c
 |fence o s n d a b c=>exact .fence o s n d a b c
theorem fT.mono{r q n m:Int}{t:Term}(h:fT r n t)(hq:r<=q)(hm:n<=m):fT q m t:=by
 cases h with
 |jump k e=>obtain⟨a,e,h1,h2⟩:=e;exact .jump k ⟨a,e,h1,by omega⟩
 |branch e=>obtain⟨o,a,b,e,h0,h1,h2,h3,h4⟩:=e;exact .branch ⟨o,a,b,e,h0.mono hq,h1,by omega,h3,by omega⟩
 |collect e=>obtain⟨s,d,o,p,a,e,h0,h1,h2,h3,h4,h5,h6⟩:=e;exact .collect ⟨s,d,o,p,a,e,h0,h1,h2.mono hq,h3.mono hq,h4.mono hq,h5,by omega⟩
 |exit e=>exact .exit e
def nI(B:List Block):Nat:=(B.map (fun b=>b.1.length)).foldr (· + ·) 0
structure VM(e bl is lb:Nat)(k:Int)(s:Mk):Prop where
 byt:Byt s
 arr:cA s.2.2.1=mX
 gp:1<=s.2.2.1.1/\s.2.2.1.1<=8
 sp:(s.2.2.1.2.1=1∨s.2.2.1.2.1=2∨s.2.2.1.2.1=4∨s.2.2.1.2.1=8)/\s.2.2.1.1.tmod s.2.2.1.2.1=0
 slt:s.2.2.1.2.2.2.1=0
 par:s.2.2.1.2.2.2.2.1=3
 rg:6+2*((cL s.2.2.1).length:Int)<=s.2.2.1.2.2.1
 rm:s.2.2.1.2.2.1<=8+2*((cL s.2.2.1).length:Int)
 lps:∀l∈cL s.2.2.1,(0<=l.1/\l.1<((cB s.2.2.1).length:Int)+k)/\(0<=l.2.1/\l.2.1<s.2.2.1.2.2.1)/\1<=l.2.2.1/\l.2.2.1<=3
 ins:∀b∈cB s.2.2.1,∀i∈b.1,fI s.2.2.1.2.2.1 i
 trm:∀j,j+e<(cB s.2.2.1).length->fT s.2.2.1.2.2.1 (((cB s.2.2.1).length:Int)+k) ((cB s.2.2.1).getD j bE).2.1
 cb:(cB s.2.2.1).length<=bl
 ci:nI (cB s.2.2.1)<=is
 cl:(cL s.2.2.1).length<=lb
theorem VM.mono{e bl is lb bl' is' lb':Nat}{k k':Int}{s:Mk}(h:VM e bl is lb k s)(h1:bl<=bl')(h2:is<=is')(h3:lb<=lb')(h4:k<=k'):VM e bl' is' lb' k' s:=
 ⟨h.byt,h.arr,h.gp,h.sp,h.slt,h.par,h.rg,h.rm,fun l hl=>by obtain⟨⟨g1,g2⟩,g3⟩:=h.lps l hl;exact⟨⟨g1,by omega⟩,g3⟩,h.ins,fun j hj=>(h.trm j hj).mono (Int.le_refl _) (by omega),by have:=h.cb;omega,by have:=h.ci;omega,by have:=h.cl;omega⟩
theorem VM.nx{e bl is lb:Nat}{k:Int}{s:Mk}(h:VM e bl is lb k s):VM e bl is lb k (nxM s):=⟨h.byt,h.arr,h.gp,h.sp,h.slt,h.par,h.rg,h.rm,h.lps,h.ins,h.trm,h.cb,h.ci,h.cl⟩
theorem nI_app(A B:List Block):nI (A++B)=nI A+nI B:=by
 unfold nI
 induction A with
 |nil=>simp
 |cons a A ih=>simp only[List.cons_append,List.map_cons,List.foldr_cons]at ih⊢;omega
theorem nI_set:∀ {B:List Block} {j:Nat} (h:j<B.length) (b:Block),nI (B.set j b)+(B.getD j bE).1.length=nI B+b.1.length
 |a::B,0,h,b=>by simp[nI];omega
 |a::B,j+1,h,b=>by
  have:=nI_set (B:=B) (j:=j) (by simpa using h) b
  unfold nI at this⊢;simp only[List.set_cons_succ,List.map_cons,List.foldr_cons,List.getD_cons_succ];omega
theorem VM.regs{e bl is lb:Nat}{k:Int}{s:Mk}(h:VM e bl is lb k s):6<=s.2.2.1.2.2.1:=by have:=h.rg;omega
theorem isR.reg{r n:Int}(h0:0<=n)(h:n<r):isR r (bK n):=⟨rfl,rfl,h0,h⟩
theorem isV.con(r v:Int):isV r (fY v):= .inr ⟨rfl,rfl⟩
theorem VM.reg{e bl is lb:Nat}{k:Int}{s:Mk}(h:VM e bl is lb k s):isR s.2.2.1.2.2.1 (d7 s):=by
 have:=h.regs
 have h1:=fW (fB s h.byt).1 (k:=6) (by decide)
 exact .reg h1.1 (by omega)
theorem VM.val{e bl is lb:Nat}{k:Int}{s:Mk}(h:VM e bl is lb k s):isV s.2.2.1.2.2.1 (eL s):=by
 unfold eL
 split
 ·exact .con _ _
 ·have:=h.regs
  have h1:=fW (Int.tdiv_nonneg (fB s h.byt).1 (by decide:(0:Int)<=3)) (k:=6) (by decide)
  exact .inl (.reg h1.1 (by omega))
theorem VM.put{e bl is lb:Nat}{k:Int}{s:Mk}(h:VM e bl is lb k s)(hh:has s){i:Inst}(hi:fI s.2.2.1.2.2.1 i):VM e bl (is+1) lb k (eE s i):=by
 have hl:(cB s.2.2.1).length-1<(cB s.2.2.1).length:=by unfold has at hh;omega
 have hB:cB (eE s i).2.2.1=(cB s.2.2.1).set ((cB s.2.2.1).length-1) (((cB s.2.2.1).getD ((cB s.2.2.1).length-1) bE).1++[i],((cB s.2.2.1).getD ((cB s.2.2.1).length-1) bE).2):=rfl
 have hlen:(cB (eE s i).2.2.1).length=(cB s.2.2.1).length:=by rw[hB,List.length_set]
 refine⟨h.byt,h.arr,h.gp,h.sp,h.slt,h.par,h.rg,h.rm,fun l hl'=>by rw[hlen];exact h.lps l hl',?_,?_,by rw[hlen];exact h.cb,?_,h.cl⟩
 ·intro b hb j hj
  rw[hB]at hb;rcases iR hb with hb|rfl
  ·exact h.ins b hb j hj
  ·rcases List.mem_append.1 (show j∈_++[i]from hj)with hj|hj
   ·exact h.ins _ (by rw[gat hl];exact List.getElem_mem hl) j hj
   ·rw[List.mem_singleton.1 hj];exact hi
 ·intro j hj
  rw[hlen]at hj⊢;have:=h.trm j hj;rw[hB,kB _ _ _ _ _ hl];split
  ·rename_i e;rw[e];exact this
  ·exact this
 ·have:=nI_set hl (((cB s.2.2.1).getD ((cB s.2.2.1).length-1) bE).1++[i],((cB s.2.2.1).getD ((cB s.2.2.1).length-1) bE).2)
  rw[<-hB]at this;have hc:=h.ci;simp only[List.length_append,List.length_singleton]at this;omega
theorem VM.bl{bl is lb:Nat}{k:Int}{s:Mk}(h:VM 0 bl is lb k s):VM 1 (bl+1) is lb (k-1) (fG s):=by
 have hB:cB (fG s).2.2.1=cB s.2.2.1++[bE]:=rfl
 have hlen:(cB (fG s).2.2.1).length=(cB s.2.2.1).length+1:=by rw[hB];simp
 have hk:((cB (fG s).2.2.1).length:Int)+(k-1)=((cB s.2.2.1).length:Int)+k:=by rw[hlen];omega
 refine⟨h.byt,h.arr,h.gp,h.sp,h.slt,h.par,h.rg,h.rm,fun l hl=>by rw[hk];exact h.lps l hl,?_,?_,by rw[hlen];have:=h.cb;omega,?_,h.cl⟩
 ·intro b hb j hj
  rw[hB]at hb;rcases List.mem_append.1 hb with hb|hb
  ·exact h.ins b hb j hj
  ·rw[List.mem_singleton.1 hb]at hj;exact(List.not_mem_nil hj).elim
 ·intro j hj
  rw[hk];rw[hlen]at hj;have:=h.trm j (by omega);have e:(cB (fG s).2.2.1).getD j bE=(cB s.2.2.1).getD j bE:=by
   rw[hB,List.getD_eq_getElem?_getD,List.getElem?_append_left (by omega),<-List.getD_eq_getElem?_getD]
  rw[e];exact this
 ·rw[hB,nI_app]
  have:=h.ci
  show nI (cB s.2.2.1)+0<=is
  omega
theorem VM.wTa{e bl is lb:Nat}{k:Int}{s:Mk}(h:VM e bl is lb k s){b:Int}(hb:0<=b/\b<((cB s.2.2.1).length:Int)){t:Term}(ht:fT s.2.2.1.2.2.1 (((cB s.2.2.1).length:Int)+k) t):
  VM e bl is lb k (wT s b t)/\(b=((cB s.2.2.1).length:Int)-1->e=1->VM 0 bl is lb k (wT s b t)):=by
 have hB:cB (wT s b t).2.2.1=(cB s.2.2.1).set b.toNat (((cB s.2.2.1).getD b.toNat bE).1,t,((cB s.2.2.1).getD b.toNat bE).2.2):=rfl
 have hbl:b.toNat<(cB s.2.2.1).length:=by omega
 have hlen:(cB (wT s b t).2.2.1).length=(cB s.2.2.1).length:=by rw[hB,List.length_set]
 have h1:∀b'∈cB (wT s b t).2.2.1,∀i∈b'.1,fI s.2.2.1.2.2.1 i:=by
  intro b' hb' j hj;rw[hB]at hb';rcases iR hb' with hb'|rfl
  ·exact h.ins b' hb' j hj
  ·have hm:(cB s.2.2.1).getD b.toNat bE∈cB s.2.2.1:=by rw[gat hbl];exact List.getElem_mem hbl
   exact h.ins _ hm j hj
 have h2:∀j,(j+e<(cB s.2.2.1).length∨j=b.toNat)->fT s.2.2.1.2.2.1 (((cB s.2.2.1).length:Int)+k) ((cB (wT s b t).2.2.1).getD j bE).2.1:=by
  intro j hj;rw[hB,kB _ _ _ _ _ hbl];split
  ·exact ht
  ·rename_i g
   rcases hj with hj|hj
   ·exact h.trm j hj
   ·exact absurd hj.symm g
 have h3:nI (cB (wT s b t).2.2.1)<=is:=by
  have:=nI_set hbl (((cB s.2.2.1).getD b.toNat bE).1,t,((cB s.2.2.1).getD b.toNat bE).2.2)
  rw[<-hB]at this;have hc:=h.ci
  dsimp only at this
  omega
 refine⟨⟨h.byt,h.arr,h.gp,h.sp,h.slt,h.par,h.rg,h.rm,fun l hl'=>by rw[hlen];exact h.lps l hl',h1,fun j hj=>by rw[hlen]at hj⊢;exact h2 j (.inl hj),by rw[hlen];exact h.cb,h3,h.cl⟩,fun g1 g2=>⟨h.byt,h.arr,h.gp,h.sp,h.slt,h.par,h.rg,h.rm,fun l hl'=>by rw[hlen];exact h.lps l hl',h1,fun j hj=>by rw[hlen]at hj⊢;exact h2 j (by omega),by rw[hlen];exact h.cb,h3,h.cl⟩⟩
theorem VM.wT{e bl is lb:Nat}{k:Int}{s:Mk}(h:VM e bl is lb k s){b:Int}(hb:0<=b/\b<((cB s.2.2.1).length:Int)){t:Term}(ht:fT s.2.2.1.2.2.1 (((cB s.2.2.1).length:Int)+k) t):VM e bl is lb k (wT s b t):=(h.wTa hb ht).1
theorem VM.wTl{bl is lb:Nat}{k:Int}{s:Mk}(h:VM 1 bl is lb k s){b:Int}(hb:0<=b/\b=((cB s.2.2.1).length:Int)-1){t:Term}(ht:fT s.2.2.1.2.2.1 (((cB s.2.2.1).length:Int)+k) t):VM 0 bl is lb k (Sp.wT s b t):=(h.wTa (by omega) ht).2 hb.2 rfl
theorem VM.pl{e bl is lb:Nat}{k:Int}{s:Mk}(h:VM e bl is lb k s)(hh:has s)(p:Bool):VM e bl (is+1) lb k (plM s p):=
 h.nx.nx.nx.put hh (.bin rfl ⟨by show(10:Int)<=17;decide,by show(17:Int)<=29;decide⟩ rfl h.nx.reg h.nx.nx.val (.con _ _) rfl)
theorem plN_bd{e bl is lb:Nat}{k:Int}{s:Mk}(h:VM e bl is lb k s)(p:Bool):0<=plN s p/\plN s p<5:=by
 unfold plN
 split
 ·omega
 ·exact fW (fB s h.byt).1 (by decide)
theorem plN_pri{s:Mk}:plN s false≠3:=by
 unfold plN
 split
 ·decide
 ·rename_i h
  exact fun e=>h ⟨e,rfl⟩
theorem VM.md{e bl is lb:Nat}{k:Int}{s:Mk}(h:VM e bl is lb k s){n:Int}(hn:0<n):0<=(nxV s).tmod n/\(nxV s).tmod n<n:=fW (fB s h.byt).1 hn
theorem atoS_ops{j:Int}(h:0<=j/\j<6):atoS (ops6.getD j.toNat 0):=by
 obtain⟨n,rfl⟩:∃n:Nat,j=(n:Int):=⟨j.toNat,by omega⟩
 have:n<6:=by omega
 unfold atoS
 rcases (show n=0∨n=1∨n=2∨n=3∨n=4∨n=5 by omega)with rfl|rfl|rfl|rfl|rfl|rfl<;>decide
theorem VM.inst{e bl is lb:Nat}{k:Int}{s:Mk}(h:VM e bl is lb k s)(hh:has s):VM e bl (is+2) lb k (bX s):=by
 unfold bX i7
 have h1:=h.nx
 have hp:∀p,has (plM (nxM s) p):=fun p=>hh.put _
 have le:=fun {s':Mk} (q:VM e bl (is+1) lb k s')=>q.mono (Nat.le_refl bl) (by omega:is+1<=is+2) (Nat.le_refl lb) (Int.le_refl k)
 split
 ·have:=h1.md (n:=7) (by decide)
  exact le (VM.put (i:=i3 5 (1+Int.tmod (nxV (nxM s)) 7) 0 (d7 (nxM (nxM s))) bM bM) h1.nx.nx hh (.id rfl ⟨by show 1<=1+_;omega,by show 1+_<=7;omega⟩ rfl h1.nx.reg rfl rfl rfl))
 split
 ·have:=h1.md (n:=20) (by decide)
  exact le (VM.put (i:=i3 3 (10+Int.tmod (nxV (nxM s)) 20) 0 (d7 (nxM (nxM s))) (eL (nxM (nxM (nxM s)))) (eL (nxM (nxM (nxM (nxM s)))))) h1.nx.nx.nx.nx hh (.bin rfl ⟨by show 10<=10+_;omega,by show 10+_<=29;omega⟩ rfl h1.nx.reg h1.nx.nx.val h1.nx.nx.nx.val rfl))
 split
 ·have:=h1.md (n:=5) (by decide)
  exact le (VM.put (i:=i3 2 (1+Int.tmod (nxV (nxM s)) 5) 0 (d7 (nxM (nxM s))) (eL (nxM (nxM (nxM s)))) bM) h1.nx.nx.nx hh (.un rfl ⟨by show 1<=1+_;omega,by show 1+_<=5;omega⟩ rfl h1.nx.reg h1.nx.nx.val rfl rfl))
 split
 ·exact le (VM.put (i:=(4,0,0,d7 (nxM s),eL (nxM (nxM s)),eL (nxM (nxM (nxM s))),eL (nxM (nxM (nxM (nxM s)))),())) h1.nx.nx.nx.nx hh (.sel rfl rfl rfl h1.reg h1.nx.val h1.nx.nx.val h1.nx.nx.nx.val))
 split
 ·exact le (VM.put (i:=i3 1 0 0 (d7 (nxM s)) (eL (nxM (nxM s))) bM) h1.nx.nx hh (.mov rfl rfl rfl h1.reg h1.nx.val rfl rfl))
 split
 ·exact le (VM.put (i:=i3 6 0 (Int.tmod (nxV (nxM s)) 3) (d7 (nxM (nxM s))) bM bM) h1.nx.nx hh (.param rfl rfl (h1.md (n:=3) (by decide)) h1.nx.reg rfl rfl rfl))
 split
 ·have:=h1.md (n:=2) (by decide)
  exact le (VM.put (i:=i3 10 (1+Int.tmod (nxV (nxM s)) 2) 0 bM bM bM) h1.nx hh (.fence rfl ⟨by show 1<=1+_;omega,by show 1+_<=2;omega⟩ rfl rfl rfl rfl rfl))
 split
 ·have h2:=h1.pl hh false
  exact VM.put (i:=i3 9 (ops6.getD (Int.tmod (nxV (plM (nxM s) false)) 6).toNat 0) (plN (nxM s) false) bM (plD (nxM s)) (eL (nxM (plM (nxM s) false)))) h2.nx.nx (hp false) (.atom rfl (atoS_ops (h2.md (n:=6) (by decide))) ⟨plN_bd h1 false,plN_pri⟩ rfl (.inl h1.nx.reg) h2.nx.val rfl)
 split
 ·have h2:=h1.pl hh true
  exact VM.put (i:=i3 7 0 (plN (nxM s) true) (d7 (plM (nxM s) true)) (plD (nxM s)) bM) h2.nx (hp true) (.load rfl rfl (plN_bd h1 true) h2.reg (.inl h1.nx.reg) rfl rfl)
 ·have h2:=h1.pl hh true
  exact VM.put (i:=i3 8 0 (plN (nxM s) true) bM (plD (nxM s)) (eL (plM (nxM s) true))) h2.nx (hp true) (.store rfl rfl (plN_bd h1 true) rfl (.inl h1.nx.reg) h2.val rfl)
theorem VM.instN{e bl lb:Nat}{k:Int}:∀ {n is:Nat} {s:Mk},VM e bl is lb k s->has s->VM e bl (is+2*n) lb k (instN n s)/\has (instN n s)/\(cB (instN n s).2.2.1).length=(cB s.2.2.1).length/\(instN n s).2.2.1.2.2.1=s.2.2.1.2.2.1
 |0,is,s,h,hh=>⟨h,hh,rfl,rfl⟩
 |n+1,is,s,h,hh=>by
  have hl:(cB (bX s).2.2.1).length=(cB s.2.2.1).length/\(bX s).2.2.1.2.2.1=s.2.2.1.2.2.1:=by
   have hp:∀(s:Mk) i,(cB (eE s i).2.2.1).length=(cB s.2.2.1).length/\(eE s i).2.2.1.2.2.1=s.2.2.1.2.2.1:=fun s i=>⟨by show(putB _ _).length=_;unfold putB;rw[List.length_set],rfl⟩
   have hpl:∀(s:Mk) p,(cB (plM s p).2.2.1).length=(cB s.2.2.1).length/\(plM s p).2.2.1.2.2.1=s.2.2.1.2.2.1:=fun s p=>hp _ _
   unfold bX i7;split
   ·exact hp _ _
   split
   ·exact hp _ _
   split
   ·exact hp _ _
   split
   ·exact hp _ _
   split
   ·exact hp _ _
   split
   ·exact hp _ _
   split
   ·exact hp _ _
   split
   ·exact⟨(hp _ _).1.trans (hpl _ _).1,(hp _ _).2.trans (hpl _ _).2⟩
   split
   ·exact⟨(hp _ _).1.trans (hpl _ _).1,(hp _ _).2.trans (hpl _ _).2⟩
   ·exact⟨(hp _ _).1.trans (hpl _ _).1,(hp _ _).2.trans (hpl _ _).2⟩
  obtain⟨g1,g2,g3,g4⟩:=VM.instN (n:=n) (h.inst hh) (by unfold has at hh⊢;rw[hl.1];exact hh);exact⟨g1.mono (Nat.le_refl _) (by omega) (Nat.le_refl _) (Int.le_refl _),g2,g3.trans hl.1,g4.trans hl.2⟩
theorem VM.insM{e bl is lb:Nat}{k:Int}{s:Mk}(h:VM e bl is lb k s)(hh:has s):VM e bl (is+8) lb k (insM s)/\has (insM s)/\(cB (insM s).2.2.1).length=(cB s.2.2.1).length/\(insM s).2.2.1.2.2.1=s.2.2.1.2.2.1:=by
 have hm:=h.md (n:=5) (by decide)
 obtain⟨g1,g2,g3,g4⟩:=VM.instN (n:=(Int.tmod (nxV s) 5).toNat) h.nx hh
 exact⟨g1.mono (Nat.le_refl _) (by omega) (Nat.le_refl _) (Int.le_refl _),g2,g3,g4⟩
end Sp
namespace Sp
abbrev nl(s:Mk):Nat:=(cB s.2.2.1).length
theorem nl_bl(s:Mk):nl (fG s)=nl s+1:=by show(cB s.2.2.1++[bE]).length=_;simp
theorem sH(s:Mk)(b:Int)(t:Term):nl (wT s b t)=nl s:=by show(qW _ _ _).length=_;unfold qW;rw[List.length_set]
theorem yG(s:Mk)(i:Inst):nl (eE s i)=nl s:=by show(putB _ _).length=_;unfold putB;rw[List.length_set]
theorem VM.wR{e bl is lb:Nat}{k:Int}{s:Mk}(h:VM e bl is lb k s){n:Int}(hn:n=8+2*((cL s.2.2.1).length:Int)):VM e bl is lb k (Sp.wR s n):=by
 have hm:s.2.2.1.2.2.1<=n:=by have:=h.rm;omega
 refine⟨h.byt,h.arr,h.gp,h.sp,h.slt,h.par,?_,?_,fun l hl=> ?_,fun b hb i hi=>(h.ins b hb i hi).mono hm,fun j hj=>(h.trm j hj).mono hm (Int.le_refl _),h.cb,h.ci,h.cl⟩
 ·show 6+2*((cL s.2.2.1).length:Int)<=n;omega
 ·show n<=8+2*((cL s.2.2.1).length:Int);omega
 ·obtain⟨g1,⟨g2,g3⟩,g4⟩:=h.lps l hl
  exact⟨g1,⟨g2,by show l.2.1<n;omega⟩,g4⟩
theorem VM.addL{e bl is lb:Nat}{k:Int}{s:Mk}(h:VM e bl is lb k s){l:Loop}(h1:0<=l.1/\l.1<((cB s.2.2.1).length:Int)+k)(h2:0<=l.2.1/\l.2.1<s.2.2.1.2.2.1)(h3:1<=l.2.2.1/\l.2.2.1<=3)
  (hr:s.2.2.1.2.2.1=8+2*((cL s.2.2.1).length:Int)):VM e bl is (lb+1) k (Sp.wL s l):=by
 have hc:(cL (Sp.wL s l).2.2.1).length=(cL s.2.2.1).length+1:=by show(cL s.2.2.1++[l]).length=_;simp
 refine⟨h.byt,h.arr,h.gp,h.sp,h.slt,h.par,?_,?_,fun m hm=> ?_,h.ins,h.trm,h.cb,h.ci,by rw[hc];have:=h.cl;omega⟩
 ·rw[hc];show _<=s.2.2.1.2.2.1;omega
 ·rw[hc];show s.2.2.1.2.2.1<=_;omega
 ·rcases List.mem_append.1 (show m∈cL s.2.2.1++[l]from hm)with hm|hm
  ·exact h.lps m hm
  ·rw[List.mem_singleton.1 hm];exact⟨h1,h2,h3⟩
theorem VM.lpz{bl is lb:Nat}{q:Mk}(h:VM 0 bl is lb 1 q){b:Int}(hb:(nl q:Int)=b+2)(h0:0<=b):
  VM 0 bl is lb 1 (if Int.tmod (nxV q) 3=0 then Sp.wT (nxM (nxM q)) (b+1) (tB (d7 (nxM q)) b (b+2))else nxM q)/\nl (if Int.tmod (nxV q) 3=0 then Sp.wT (nxM (nxM q)) (b+1) (tB (d7 (nxM q)) b (b+2))else nxM q)=nl q:=by
 unfold nl at hb
 split
 ·have hr:=h.nx.reg
  refine⟨h.nx.nx.wT ⟨by omega,?_⟩ (.branch ⟨d7 (nxM q),b,b+2,rfl,.inl hr,h0,?_,by omega,?_⟩),sH _ _ _⟩
  ·show _<((cB q.2.2.1).length:Int);omega
  ·show _<((cB q.2.2.1).length:Int)+1;omega
  ·show _<((cB q.2.2.1).length:Int)+1;omega
 ·exact⟨h.nx,rfl⟩
theorem VM.lp{bl is lb:Nat}{s:Mk}(h:VM 1 bl is lb 3 s)(hh:has s):VM 0 (bl+2) (is+11) (lb+1) 1 (lpM s)/\nl (lpM s)=nl s+2:=by
 have hL:0<nl s:=hh
 have hn:nB s=(nl s:Int):=rfl
 have hN:lpN s=6+2*((cL s.2.2.1).length:Int):=rfl
 have hN0:0<=lpN s:=by rw[hN];omega
 have hb:=h.md (n:=3) (by decide)
 have a0:VM 1 bl is lb 3 (Sp.wR (nxM s) (lpN s+2)):=h.nx.wR (by rw[hN];show 6+2*((cL s.2.2.1).length:Int)+2=8+2*((cL s.2.2.1).length:Int);omega)
 have r0:(Sp.wR (nxM s) (lpN s+2)).2.2.1.2.2.1=lpN s+2:=rfl
 have a1:VM 1 bl (is+1) lb 3 (lp1 s):=VM.put (i:=i3 1 0 0 (bK (lpN s)) (fY 0) bM) a0 hh (.mov rfl rfl rfl (.reg hN0 (by rw[r0];omega)) (.con _ _) rfl rfl)
 have n1:nl (lp1 s)=nl s:=yG _ _
 have r1:(lp1 s).2.2.1.2.2.1=lpN s+2:=rfl
 have n1':((cB (lp1 s).2.2.1).length:Int)=(nl s:Int):=by have:=n1;unfold nl at this⊢;omega
 have a2:VM 0 bl (is+1) lb 3 (Sp.wT (lp1 s) (nB s-1) (tJ 1 (nB s) 0)):=a1.wTl ⟨by rw[hn];omega,by rw[n1',hn]⟩ (.jump (.inl rfl) ⟨nB s,rfl,by rw[hn];omega,by rw[n1',hn];omega⟩)
 have n2:nl (Sp.wT (lp1 s) (nB s-1) (tJ 1 (nB s) 0))=nl s:=(sH _ _ _).trans n1
 have n2':((cB (Sp.wT (lp1 s) (nB s-1) (tJ 1 (nB s) 0)).2.2.1).length:Int)=(nl s:Int):=by have:=n2;unfold nl at this⊢;omega
 have a3:VM 0 bl (is+1) (lb+1) 3 (Sp.wL (Sp.wT (lp1 s) (nB s-1) (tJ 1 (nB s) 0)) (nB s,lpN s,lpB s,())):=a2.addL ⟨by show 0<=nB s;rw[hn];omega,by show nB s<_;rw[n2',hn];omega⟩
  ⟨hN0,by show lpN s<lpN s+2;omega⟩ ⟨by show 1<=1+_;omega,by show 1+_<=3;omega⟩ (by show lpN s+2=8+2*((cL s.2.2.1).length:Int);rw[hN];omega)
 have a4:VM 1 (bl+1) (is+1) (lb+1) 2 (lp2 s):=a3.bl
 have n4:nl (lp2 s)=nl s+1:=(nl_bl _).trans (by show nl (Sp.wT (lp1 s) (nB s-1) (tJ 1 (nB s) 0))+1=_;rw[n2])
 have r4:(lp2 s).2.2.1.2.2.1=lpN s+2:=rfl
 have h4:has (lp2 s):=by show 0<nl (lp2 s);omega
 have a5:VM 1 (bl+1) (is+2) (lb+1) 2 (lp3 s):=VM.put (i:=i3 3 26 0 (bK (lpN s+1)) (bK (lpN s)) (fY (Go.IntKind.wrap .i32 (lpB s)))) a4 h4 (.bin rfl ⟨by show(10:Int)<=26;decide,by show(26:Int)<=29;decide⟩ rfl (.reg (by omega) (by rw[r4];omega)) (.inl (.reg hN0 (by rw[r4];omega))) (.con _ _) rfl)
 have n5:nl (lp3 s)=nl s+1:=(yG _ _).trans n4
 have n5':((cB (lp3 s).2.2.1).length:Int)=(nl s:Int)+1:=by have:=n5;unfold nl at this⊢;omega
 have r5:(lp3 s).2.2.1.2.2.1=lpN s+2:=rfl
 have a6:VM 0 (bl+1) (is+2) (lb+1) 2 (Sp.wT (lp3 s) (nB s) (tB (bK (lpN s+1)) (nB s+1) (nB s+2))):=a5.wTl ⟨by rw[hn];omega,by rw[n5',hn];omega⟩
  (.branch ⟨bK (lpN s+1),nB s+1,nB s+2,rfl,.inl (.reg (by omega) (by rw[r5];omega)),by rw[hn];omega,by rw[n5',hn];omega,by rw[hn];omega,by rw[n5',hn];omega⟩)
 have a7:VM 1 (bl+2) (is+2) (lb+1) 1 (lp4 s):=a6.bl
 have n7:nl (lp4 s)=nl s+2:=(nl_bl _).trans (by rw[sH,n5])
 have r7:(lp4 s).2.2.1.2.2.1=lpN s+2:=rfl
 have h7:has (lp4 s):=by show 0<nl (lp4 s);omega
 have a8:=VM.put (i:=i3 3 10 0 (bK (lpN s)) (bK (lpN s)) (fY 1)) a7 h7 (.bin rfl ⟨by show(10:Int)<=10;decide,by show(10:Int)<=29;decide⟩ rfl (.reg hN0 (by rw[r7];omega)) (.inl (.reg hN0 (by rw[r7];omega))) (.con _ _) rfl)
 obtain⟨a9,h9,n9,r9⟩:=a8.insM (by show 0<nl _;rw[yG,n7];omega)
 have n9:nl (lp5 s)=nl s+2:=by
  show(cB (Sp.insM _).2.2.1).length=_
  rw[n9];exact(yG _ _).trans n7
 have a9:VM 1 (bl+2) (is+2+1+8) (lb+1) 1 (lp5 s):=a9
 have n9':((cB (lp5 s).2.2.1).length:Int)=(nl s:Int)+2:=by have:=n9;unfold nl at this⊢;omega
 have a10:VM 0 (bl+2) (is+2+1+8) (lb+1) 1 (lp6 s):=a9.wTl ⟨by rw[hn];omega,by rw[n9',hn];omega⟩ (.jump (.inl rfl) ⟨nB s,rfl,by rw[hn];omega,by rw[n9',hn];omega⟩)
 have n10:nl (lp6 s)=nl s+2:=(sH _ _ _).trans n9
 obtain⟨z1,z2⟩:=a10.lpz (b:=nB s) (by rw[n10,hn];omega) (by rw[hn];omega)
 exact⟨z1.mono (Nat.le_refl _) (by omega) (Nat.le_refl _) (Int.le_refl _),z2.trans n10⟩
theorem VM.rgN{lb:Nat}{last:Int}:∀ {n bl is:Nat} {s:Mk},VM 1 bl is lb (n:Int) s->has s->last=(nl s:Int)-1+(n:Int)->VM 1 (bl+n) (is+8*n) lb 0 (Sp.rgN last n s)/\has (Sp.rgN last n s)
 |0,bl,is,s,h,hh,_=>⟨h,hh⟩
 |n+1,bl,is,s,h,hh,hl=>by
  have hL:0<nl s:=hh
  obtain⟨a1,h1,n1,r1⟩:=h.insM hh;have hb:last-((n+1:Nat):Int)=(nl s:Int)-1:=by omega
  have n1':((cB (Sp.insM s).2.2.1).length:Int)=(nl s:Int):=by rw[n1]
  have a2:VM 0 bl (is+8) lb ((n+1:Nat):Int) (rg1 (last-((n+1:Nat):Int)) s):=a1.wTl ⟨by omega,by rw[n1'];exact hb⟩ (.jump (.inl rfl) ⟨last-((n+1:Nat):Int)+1,rfl,by omega,by rw[n1'];omega⟩)
  have n2:nl (rg1 (last-((n+1:Nat):Int)) s)=nl s:=(sH _ _ _).trans (by unfold nl;omega)
  have n2':((cB (rg1 (last-((n+1:Nat):Int)) s).2.2.1).length:Int)=(nl s:Int):=by have:=n2;unfold nl at this⊢;omega
  have a3:VM 0 bl (is+8) lb ((n+1:Nat):Int) (rg2 (last-((n+1:Nat):Int)) last (rg1 (last-((n+1:Nat):Int)) s))/\nl (rg2 (last-((n+1:Nat):Int)) last (rg1 (last-((n+1:Nat):Int)) s))=nl s:=by
   unfold rg2;split
   ·have hv:∀t:Mk,(∀v∈t.1,0<=v/\v<=255)->(nl s:Int)<=rgV (last-((n+1:Nat):Int)) last t/\rgV (last-((n+1:Nat):Int)) last t<(nl s:Int)+((n+1:Nat):Int):=by
     intro t ht;have hm:=fW (fB t ht).1 (k:=last-(last-((n+1:Nat):Int))) (by omega);unfold rgV;constructor<;>omega
    have v1:=hv (nxM (nxM (rg1 (last-((n+1:Nat):Int)) s))) a2.nx.nx.byt
    have v2:=hv (nxM (nxM (nxM (rg1 (last-((n+1:Nat):Int)) s)))) a2.nx.nx.nx.byt
    refine⟨a2.nx.nx.nx.nx.wT ⟨by omega,?_⟩ (.branch ⟨_,_,_,rfl,.inl a2.nx.reg,by omega,?_,by omega,?_⟩),(sH _ _ _).trans n2⟩
    ·show _<((cB (rg1 (last-((n+1:Nat):Int)) s).2.2.1).length:Int);rw[n2'];omega
    ·show _<((cB (rg1 (last-((n+1:Nat):Int)) s).2.2.1).length:Int)+_;rw[n2'];exact v1.2
    ·show _<((cB (rg1 (last-((n+1:Nat):Int)) s).2.2.1).length:Int)+_;rw[n2'];exact v2.2
   ·exact⟨a2.nx,n2⟩
  have a4:VM 1 (bl+1) (is+8) lb (n:Int) (rgS (last-((n+1:Nat):Int)) last s):=a3.1.bl.mono (Nat.le_refl _) (Nat.le_refl _) (Nat.le_refl _) (by omega)
  have n4:nl (rgS (last-((n+1:Nat):Int)) last s)=nl s+1:=(nl_bl _).trans (by rw[a3.2])
  obtain⟨g1,g2⟩:=VM.rgN (last:=last) (n:=n) a4 (by show 0<nl _;omega) (by rw[n4];omega);exact⟨g1.mono (by omega) (by omega) (Nat.le_refl _) (Int.le_refl _),g2⟩
theorem VM.rgn{bl is lb:Nat}{s:Mk}(h:VM 0 bl is lb 1 s){n:Int}(hn:0<=n/\n<3):VM 1 (bl+3) (is+24) lb 0 (rgM s n)/\has (rgM s n):=by
 have a1:VM 1 (bl+1) is lb (n.toNat:Int) (fG s):=(h.mono (Nat.le_refl _) (Nat.le_refl _) (Nat.le_refl _) (show(1:Int)<=n+1 by omega)).bl.mono (Nat.le_refl _) (Nat.le_refl _) (Nat.le_refl _) (by omega)
 have n1:=nl_bl s
 obtain⟨a2,h2⟩:=VM.rgN (last:=nB s+n) a1 (by show 0<nl _;omega) (by rw[n1];show((nl s:Nat):Int)+n=_;omega)
 obtain⟨a3,h3,_,_⟩:=a2.insM h2
 exact⟨a3.mono (by omega) (by omega) (Nat.le_refl _) (Int.le_refl _),h3⟩
theorem VM.q1{bl is lb:Nat}{s:Mk}(h:VM 0 bl is lb 1 s):VM 1 (bl+3) (is+24) lb 0 (q1 s)/\has (q1 s):=h.nx.rgn (h.md (by decide))
theorem VM.q2{bl is lb:Nat}{s:Mk}(h:VM 1 bl is lb 0 s)(hh:has s):VM 1 (bl+3) (is+11) (lb+1) 0 (q2 s)/\has (q2 s):=by
 unfold Sp.q2
 split
 ·obtain⟨a,n⟩:=(h.nx.mono (Nat.le_refl _) (Nat.le_refl _) (Nat.le_refl _) (by decide:(0:Int)<=3)).lp hh
  exact⟨a.bl,has.bl⟩
 ·exact⟨h.nx.mono (by omega) (by omega) (by omega) (Int.le_refl _),hh⟩
theorem VM.mdS{bl is lb:Nat}{s:Mk}(h:VM 0 bl is lb 1 s):VM 0 (bl+6) (is+35) (lb+1) 1 (mdS s):=by
 obtain⟨a1,h1⟩:=h.q1
 obtain⟨a2,h2⟩:=a1.q2 h1
 have hL:0<nl (Sp.q2 (Sp.q1 s)):=h2
 have a2':=a2.mono (Nat.le_refl _) (Nat.le_refl _) (Nat.le_refl _) (by decide:(0:Int)<=1)
 have hn:nB (Sp.q2 (Sp.q1 s))=(nl (Sp.q2 (Sp.q1 s)):Int):=rfl
 have a3:VM 0 (bl+6) (is+35) (lb+1) 1 (q3 (Sp.q2 (Sp.q1 s))):=a2'.wTl ⟨by show 0<=(nl (Sp.q2 (Sp.q1 s)):Int)-1;omega,rfl⟩ (.jump (.inr rfl) ⟨nB (Sp.q2 (Sp.q1 s))-1+1,rfl,by rw[hn];omega,by rw[hn];unfold nl;omega⟩)
 have n3:nl (q3 (Sp.q2 (Sp.q1 s)))=nl (Sp.q2 (Sp.q1 s)):=sH _ _ _
 have n3':((cB (q3 (Sp.q2 (Sp.q1 s))).2.2.1).length:Int)=(nl (Sp.q2 (Sp.q1 s)):Int):=by have:=n3;unfold nl at this⊢;omega
 show VM 0 (bl+6) (is+35) (lb+1) 1 (q4 (nB (Sp.q2 (Sp.q1 s))-1) (q3 (Sp.q2 (Sp.q1 s))))
 unfold q4
 split
 ·have hm:=a3.nx.md (n:=6) (by decide)
  refine a3.nx.nx.nx.nx.nx.wT ⟨by rw[hn];omega,?_⟩ (.collect ⟨_,_,_,_,_,rfl,by omega,by omega,a3.nx.nx.reg,a3.nx.nx.nx.val,a3.nx.nx.nx.nx.val,by rw[hn];omega,?_⟩)
  ·show _<((cB (q3 (Sp.q2 (Sp.q1 s))).2.2.1).length:Int);rw[n3',hn];omega
  ·show _<((cB (q3 (Sp.q2 (Sp.q1 s))).2.2.1).length:Int)+1;rw[n3',hn];omega
 ·exact a3.nx
theorem VM.mdN:∀ {n bl is lb:Nat} {s:Mk},VM 0 bl is lb 1 s->VM 0 (bl+6*n) (is+35*n) (lb+n) 1 (mdN n s)
 |0,bl,is,lb,s,h=>h
 |n+1,bl,is,lb,s,h=>by
  have:=VM.mdN (n:=n) h.mdS
  exact this.mono (by omega) (by omega) (by omega) (Int.le_refl _)
theorem VM.sbN:∀ {n:Nat} {s:Mk},VM 0 0 0 0 1 s->VM 0 0 0 0 1 (sbN n s)
 |0,s,h=>h
 |n+1,s,h=>by
  show VM 0 0 0 0 1 (if _ then _ else _)
  split
  ·rename_i hg
   refine VM.sbN (s:=wS s (2*gS s)) ⟨h.byt,h.arr,h.gp,⟨?_,hg⟩,h.slt,h.par,h.rg,h.rm,h.lps,h.ins,h.trm,h.cb,h.ci,h.cl⟩
   have h1:=h.sp.1
   have h2:=h.gp
   show 2*s.2.2.1.2.1=1∨2*s.2.2.1.2.1=2∨2*s.2.2.1.2.1=4∨2*s.2.2.1.2.1=8
   rcases h1 with e|e|e|e
   ·omega
   ·omega
   ·omega
   ·exfalso
    have hg:s.2.2.1.1.tmod (2*s.2.2.1.2.1)=0:=hg
    rw[e]at hg;rw[Int.tmod_eq_of_lt (by omega) (by omega)]at hg;omega
  ·exact h
structure MdOK(c:Code):Prop where
 arr:cA c=mX
 gp:1<=c.1/\c.1<=8
 sp:(c.2.1=1∨c.2.1=2∨c.2.1=4∨c.2.1=8)/\c.1.tmod c.2.1=0
 slt:c.2.2.2.1=0
 par:c.2.2.2.2.1=3
 rg:6<=c.2.2.1/\c.2.2.1<=14
 lps:∀l∈cL c,(0<=l.1/\l.1<((cB c).length:Int))/\(0<=l.2.1/\l.2.1<c.2.2.1)/\1<=l.2.2.1/\l.2.2.1<=3
 ins:∀b∈cB c,∀i∈b.1,fI c.2.2.1 i
 trm:∀j,j<(cB c).length->fT c.2.2.1 ((cB c).length:Int) ((cB c).getD j bE).2.1
 cb:0<(cB c).length/\(cB c).length<=18
 ci:nI (cB c)<=113
 cl:(cL c).length<=3
theorem md_ok(L:List Int)(hb:Byt (md0 L)):MdOK (dX L):=by
 have a1:VM 0 0 0 0 1 (md1 L):=by
  have hm:=fW (fB (md0 L) hb).1 (k:=5) (by decide)
  have hg:(1:Int)<=([4,1,2,8,6]:List Int).getD (Int.tmod (nxV (md0 L)) 5).toNat 0/\([4,1,2,8,6]:List Int).getD (Int.tmod (nxV (md0 L)) 5).toNat 0<=(8:Int):=by
   generalize Int.tmod (nxV (md0 L)) 5=j at hm
   obtain⟨n,rfl⟩:∃n:Nat,j=(n:Int):=⟨j.toNat,by omega⟩
   have:n<5:=by omega
   rcases (show n=0∨n=1∨n=2∨n=3∨n=4 by omega)with rfl|rfl|rfl|rfl|rfl<;>decide
  exact⟨hb,rfl,hg,⟨.inl rfl,Int.tmod_one _⟩,rfl,rfl,by show(6:Int)+2*((0:Nat):Int)<=6;omega,by show(6:Int)<=8+2*((0:Nat):Int);omega,fun l hl=>(List.not_mem_nil hl).elim,fun b hb=>(List.not_mem_nil hb).elim,fun j hj=>absurd hj (by show ¬j+0<0;omega),Nat.le_refl _,Nat.le_refl _,Nat.le_refl _⟩
 have a2:VM 0 0 0 0 1 (md2 L):=VM.sbN a1.nx
 have hm3:=a2.md (n:=3) (by decide)
 have a3:VM 0 12 70 2 1 (md3 L):=(VM.mdN (n:=(Int.tmod (nxV (md2 L)) 3).toNat) a2.nx).mono (by omega) (by omega) (by omega) (Int.le_refl _)
 obtain⟨a4,h4⟩:=a3.q1
 have a5:VM 1 18 113 3 0 (md4 L)/\has (md4 L):=by
  show VM 1 18 113 3 0 (q5 (Sp.q1 (md3 L)))/\has (q5 (Sp.q1 (md3 L)))
  unfold q5;split
  ·obtain⟨b1,n1⟩:=(a4.nx.mono (Nat.le_refl _) (Nat.le_refl _) (Nat.le_refl _) (by decide:(0:Int)<=3)).lp h4
   obtain⟨b2,h2,_,_⟩:=b1.bl.insM has.bl;exact⟨b2,h2⟩
  ·exact⟨a4.nx.mono (by omega) (by omega) (by omega) (Int.le_refl _),h4⟩
 obtain⟨a5,h5⟩:=a5
 have hL:0<nl (md4 L):=h5
 have hn:nB (md4 L)=(nl (md4 L):Int):=rfl
 have a6:VM 0 18 113 3 0 (md5 L):=a5.wTl ⟨by show 0<=(nl (md4 L):Int)-1;omega,rfl⟩ (.exit rfl)
 have n6:nl (md5 L)=nl (md4 L):=sH _ _ _
 have hr:=a6.rg
 have hr2:=a6.rm
 have hc:=a6.cl
 have e:((cB (md5 L).2.2.1).length:Int)+0=((cB (dX L)).length:Int):=by unfold dX;omega
 exact⟨a6.arr,a6.gp,a6.sp,a6.slt,a6.par,⟨by show 6<=(md5 L).2.2.1.2.2.1;omega,by show(md5 L).2.2.1.2.2.1<=14;omega⟩,fun l hl=>by rw[<-e];exact a6.lps l hl,a6.ins,fun j hj=>by rw[<-e];exact a6.trm j hj,⟨by show 0<nl (md5 L);omega,a6.cb⟩,a6.ci,a6.cl⟩
end Sp
namespace Sp
structure CO(c:Code):Prop where
 arr:cA c=mX
 gp:1<=c.1/\c.1<=8
 sp:(c.2.1=1∨c.2.1=2∨c.2.1=4∨c.2.1=8)/\c.1.tmod c.2.1=0
 slt:c.2.2.2.1=0
 par:c.2.2.2.2.1=3
 rg:6<=c.2.2.1/\c.2.2.1<=256
 lps:∀l∈cL c,(0<=l.1/\l.1<((cB c).length:Int))/\(0<=l.2.1/\l.2.1<c.2.2.1)/\1<=l.2.2.1/\l.2.2.1<=3
 ins:∀b∈cB c,∀i∈b.1,fI c.2.2.1 i
 trm:∀j,j<(cB c).length->fT c.2.2.1 ((cB c).length:Int) ((cB c).getD j bE).2.1
 cb:0<(cB c).length/\(cB c).length<=400
 ci:nI (cB c)<=2000
 cl:(cL c).length<=400
theorem MdOK.co{c:Code}(h:MdOK c):CO c:=
 ⟨h.arr,h.gp,h.sp,h.slt,h.par,by have:=h.rg;omega,h.lps,h.ins,h.trm,by have:=h.cb;omega,by have:=h.ci;omega,by have:=h.cl;omega⟩
theorem nI_mem{B:List Block}{b:Block}(h:b∈B):b.1.length<=nI B:=by
 induction B with
 |nil=>cases h
 |cons a B ih=>
  have e:nI (a::B)=a.1.length+nI B:=rfl
  rcases List.mem_cons.1 h with rfl|h
  ·omega
  ·have:=ih h;omega
theorem yI(B:List Block):(B.flatMap (fun b=>b.1)).length=nI B:=by
 induction B with
 |nil=>rfl
 |cons a B ih=>
  have e:nI (a::B)=a.1.length+nI B:=rfl
  rw[List.flatMap_cons,List.length_append,ih,e]
theorem nI_le{B:List Block}{n:Nat}(h:∀b∈B,b.1.length<=n):nI B<=B.length*n:=by
 rw[<-yI];exact flat_len h
theorem allI_ok(x:List Int)(hb:Byt (md0 x)):(j7 x).length<=113/\∀i∈j7 x,fI (dX x).2.2.1 i:=by
 have h:=md_ok x hb
 have e:j7 x=(cB (dX x)).flatMap (fun b=>b.1):=by unfold j7 sB;rw[List.take_length]
 rw[e]
 refine⟨by rw[yI];exact h.ci,fun i hi=> ?_⟩
 obtain⟨b,hb1,hb2⟩:=List.mem_flatMap.1 hi
 exact h.ins b hb1 i hb2
theorem selA_mem{x:List Int}{how:Int}{b:Nat}{i:Inst}(h:i∈selA x how b):i∈j7 x:=by
 unfold selA pA at h
 obtain⟨h1,_⟩:=List.mem_filter.1 h
 obtain⟨k,hk,rfl⟩:=List.mem_map.1 h1
 rw[List.mem_range]at hk
 have hl:b+8*k<(j7 x).length:=by
  rcases Nat.lt_or_ge (b+8*k) (j7 x).length with g|g
  ·exact g
  ·have:=Nat.lt_div_iff_mul_lt (by omega:0<8)|>.1 hk
   omega
 rw[gat hl]
 exact List.getElem_mem hl
theorem selA_len(x:List Int)(how:Int)(b:Nat)(h:(j7 x).length<=113):(selA x how b).length<=15:=by
 have:=selJ_len x how b (((j7 x).length+7-b)/8)
 show(pA x how b _).length<=15
 omega
theorem trm1_ok(how r:Int)(hr:6<=r){b:Nat}(hb:b<8):fT r 8 (trm1 how b):=by
 have hreg:∀n:Int,0<=n->n<6->isV r (bK n):=fun n h0 h1=> .inl (.reg h0 (by omega))
 have hbr:∀o a c,isV r o->0<=a->a<8->0<=c->c<8->fT r 8 (2,0,bM,o,bM,[a,c],()):=fun o a c ho h0 h1 h2 h3=> .branch ⟨o,a,c,rfl,ho,h0,h1,h2,h3⟩
 unfold trm1 trm0 toA
 rcases (show b=0∨b=1∨b=2∨b=3∨b=4∨b=5∨b=6∨b=7 by omega)with rfl|rfl|rfl|rfl|rfl|rfl|rfl|rfl
 ·rw[if_neg (by decide),if_pos (by decide)]
  split
  ·exact hbr _ _ _ (hreg _ (by decide) (by decide)) (by decide) (by decide) (by decide) (by decide)
  split
  ·exact hbr _ _ _ (hreg _ (by decide) (by decide)) (by decide) (by decide) (by decide) (by decide)
  ·exact hbr _ _ _ (hreg _ (by decide) (by decide)) (by decide) (by decide) (by decide) (by decide)
 ·rw[if_neg (by decide),if_neg (by decide)];exact .jump (.inl rfl) ⟨3,rfl,by decide,by decide⟩
 ·rw[if_neg (by decide),if_neg (by decide)];exact .jump (.inl rfl) ⟨3,rfl,by decide,by decide⟩
 ·rw[if_neg (by decide),if_pos (by decide)]
  split
  ·exact hbr _ _ _ (hreg _ (by decide) (by decide)) (by decide) (by decide) (by decide) (by decide)
  split
  ·exact hbr _ _ _ (hreg _ (by decide) (by decide)) (by decide) (by decide) (by decide) (by decide)
  ·exact hbr _ _ _ (hreg _ (by decide) (by decide)) (by decide) (by decide) (by decide) (by decide)
 ·rw[if_neg (by decide),if_neg (by decide)];exact .jump (.inl rfl) ⟨6,rfl,by decide,by decide⟩
 ·rw[if_neg (by decide),if_neg (by decide)];exact .jump (.inl rfl) ⟨6,rfl,by decide,by decide⟩
 ·rw[if_pos (by decide)]
  split
  ·exact hbr _ _ _ (hreg _ (by decide) (by decide)) (by decide) (by decide) (by decide) (by decide)
  ·exact .exit rfl
 ·rw[if_pos (by decide),if_neg (fun h=>absurd h.1 (by decide))]
  exact .exit rfl
theorem armC_ok{m:Code}(h:MdOK m){B:List Block}(hl:B.length=8)(hi:∀b∈B,∀i∈b.1,fI m.2.2.1 i)(ht:∀j,j<8->fT m.2.2.1 8 (B.getD j bE).2.1)(hn:nI B<=2000):CO (m.1,m.2.1,m.2.2.1,0,m.2.2.2.2.1,m.2.2.2.2.2.1,[],B,()):=by
 have e:cB (m.1,m.2.1,m.2.2.1,0,m.2.2.2.2.1,m.2.2.2.2.2.1,[],B,())=B:=rfl
 refine⟨h.arr,h.gp,h.sp,rfl,h.par,by have:=h.rg;exact⟨this.1,by show m.2.2.1<=256;omega⟩,fun l hl=>(List.not_mem_nil hl).elim,?_,?_,?_,?_,by show(0:Nat)<=400;omega⟩
 ·rw[e];exact hi
 ·rw[e,hl];exact ht
 ·rw[e,hl];omega
 ·rw[e];exact hn
theorem armd_ok(x:List Int)(hb:Byt (md0 x))(how:Int)(hh:0<=how/\how<=255):CO (armd x how):=by
 have h:=md_ok x hb
 obtain⟨h1,h2⟩:=allI_ok x hb
 have hlen:(mJ x how 8).length=8:=vP x how 8
 have hat:∀j,j<8->(mJ x how 8).getD j bE=blkA x how j:=fun j hj=>oU 8 (blkA x how) bE hj
 have hpl:(sS how (mJ x how 8)).length=8:=by unfold sS;split<;>simp[hlen]
 have hpat:∀j,j<8->(sS how (mJ x how 8)).getD j bE=blkA x how j∨(j=1/\(sS how (mJ x how 8)).getD j bE=toP (blkA x how 1) (1+how/64)):=by
  intro j hj;unfold sS;split
  ·rw[kB _ _ _ _ _ (by omega),hat 1 (by omega)]
   split
   ·rename_i e;exact .inr ⟨e.symm,rfl⟩
   ·exact .inl (hat j hj)
  ·exact .inl (hat j hj)
 have hin:∀j,j<8->((sS how (mJ x how 8)).getD j bE).1=selA x how j:=by
  intro j hj;rcases hpat j hj with e|⟨rfl,e⟩
  ·rw[e];rfl
  ·rw[e];rfl
 have hmem:∀b∈sS how (mJ x how 8),∃j,j<8/\b=(sS how (mJ x how 8)).getD j bE:=by
  intro b hb;obtain⟨j,hj,e⟩:=List.mem_iff_getElem.1 hb;exact⟨j,by omega,by rw[gat hj];exact e.symm⟩
 unfold armd armC
 generalize dX x=m at *
 refine armC_ok h hpl ?_ ?_ ?_
 ·intro b hb i hi
  obtain⟨j,hj,rfl⟩:=hmem b hb;rw[hin j hj]at hi;exact h2 i (selA_mem hi)
 ·intro j hj
  have hr:(6:Int)<=m.2.2.1:=h.rg.1
  rcases hpat j hj with e|⟨rfl,e⟩
  ·rw[e];exact trm1_ok how _ hr hj
  ·rw[e]
   exact .jump (.inl rfl) ⟨1+how/64,rfl,by omega,by omega⟩
 ·have:=nI_le (B:=sS how (mJ x how 8)) (n:=15) (fun b hb=>by
   obtain⟨j,hj,rfl⟩:=hmem b hb;rw[hin j hj];exact selA_len x how j h1)
  rw[hpl]at this;omega
theorem both_ok(x:List Int)(hb:Byt (md0 x))(how:Int)(hh:0<=how/\how<=255):CO (vL x how):=by
 unfold vL
 split
 ·exact(md_ok x hb).co
 ·exact armd_ok x hb how hh
theorem isV.op{r:Int}{o:Opd}(h:isV r o):oT r o:=by
 intro h2
 rcases h with h|h
 ·exact h.2.2
 ·rw[h.1]at h2;exact absurd h2 (by decide)
theorem isZ.op{r:Int}{o:Opd}(h:isZ o):oT r o:=by
 intro h2
 rw[h]at h2;exact absurd h2 (show ¬(0:Int)=2 by decide)
theorem fI.inOK{r:Int}{i:Inst}(h:fI r i)(hr:0<r):inOK r i:=by
 have hz:isZ (dI i)->0<=iD i/\iD i<r:=fun e=>by
  have:iD i=0:=by show(dI i).2.1=0;rw[e];rfl
  omega
 cases h with
 |mov o s n d a b c=>exact⟨d.2.2,a.op,b.op,c.op⟩
 |un o s n d a b c=>exact⟨d.2.2,a.op,b.op,c.op⟩
 |bin o s n d a b c=>exact⟨d.2.2,a.op,b.op,c.op⟩
 |sel o s n d a b c=>exact⟨d.2.2,a.op,b.op,c.op⟩
 |id o s n d a b c=>exact⟨d.2.2,a.op,b.op,c.op⟩
 |param o s n d a b c=>exact⟨d.2.2,a.op,b.op,c.op⟩
 |load o s n d a b c=>exact⟨d.2.2,a.op,b.op,c.op⟩
 |store o s n d a b c=>exact⟨hz d,a.op,b.op,c.op⟩
 |atom o s n d a b c=>exact⟨hz d,a.op,b.op,c.op⟩
 |fence o s n d a b c=>exact⟨hz d,a.op,b.op,c.op⟩
theorem fT.props{r n:Int}{t:Term}(h:fT r n t):t.2.2.2.2.2.1.length=2/\oT r t.2.2.2.1/\∀a∈aR t,0<=a/\a<n:=by
 cases h with
 |jump k e=>
  obtain⟨a,e,h0,h1⟩:=e;rw[e];refine⟨rfl,isZ.op rfl,?_⟩;unfold aR;rw[if_neg (by show ¬t.1=5;omega),if_neg (fun g=>by have:t.1=2:=g.1;omega)]
  intro b hb;rw[List.mem_singleton.1 hb];exact⟨h0,h1⟩
 |branch e=>
  obtain⟨o,a,b,e,h0,h1,h2,h3,h4⟩:=e;subst e;refine⟨rfl,h0.op,?_⟩;unfold aR;rw[if_neg (by show ¬(2:Int)=5;decide)];split
  ·intro c hc
   have hc:c∈[a,b]:=hc
   simp only[List.mem_cons,List.not_mem_nil,or_false]at hc;rcases hc with rfl|rfl
   ·exact⟨h1,h2⟩
   ·exact⟨h3,h4⟩
  ·intro c hc
   rw[List.mem_singleton.1 hc];exact⟨h1,h2⟩
 |collect e=>
  obtain⟨s,d,o,p,a,e,h0,h1,h2,h3,h4,h5,h6⟩:=e;subst e;refine⟨rfl,h3.op,?_⟩;unfold aR;rw[if_neg (by show ¬(4:Int)=5;decide),if_neg (fun g=>absurd g.1 (show ¬(4:Int)=2 by decide))]
  intro b hb;rw[List.mem_singleton.1 hb];exact⟨h5,h6⟩
 |exit e=>
  subst e;refine⟨rfl,isZ.op rfl,?_⟩;intro a ha;have:aR (5,0,bM,bM,bM,[0,0],())=[]:=if_pos rfl;rw[this]at ha;cases ha
theorem CO.t{c:Code}(h:CO c):okT c:=
 ⟨h.cb.1,by have:=h.cb;omega,fun b hb t ht=>(h.trm b hb).props.2.2 t ht,fun b hb=>(h.trm b hb).props.1⟩
theorem CO.mem{c:Code}{b:Nat}(hb:b<(cB c).length):(cB c).getD b bE∈cB c:=by rw[gat hb];exact List.getElem_mem hb
theorem CO.a{c:Code}(h:CO c):okA c:=
 ⟨h.t,fun b hb=>by have:=nI_mem (CO.mem hb);have:=h.ci;show((cB c).getD b bE).1.length<=3000;omega,by have:=h.rg;omega,fun b hb i hi=>((h.ins _ (CO.mem hb) i hi).inOK (by have:=h.rg;omega)).d⟩
theorem CO.v{c:Code}(h:CO c):okV c:=
 ⟨by rw[h.arr];decide,by have:=h.cl;omega,fun b hb i hi=>(h.ins _ (CO.mem hb) i hi).inOK (by have:=h.rg;omega)⟩
theorem CO.q{c:Code}(h:CO c):okQ c:=fun b hb=>(h.trm b hb).props.2.1
theorem CO.r{c:Code}(h:CO c):okR c:=yB h.q
end Sp
namespace Go.User
open Go Go.Proofs Go.RowKit Go.Lib Go.Lf
set_option maxHeartbeats 2000000 in
theorem ok24:FOk Try.prog 24 S24:=by
 have hC:aG Try.prog C24:=okC (aE ok23 (aE ok47 (aE ok17 aS))) rfl rfl rfl rfl rfl rfl rfl
 refine FOk.introT hC (dG hC) Try.call24 Try.func24 (by kernel_rfl) (by kernel_rfl) T24 ?_
 rw[vc24]
 simp only[zz,zy]
 rintro⟨⟨L,uL⟩,how,u⟩ ⟨hL,hh⟩
 have hb0:(([],(0,0,(0,0,0,()),(0,0,0,()),(0,0,0,()),List.replicate 2 0,()),()):Sp.Block)=Sp.bE:=rfl
 have hi0:((0,0,0,(0,0,0,()),(0,0,0,()),(0,0,0,()),(0,0,0,()),()):Sp.Inst)=cZ:=rfl
 have hm:Sp.qW (Sp.cB (Sp.md4 L).2.2.1) (Sp.nB (Sp.md4 L)-1) (Sp.tJ 5 0 0)=Sp.cB (Sp.dX L):=rfl
 have hbu:∀a m:Int,IntKind.u8.wrap ((BitVec.ofInt 8 a&&&BitVec.ofInt 8 m).toNat:Int)=Sp.bitU a m:=fun _ _=>rfl
 dsimp only at *
 simp only[hb0,hi0,hm,hbu]
 have hb:Sp.Byt (Sp.md0 L):=hL.1.2
 have h:=Sp.md_ok L hb
 have hcb:=h.cb
 have hci:=h.ci
 have hfl:∀k,(Sp.sB L k).length<=113:=fun k=>by
  have h1:((Sp.cB (Sp.dX L)).take k++(Sp.cB (Sp.dX L)).drop k)=Sp.cB (Sp.dX L):=List.take_append_drop _ _
  have h2:=congrArg Sp.nI h1
  rw[Sp.nI_app]at h2;unfold Sp.sB;rw[Sp.yI];omega
 have hb8:∀b:Nat,b<8->(Int.tmod (b:Int) 3=((b%3:Nat):Int))/\Int.tdiv (b:Int) 3*3+3=Sp.j3 b/\Int.tmod (b:Int) 5=((b%5:Nat):Int)/\Int.tdiv (b:Int) 3<=3/\0<=Int.tdiv (b:Int) 3:=by
  intro b hb;rcases (show b=0∨b=1∨b=2∨b=3∨b=4∨b=5∨b=6∨b=7 by omega)with rfl|rfl|rfl|rfl|rfl|rfl|rfl|rfl<;>decide
 have k3:∀b:Nat,b<8->((¬(3:Int)=0/\inK .i64 (Int.tdiv (b:Int) 3))/\inK .i64 (Int.tdiv (b:Int) 3*3)/\inK .i64 (Int.tdiv (b:Int) 3*3+3)):=fun b hb=>by
  obtain⟨_,_,_,g1,g2⟩:=hb8 b hb;exact⟨⟨by decide,aQ (by omega) (by omega)⟩,aQ (by omega) (by omega),aQ (by omega) (by omega)⟩
 have hfld:∀B,((Sp.md4 L).2.2.1.1,(Sp.md4 L).2.2.1.2.1,(Sp.md4 L).2.2.1.2.2.1,(0:Int),(Sp.md4 L).2.2.1.2.2.2.2.1,(Sp.md4 L).2.2.1.2.2.2.2.2.1,([]:List Sp.Loop),(B:List Sp.Block),())=Sp.armC L B:=fun B=>rfl
 refine⟨⟨0,Nat.zero_le _,rfl,rfl⟩,fun k hk _=>⟨fun hlt=> ?_,fun hge=>⟨⟨0,by omega,hfld [],rfl⟩,fun b hb8' _=>⟨fun hlt=>⟨⟨0,.inl rfl,rfl,by simp⟩,fun j hj _=>⟨fun hlt2=> ?_,fun hge2=>⟨k3 b (by omega),?_,fun _=>⟨?_,fun _=> ?_⟩⟩⟩⟩,fun hge3=> ?_⟩⟩⟩⟩
 ·have hkl:k<(Sp.cB (Sp.dX L)).length:=by omega
  have h1:=Sp.allN_succ L hkl
  have h2:=hfl (k+1)
  rw[h1,List.length_append]at h2;exact⟨⟨⟨by omega,hlt⟩,gW (by omega)⟩,aQ (by omega) (by omega),k+1,by omega,by omega,h1.symm,by simp⟩
 ·have hkk:k=(Sp.cB (Sp.dX L)).length:=by omega
  subst hkk;have hall:Sp.sB L (Sp.cB (Sp.dX L)).length=Sp.j7 L:=rfl;rw[hall]at hlt2⊢;have hfa:(Sp.j7 L).length<=113:=hfl _;have hs:=Sp.selJ_succ L how b j;have hsl:=Sp.selJ_len L how b j;obtain⟨e3,_⟩:=hb8 b (by omega);have hbj:b+8*j<(Sp.j7 L).length:=by omega
  have hin:inN ((b+8*j:Nat):Int) (Sp.j7 L).length:=⟨by omega,by omega⟩
  have hkk:inK .i64 (((b+8*j:Nat):Int)+8):=aQ (by omega) (by omega)
  have hpk:Sp.pckA how b ((Sp.j7 L).getD (b+8*j) cZ)=(Int.tmod (b:Int) 3==0||Sp.gA ((Sp.j7 L).getD (b+8*j) cZ)||how%16==9):=by
   unfold Sp.pckA;rw[e3,Bool.or_assoc]
   congr 1
   rw[Bool.eq_iff_iff];simp only[decide_eq_true_iff,beq_iff_eq];omega
  refine⟨⟨by decide,fun _=>hin,fun _=>by decide⟩,fun hc=>⟨⟨hin,gW (by omega)⟩,hkk,j+1,.inr (by omega),by omega,by rw[hs,if_pos (by rw[hpk];exact hc)],by omega⟩,fun hc=>⟨hkk,j+1,.inr (by omega),by omega,?_,by omega⟩⟩
  rw[hs,if_neg];rw[hpk];simp only[Bool.or_eq_true,beq_iff_eq];rintro ((g|g)|g)
  ·exact hc.1.1 g
  ·rw[hc.1.2]at g;cases g
  ·exact hc.2 g
 ·obtain⟨e3,ej,e5,_⟩:=hb8 b (by omega)
  have kb:=k3 b (by omega)
  have kb1:inK .i64 ((b:Int)+1):=aQ (by omega) (by omega)
  have kb2:inK .i64 ((b:Int)+2):=aQ (by omega) (by omega)
  have hset:∀p q:Int,((List.replicate 2 (0:Int)).set 0 p).set 1 q=[p,q]:=fun _ _=>rfl
  rw[ej];simp only[hset,e5];have kj:inK .i64 (Sp.j3 b):=by rw[<-ej];exact kb.2.2
  have h0:∀t,t=Sp.toA how b->Int.tmod (b:Int) 3=0->∃_u:Unit,((2,0,(0,0,0,()),Sp.bK ((b%5:Nat):Int),(0,0,0,()),t,()):Sp.Term)=Sp.trm0 how b:=fun t ht g=>⟨(),by
   unfold Sp.trm0;rw[if_pos (by rw[e3]at g;omega),ht]
   rfl⟩
  refine⟨by decide,fun g=>⟨⟨by decide,kb1,kb2⟩,fun g1=>⟨⟨kb1,kb.1,kb.2.1,kj⟩,fun g6=>⟨⟨kb.1,kb.2.1,kj,kb2⟩,h0 _ ?_ g⟩,fun g6=>h0 _ ?_ g⟩,fun g1=>⟨fun g6=>⟨⟨kb.1,kb.2.1,kj,kb2⟩,h0 _ ?_ g⟩,fun g6=>h0 _ ?_ g⟩⟩,fun g=>⟨(),?_⟩⟩
  ·unfold Sp.toA;rw[if_pos g6]
  ·unfold Sp.toA;rw[if_neg g6,if_pos g1]
  ·unfold Sp.toA;rw[if_pos g6]
  ·unfold Sp.toA;rw[if_neg g6,if_neg g1]
  ·unfold Sp.trm0
   rw[if_neg (by rw[e3]at g;omega)]
   rfl
 ·refine⟨fun g=>⟨fun q=>⟨(),?_⟩,fun q=>⟨(),?_⟩⟩,fun g=>⟨(),?_⟩⟩
  ·unfold Sp.trm1
   rw[if_pos (by omega),if_pos ⟨by omega,q.2⟩]
   rfl
  ·unfold Sp.trm1
   rw[if_pos (by omega),if_neg (fun w=>no_and2 q ⟨by omega,w.2⟩)]
   rfl
  ·unfold Sp.trm1
   rw[if_neg (by omega)]
 ·have hkk:k=(Sp.cB (Sp.dX L)).length:=by omega
  subst hkk;have hall:Sp.sB L (Sp.cB (Sp.dX L)).length=Sp.j7 L:=rfl;rw[hall]at hge2;refine⟨by rw[Sp.vP];exact gW (by omega),aQ (by omega) (by omega),b+1,by omega,by omega,?_,by simp⟩
  have hsel:Sp.pA L how b j=Sp.selA L how b:=by
   unfold Sp.selA
   congr 1
   omega
  rw[hfld,Sp.armB_succ,hsel]
  rfl
 ·have hb:b=8:=by omega
  subst hb;have hsh:how/2^iJ .u8 6=how/64:=rfl;have hh1:(0:Int)<=how:=hh.1;have hh2:how<=(255:Int):=hh.2;refine⟨fun g=>⟨⟨by decide,by rw[hsh];exact aQ (by omega) (by omega),⟨by omega,by rw[Sp.vP];omega⟩,⟨by omega,by omega⟩⟩,?_⟩,fun g=> ?_⟩
  ·rw[hfld]
   unfold Sp.armd Sp.sS;rw[if_pos g]
   rfl
  ·unfold Sp.armd Sp.sS
   rw[if_neg g]
theorem ok7:FOk Try.prog 7 S7:=by
 have hC:aG Try.prog C7:=okC (aE ok23 (aE ok24 aS)) rfl rfl rfl rfl rfl rfl rfl
 refine FOk.intro hC (dG hC) Try.call7 Try.func7 (by kernel_rfl) (by kernel_rfl) L7 ?_
 rw[vc7]
 simp only[zz,zy]
 rintro⟨⟨L,uL⟩,how,u⟩ _
 dsimp only
 have hbu:∀a m:Int,IntKind.u8.wrap ((BitVec.ofInt 8 a&&&BitVec.ofInt 8 m).toNat:Int)=Sp.bitU a m:=fun _ _=>rfl
 simp only[hbu]
 unfold Sp.vL
 exact⟨fun h=>by rw[if_pos h],fun h=>by rw[if_neg h]⟩
end Go.User
namespace Sp
noncomputable section
def sT(l:List Int)(i:Nat):List Int:=(l.take i).map (fun v=>v%16-2)
end
end Sp
namespace Go.User
open Go.Lf
noncomputable section
abbrev mCpS:Md:= .pair .shr (.pair .shr (.pair .shr (.pair .shr (.pair .shr (.pair .shr (.pair .shr (.pair (.own .shr) .shr)))))))
def S6:bD:={args:=[],multi:=false,res:= .bool,mode:= .shr,pre:=fun _=>True,fn:=fun _=>true}
def C6:Ctx:={mkC 113 [(18,S18),(14,S14),(9,S9),(16,S16),(20,S20),(17,S17),(19,S19),(11,S11),(12,S12),(13,S13),(22,S22)]with mds:=[(1,.shr),(2,.shr),(11,mCp),(3,mCp),(39,.own .shr),(40,.shr),(45,.shr),(63,.own .shr),(4,.shr)],frz:=[5,8,92,39,63,86]}
def T6(x:aH S6.args):KT:= .s (.i []) (.s (.i []) (.s (.i []) (.s (.i []) (.y 3 mCpS []))))
abbrev tZ2:Ty:= .arr 2 (.slice tU8)
def S3:bD:={args:=[.val tRaw,.val tU8,.val tZ2],multi:=false,res:= .bool,mode:= .shr,pre:=fun _=>True,fn:=fun _=>true}
def C3:Ctx:={mkC 123 [(6,S6),(7,S7),(8,S8),(9,S9),(10,S10),(11,S11),(12,S12),(13,S13),(14,S14),(15,S15)]with mds:=[(8,.shr),(9,.shr),(10,.shr),(11,.shr),(56,mCnv),(12,mCnv),(78,.own .shr),(79,.own .shr),(14,.shr)],frz:=[83]}
def L3(x:aH S3.args):List aW:=[
 {ι:=Nat,inv:=fun i=>i<=12/\i<=List.length (List.getD x.2.2.1 1 []),dec:=fun i=>12-i,ovr:=fun i=>[(12,.box jB mCnv (Sp.sT (List.getD x.2.2.1 1 []) i,())),(13,.shr tI (i:Int))],keep:=[1,3,5,6,7,8,9,10,11]}]
end
end Go.User
namespace Go.User
open Go.Proofs Go.Lf
set_option maxRecDepth 100000
theorem vc6:(oZ C6 (dL [] C6) S6 T6 Try.f6)=(
let q0:=(True/\True)/\True;
let q1:=True/\True/\True;
let q2:=(Sp.cB Sp.exC).length;
let q3:=(5000:Nat);
let q4:=q2<=q3;
let q5:Int:=(3:Int);
let q6:=q4/\(0:tI.den)<=q5/\q5<=(5000:tI.den);
let q7:Int:=(0:Int);
let q8:Int:=(2:Int);
let q9:Sp.Opd:=Sp.bK q7;
let q10:Int:=(1:Int);
let q11:Sp.Term:=Sp.mA q5;
let q12:Sp.Term×Unit:=(q11,());
let q13:Int:=(5:Int);
let q14:List Sp.Block:=(([]:List Sp.Inst),(q8,q7,Sp.bM,q9,Sp.bM,q10::q8::([]:List Int),()),())::(Sp.exI1,q12)::(Sp.exI2,q12)::(([]:List Sp.Inst),(q13,q7,Sp.bM,Sp.bM,Sp.bM,q7::q7::([]:List Int),()),())::([]:List Sp.Block);
let q15:Sp.Opd:=Sp.bK q5;
let q16:Sp.Opd:=(q7,q7,q7,());
let q17:Sp.Opd×Unit:=(q16,());
let q18:Sp.Opd×Sp.Opd×Unit:=(q16,q17);
let q19:Int:=(4:Int);
let q20:Sp.Opd:=Sp.bK q19;
let q21:Sp.Opd:=Sp.bK q13;
let q22:Sp.Opd:=Sp.bK (6:Int);
let q23:Sp.Opd:=Sp.bK q8;
let q24:List Sp.Block:=q14.set q7.toNat ((q10,q7,q7,q15,q9,q18)::(q10,q7,q7,q20,Sp.fY q13,q18)::(q5,(10:Int),q7,q21,q9,Sp.fY q10,q17)::(q10,q7,q7,q22,q21,q18)::(q19,q7,q7,Sp.bK q10,q15,q20,q21,())::(q19,q7,q7,q23,q15,q23,q22,())::([]:List aC.den),q11,());
let q25:=q10.toNat;
let q26:Int×Sp.Opd×Sp.Opd×Sp.Opd×List Int×Unit:=(q7,q16,q16,q16,List.replicate (2:Nat) q7,());
let q27:List Sp.Block:=q24.set q25 (([]:List aC.den),(q13,q26),());
let q28:=q27.length;
let q29:Sp.Code:=(q19,q8,(7:Int),q7,q7,([]:List Sp.Arr),([]:List Sp.Loop),q27.set q8.toNat (q27.getD q25 (([]:List aC.den),(q7,q26),())),());
let q30:Bool:= !Sp.eF (Sp.iY Sp.exC (Sp.dN Sp.exC false)) q29;
let q31:=(true&&bif q30 then false else true)=true->True;
let q32:List Int:=Sp.gD Sp.exC (Sp.dN Sp.exC false);
let q33:Bool:=bif q30 then true else !Sp.mS q32 (q7::([]:List tI.den));
let q34:=(true&&bif q33 then false else true)=true;
let q35:=q34->True;
let q36:Bool:=bif q33 then true else Sp.fK Sp.exC q29 q32 !=q7;
let q37:=(true&&bif q36 then false else true)=true;
let q38:=q37->True;
let q39:Int:=(100:Int);
let q40:Bool:=bif q36 then true else Sp.fK Sp.exC Sp.exC q32 !=q39;
let q41:=(true&&bif q40 then false else true)=true;
let q42:=q41->True;
let q43:Bool:=bif q40 then true else Sp.fK Sp.exC q29 (([]:List tI.den)) !=q39;
let q44:Bool:=Sp.eF (Sp.iY Sp.exC (Sp.dN Sp.exC true)) Sp.exC;
let q45:=(true&&bif q44 then true else false)=true->True;
let q46:List Int:=Sp.gD Sp.exC (Sp.dN Sp.exC true);
let q47:Bool:=bif q44 then(↑q46.length:Int)==q7 else false;
let q48:=(true&&bif q47 then true else false)=true;
let q49:=q48->True;
∀(x:Unit),True->True->q0/\(q1/\True/\True)/\((True/\True/\q6/\(Sp.okA Sp.exC/\Sp.okR Sp.exC/\q2<=(List.replicate q2 false).length)/\True/\True)/\True/\True)/\((True/\((Sp.cA Sp.exC).length<=q3/\(Sp.cL Sp.exC).length<=q3/\q4/\∀(b:Sp.Block),b∈Sp.cB Sp.exC->b.1.length<=q3)/\True/\True)/\True/\True)/\((True/\True)/\True/\True)/\((True/\True/\True/\True/\True/\True/\True/\True/\True/\True/\True/\True/\True/\True/\True/\True/\True/\True/\True/\True/\True/\True/\True/\True/\True/\True/\True/\True/\inN q7 q14.length/\True)/\True/\True)/\((True/\True/\True/\True/\inN q10 q24.length/\True)/\True/\True)/\((True/\True/\True/\True/\inN q10 q28/\True/\inN q8 q28/\True)/\True/\True)/\((True/\True/\True/\True/\True/\True/\q31/\q31/\q31/\q31/\q31/\q31/\True/\True/\q35/\q35/\q35/\q35/\(q34->Sp.okA Sp.exC)/\q35/\True/\True/\q38/\q38/\q38/\q38/\(q37->Sp.okA Sp.exC)/\q38/\True/\True/\q42/\q42/\q42/\(q41->Sp.okA Sp.exC)/\q42/\True/\True)/\True)/\(q43=true->q0/\false=true)/\(q43=false->((True/\True/\q6/\(Sp.okA Sp.exC/\Sp.okR Sp.exC/\q2<=(List.replicate q2 true).length)/\True/\True)/\True/\True)/\((True/\True/\True/\True/\True/\q45/\q45/\q45/\q45/\q45/\True/\True/\q49/\q49/\q49/\q49/\(q48->Sp.okA Sp.exC)/\q49/\q1)/\True)/\(bif q47 then Sp.fK Sp.exC Sp.exC q46==q7 else false)=true)):=by kernel_rfl
theorem vc3:(eR C3 (dL [] C3) S3 L3 Try.f3)=(
let q0:=(2:Nat);
let q1:=True/\True/\True;
let q2:=True/\q1;
let q3:=q1/\True;
let q4:=(True/\True)/\True;
let q5:=q4/\false=true;
let q6:Int:=(0:Int);
let q7:=(5000:Nat);
let q8:Int:=(0:tI.den);
let q9:Int:=(5000:tI.den);
let q10:=q6.toNat;
let q11:=(12:Nat);
let q12:=(1:Nat);
let q13:=false=false;
let q14:=true=true;
let q15:Int:=(1:Int);
let q16:=inN q15 q0;
let q17:=q15.toNat;
let q18:Int:=(16:Int);
let q19:Int:=(2:Int);
let q20:List aD:=aD.fst::([]:List aD);
∀(x:(List Int×Unit)×Int×List (List Int)×Unit),
 let q21:Sp.Code:=Sp.vL x.1.1 x.2.1;
 let q22:=(Sp.cB q21).length;
 let q23:=q22<=q7;
 let q24:Int:=q21.2.2.1;
 let q25:=q8<=q24;
 let q26:=q24<=q9;
 let q27:=Sp.okA q21;
 let q28:List Int:=x.2.2.1.getD q10 (([]:List tU8.den));
 let q29:Sp.Uni:=Sp.kS q21 q28 q28.length;
 let q30:=q22<=q29.1.length;
 let q31:=Sp.okV q21;
 let q32:=Sp.okQ q21;
 let q33:Sp.Code:=Sp.iY q21 q29;
 let q34:Bool:= !Sp.eF q33 q33;
 let q35:=(true&&bif q34 then false else true)=true->True;
 let q36:List Int:=Sp.gD q21 q29;
 let q37:Bool:=bif q34 then true else !Sp.mS q36 q36;
 let q38:=(true&&bif q37 then false else true)=true;
 let q39:=q38->True;
 let q40:Bool:=bif q37 then true else Sp.fK q21 q33 q36 !=q6;
 let q41:List Int:=x.2.2.1.getD q12 (([]:List Int));
 let q42:Sp.Code×(List Int×Unit)×Unit:=(q33,(q36,()),());
 let q43:=x.2.1=x.2.1/\x.1=x.1/\x.2.2.1=x.2.2.1/\q13/\q14/\q21=q21/\q29=q29/\q42=q42/\q42=q42/\True;
 let q44:List Int:=x.2.2.1.getD q17 (([]:List tU8.den));
 let q45:=q44.length;
 let q46:=q27/\q31/\q32;
 let q47:Sp.Uni:=Sp.dN q21 false;
 let q48:Sp.Code:=Sp.iY q21 q47;
 let q49:List Int:=Sp.gD q21 q47;
 let q50:Int:=Sp.fK q21 q33 q49;
 True->
 aB (tU8.slice.prod Ty.unit) x.1/\aB tU8 x.2.1/\aB (Ty.arr q0 tU8.slice) x.2.2.1/\True->
 (q2/\True)/\
 q3/\
 q3/\
 ((!true)=true->q5)/\
 ((!true)=false->
 ((True/\q2)/\True/\True)/\
 ((True/\inN q6 q0/\True/\(q23/\q25/\q26/\(0:Nat)<q22)/\True/\True)/\True/\True)/\
 ((True/\True/\(q27/\Sp.okR q21/\q30)/\True/\True/\(q27/\q31/\q32/\q30)/\q1)/\q1)/\
 ((True/\True/\True/\True/\True/\True/\True/\q35/\q35/\q35/\q35/\q35/\q35/\q35/\q35/\True/\True/\q39/\q39/\q39/\q39/\q39/\(q38->q27)/\q39/\True/\True)/\True)/\
 (q40=true->q5)/\
 (q40=false->
 (q1/\True/\True)/\
 q4/\
 (∃(x_1:Nat),(x_1<=q11/\x_1<=(x.2.2.1.getD q12 (([]:List tU8.den))).length)/\(([]:List tI.den),())=(Sp.sT q41 x_1,())/\q6=(↑x_1:Int)/\q43)/\
 ∀(x_1:Nat),
 let q51:Bool:=decide ((↑x_1:Int)<(↑q45:Int));
 let q52:=(true&&bif q51 then true else false)=true->True;
 let q53:Bool:=bif q51 then decide ((↑x_1:Int)<(12:Int))else false;
 let q54:Int:=q44.getD (↑x_1:Int).toNat q6%q18-q19;
 let q55:List Int:=q54::([]:List tI.den);
 let q56:Int:=(↑x_1:Int)+q15;
 let q57:Int:=Sp.fK q21 q48 (Sp.sT q41 x_1);
 let q58:Bool:=q57==q57;
 let q59:=(true&&bif q58 then true else false)=true;
 let q60:=q59->True;
 let q61:Bool:=bif q58 then q50==q50 else false;
 let q62:=(true&&bif q61 then true else false)=true;
 let q63:=q62->True;
 let q64:Bool:=bif q61 then Sp.fK q21 q48 q49==q6 else false;
 x_1<=q11/\x_1<=(x.2.2.1.getD q12 (([]:List tU8.den))).length->aB jB (Sp.sT q41 x_1,())/\aB tI (↑x_1:Int)/\True->((True/\q16/\True/\True/\True/\True/\q52/\q52/\True/\True)/\True)/\(q53=true->((True/\True/\q16/\True/\True/\inN (↑x_1:Int) q45/\True/\q18≠q6/\True/\inK IntKind.i64 q54/\True/\True)/\(↑((Sp.sT q41 x_1).length+q55.length):Int)<=bJ/\True/\q20=q20/\True)/\((True/\inK IntKind.i64 q56/\True/\True)/\True)/\∃(y:Nat),(y<=q11/\y<=(x.2.2.1.getD q12 (([]:List tU8.den))).length)/\q11-y<q11-x_1/\(Sp.sT q41 x_1++q55,())=(Sp.sT q41 y,())/\q56=(↑y:Int)/\q43)/\(q53=false->((True/\True/\(q23/\q25/\q26)/\(q27/\q31/\q32/\q22<=(List.replicate q22 false).length)/\True/\True)/\True/\True)/\((True/\True/\True/\True/\q27/\True/\True/\True/\True/\q46/\True/\True/\q60/\q60/\q60/\q60/\q60/\(q59->q27)/\q60/\q60/\q60/\q60/\q60/\(q59->q46)/\q60/\True/\True/\q63/\q63/\q63/\q63/\q63/\(q62->q27)/\q63/\True/\True/\((true&&bif q64 then true else false)=true->True)/\q1)/\True)/\(bif q64 then true else false)=true)))):=by kernel_rfl
end Go.User
namespace Sp
theorem kN(c:Code):eF c c=true:=by unfold eF;exact @decide_eq_true _ (Classical.propDecidable _) rfl
theorem vE(l:List Int):mS l l=true:=by unfold mS;exact decide_eq_true rfl
def RL(c:Code)(s:Code×List Int):Prop:=kR c s.2=some s.1
theorem stepL{c:Code}{s:Code×List Int}(h:RL c s)(u:Uni)(b:Int):RL c (dU u s b):=by
 unfold dU
 split
 ·exact h
 ·split
  ·rename_i q
   show kR c (s.2++[b])=some (atC s.1 b).1
   rw[oI s.2 c s.1 b h,if_pos q]
  ·exact h
theorem passL{c:Code}{s:Code×List Int}(h:RL c s)(u:Uni):∀i,RL c (bW u s i)
 |0=>h
 |i+1=>stepL (passL h u i) u _
theorem passNL{c:Code}{s:Code×List Int}(h:RL c s)(u:Uni):∀n,RL c (bT u s n)
 |0=>h
 |n+1=>passL (passNL h u n) u _
theorem run_run(c:Code)(u:Uni):kR c (gD c u)=some (iY c u):=passNL (s:=(c,[])) rfl u _
theorem tF(c:Code)(u:Uni):fK c (iY c u) (gD c u)=0:=by
 unfold fK
 rw[run_run]
 dsimp only
 rw[if_pos (kN _)]
theorem oddL_succ(l:List Int){i:Nat}(h:i<l.length):sT l (i+1)=sT l i++[l.getD i 0%16-2]:=by
 unfold sT
 rw[itake h,List.map_append]
 rfl
theorem oddL_len(l:List Int)(i:Nat):(sT l i).length<=i:=by
 unfold sT
 rw[List.length_map,List.length_take]
 omega
end Sp
namespace Go.User
open Go Go.Proofs Go.RowKit Go.Lib Go.Lf
theorem ok3h(h6:FOk Try.prog 6 S6):FOk Try.prog 3 S3:=by
 have hC:aG Try.prog C3:=okC (aE h6 (aE ok7 (aE ok8 (aE ok9 (aE ok10 (aE ok11 (aE ok12 (aE (ok13 ok29') (aE ok14 (aE ok15 aS)))))))))) rfl rfl rfl rfl rfl rfl rfl
 refine FOk.intro hC (dG hC) Try.call3 Try.func3 (by kernel_rfl) (by kernel_rfl) L3 ?_
 rw[vc3]
 simp only[zz,zy]
 rintro⟨⟨L,uL⟩,how,l,u⟩ ⟨hL,hh,hl⟩
 have hb:Sp.Byt (Sp.md0 L):=hL.1.2
 have hco:=Sp.both_ok L hb how ⟨hh.1,hh.2⟩
 dsimp only
 generalize Sp.vL L how=c at *
 have hcb:=hco.cb
 have hrg:=hco.rg
 generalize hU:Sp.kS c (l.getD (Int.toNat 0) []) (l.getD (Int.toNat 0) []).length=U
 have hUl:U.1.length=(Sp.cB c).length:=by rw[<-hU];exact(Sp.yX c _ _).1
 have hV0:(List.replicate (Sp.cB c).length false).length=(Sp.cB c).length:=by simp
 have ck:=Sp.tF c U
 have cka:=Sp.tF c (Sp.dN c false)
 simp only[ck,cka,Sp.kN,Sp.vE]
 have hl1:l.getD (Int.toNat 1) []=l.getD 1 []:=rfl
 simp only[hl1]
 generalize hV:Sp.fK c (Sp.iY c (Sp.dN c false))=W at *
 generalize hU2:Sp.gD c U=XU at *
 generalize hV2:Sp.fK c (Sp.iY c U)=W2 at *
 generalize hX2:Sp.gD c (Sp.dN c false)=XA at *
 generalize Sp.iY c U=CU at *
 generalize l.getD 1 []=l1 at *
 refine⟨⟨⟨by decide,by decide⟩,by omega,by omega,by omega,by omega⟩,⟨⟨hco.a,hco.r,by omega⟩,hco.a,hco.v,hco.q,by omega⟩,fun _=>hco.a,fun h=>by simp at h,fun _=>⟨⟨0,⟨by omega,by omega⟩,rfl,rfl⟩,?_⟩⟩
 rintro i ⟨hi1,hi2⟩ _
 refine⟨⟨by decide,by decide⟩,?_,?_⟩
 ·rintro⟨g1,g2⟩
  have g3:i<l1.length:=by omega
  have hol:=Sp.oddL_len l1 i
  refine⟨⟨⟨⟨by decide,by decide⟩,⟨by omega,by omega⟩,by decide,aQ (by omega) (by omega)⟩,gW (by omega)⟩,aQ (by omega) (by omega),i+1,⟨by omega,by omega⟩,by omega,?_,by simp⟩
  rw[Sp.oddL_succ l1 g3]
 ·intro _
  refine⟨⟨⟨by omega,by omega,by omega⟩,hco.a,hco.v,hco.q,by rw[hV0];exact Nat.le_refl _⟩,⟨hco.a,⟨hco.a,hco.v,hco.q⟩,hco.a,⟨hco.a,hco.v,hco.q⟩,hco.a⟩,?_⟩
  simp[cka]
end Go.User
namespace Sp
theorem chk_no{c D:Code}{l:List Int}(h:∀e,kR c l=some e->e≠D):fK c D l=100:=by
 unfold fK
 split
 ·rename_i e he
  rw[if_neg];intro q;unfold eF at q;exact h e he (@of_decide_eq_true _ (Classical.propDecidable _) q)
 ·rfl
theorem uni_no(c d:Code)(b:Int):oR (dN c false) d b=false:=by
 unfold oR dN
 dsimp only
 rw[nU]
 rfl
theorem dmg_odd{c D E:Code}{l:List Int}(h:kR c l=some D)(hne:D≠E):fK c E l=100:=
 chk_no fun e he=>by rw[h]at he;injection he with he;rw[<-he];exact hne
end Sp
namespace Sp
theorem at_plain{c:Code}{b:Int}(h:0<=b->b<((cB c).length:Int)->(trm c b.toNat).1≠2):atC c b=(c,false,()):=by
 rcases lM c b with e|⟨e,hb,hp,hr,ht⟩
 ·exact e
 ·exact absurd (nL hb hp).k (h hb.1 hb.2)
theorem pT{u:Uni}{s:Code×List Int}{b:Int}(h:oR u s.1 b=true∨(atC s.1 b).2.1=false):dU u s b=s:=by
 unfold dU
 rcases h with h|h
 ·rw[if_pos h]
 ·rw[h];split<;>simp
theorem uF{u:Uni}{s:Code×List Int}(h:∀b:Int,0<=b->b<((cB s.1).length:Int)->oR u s.1 b=true∨(atC s.1 b).2.1=false):∀i,i<=(cB s.1).length->bW u s i=s
 |0,_=>rfl
 |i+1,hi=>by
  simp only[bW];rw[uF h i (by omega)];exact pT (h _ (by omega) (by omega))
theorem passN_no{u:Uni}{s:Code×List Int}(h:∀b:Int,0<=b->b<((cB s.1).length:Int)->oR u s.1 b=true∨(atC s.1 b).2.1=false):∀n,bT u s n=s
 |0=>rfl
 |n+1=>by
  simp only[bT];rw[passN_no h n];exact uF h _ (Nat.le_refl _)
theorem wN{u:Uni}{s t:Code×List Int}(h:bW u s (cB s.1).length=t)(hl:(cB t.1).length=(cB s.1).length)(ht:∀b:Int,0<=b->b<((cB t.1).length:Int)->oR u t.1 b=true∨(atC t.1 b).2.1=false):∀n,bT u s (n+1)=t
 |0=>h
 |n+1=>by
  have ih:=wN h hl ht n
  show bW u (bT u s (n+1)) (cB s.1).length=t
  rw[ih,<-hl];exact uF ht _ (Nat.le_refl _)
theorem rchB_of{c:Code}{b:Nat}(h:Rch c b):gI c b=true:=@decide_eq_true _ (Classical.propDecidable _) h
theorem rchB_not{c:Code}{b:Nat}(h:¬Rch c b):gI c b=false:=@decide_eq_false _ (Classical.propDecidable _) h
theorem rchL_is{c:Code}{r:List Bool}(hl:r.length=(cB c).length)(h:∀b,b<(cB c).length->(r.getD b false=true->Rch c b)/\(r.getD b false=false->¬Rch c b)):eP c=r:=by
 apply sV false (by rw[jV,hl])
 intro b hb
 rw[jV]at hb
 rw[kF c hb]
 obtain⟨h1,h2⟩:=h b hb
 cases q:r.getD b false
 ·exact rchB_not (h2 q)
 ·exact rchB_of (h1 q)
def frD(c:Code)(r:List Bool):List Int:=(List.range (cB c).length).map fun(a:Nat)=>((((List.range (cB c).length).filter (fun b=>r.getD b false&&decide ((a:Int)∈aR (trm c b)))).length:Nat):Int)
theorem frL_is(c:Code):frL c=frD c (eP c):=by
 unfold frL frN frD
 apply List.map_congr_left
 intro a ha
 unfold sZ
 congr 2
 apply List.filter_congr
 intro b hb
 rw[List.mem_range]at hb
 rw[kF c hb]
theorem wk0_is{c:Code}{r:List Bool}(h:eP c=r):wk0 c=(c,r,frD c r,()):=by
 unfold wk0
 rw[frL_is,h]
theorem rch_ex:eP exC=[true,true,true,true]:=by
 have r0:Rch exC 0:= .zero
 have r1:Rch exC 1:= .step (b:=0) (t:=1) r0 (by decide) (by decide)
 have r2:Rch exC 2:= .step (b:=0) (t:=2) r0 (by decide) (by decide)
 have r3:Rch exC 3:= .step (b:=1) (t:=3) r1 (by decide) (by decide)
 refine rchL_is rfl fun b hb=> ?_
 have hb:b<4:=hb
 rcases (show b=0∨b=1∨b=2∨b=3 by omega)with rfl|rfl|rfl|rfl
 ·exact⟨fun _=>r0,fun h=>by cases h⟩
 ·exact⟨fun _=>r1,fun h=>by cases h⟩
 ·exact⟨fun _=>r2,fun h=>by cases h⟩
 ·exact⟨fun _=>r3,fun h=>by cases h⟩
theorem pln_ex:cY exC 0=([1,2],3,true,()):=by
 unfold cY
 rw[wk0_is rch_ex]
 decide
def exD:Code:=(4,2,7,0,0,[],[],[([(1,0,0,bK 3,bK 0,bM,bM,()),(1,0,0,bK 4,fY 5,bM,bM,()),(3,10,0,bK 5,bK 0,fY 1,bM,()),(1,0,0,bK 6,bK 5,bM,bM,()),(4,0,0,bK 1,bK 3,bK 4,bK 5,()),(4,0,0,bK 2,bK 3,bK 2,bK 6,())],mA 3,()),lK,lK,([],(5,0,bM,bM,bM,[0,0],()),())],())
theorem new_ex:eX exC 0=exD:=by
 simp only[eX,lA,kA,nA,iA,rA,aI,bA,pln_ex]
 rfl
theorem at_ex:atC exC 0=(exD,true,()):=by
 unfold atC
 rw[new_ex,pln_ex]
 simp only[rA,aI,pln_ex]
 rfl
theorem trm_exD(b:Int):0<=b->b<((cB exD).length:Int)->(trm exD b.toNat).1≠2:=by
 intro h0 h1
 have h1:b<4:=h1
 rcases (show b=0∨b=1∨b=2∨b=3 by omega)with rfl|rfl|rfl|rfl<;>decide
theorem at_exC{b:Int}(h:b≠0):atC exC b=(exC,false,()):=at_plain fun h0 h1=>by
 have h1:b<4:=h1
 rcases (show b=1∨b=2∨b=3 by omega)with rfl|rfl|rfl<;>decide
theorem pass_ex:bW (dN exC false) (exC,[]) 4=(exD,[0]):=by
 have g:∀b:Int,b≠0->(atC exC b).2.1=false:=fun b h=>by rw[at_exC h]
 have h:bW (dN exC false) (exC,[]) 3=(exC,[]):=by
  have e1:bW (dN exC false) (exC,[]) 1=(exC,[]):=pT (.inr (g 3 (by decide)))
  have e2:bW (dN exC false) (exC,[]) 2=(exC,[]):=by
   show dU _ (bW _ _ 1) _=_
   rw[e1];exact pT (.inr (g 2 (by decide)))
  show dU _ (bW _ _ 2) _=_
  rw[e2];exact pT (.inr (g 1 (by decide)))
 show dU _ (bW _ _ 3) _=_
 rw[h]
 show dU (dN exC false) (exC,[]) 0=_
 unfold dU
 rw[uni_no,if_neg (by decide)]
 dsimp only
 rw[at_ex]
 rfl
theorem run_ex:bT (dN exC false) (exC,[]) 6=(exD,[0]):=wN (s:=(exC,[])) pass_ex rfl (fun b h0 h1=> .inr (by rw[at_plain (trm_exD b)])) 5
theorem xU:iY exC (dN exC false)=exD:=congrArg Prod.fst run_ex
theorem xT:gD exC (dN exC false)=[0]:=congrArg Prod.snd run_ex
theorem run_ex1:bT (dN exC true) (exC,[]) 6=(exC,[]):=passN_no (s:=(exC,[])) (fun b h0 h1=>by
 by_cases hb:b=0
 ·subst hb;exact .inl (by decide)
 ·exact .inr (by rw[at_exC hb])) 6
theorem runC_ex1:iY exC (dN exC true)=exC:=congrArg Prod.fst run_ex1
theorem runX_ex1:gD exC (dN exC true)=[]:=congrArg Prod.snd run_ex1
theorem chk_ex1:fK exC exD [0]=0:=by
 have h:=tF exC (dN exC false)
 rwa [xU,xT]at h
theorem chk_ex2:fK exC exC [0]=100:=by
 have h:=run_run exC (dN exC false)
 rw[xU,xT]at h
 exact dmg_odd h fun e=>absurd (congrArg (fun c:Code=>c.2.2.1) e) (show ¬(7:Int)=3 by decide)
theorem chk_ex3:fK exC exD []=100:=dmg_odd rfl fun e=>absurd (congrArg (fun c:Code=>c.2.2.1) e) (show ¬(3:Int)=7 by decide)
theorem chk_ex4:fK exC exC []=0:=by
 have h:=tF exC (dN exC true)
 rwa [runC_ex1,runX_ex1]at h
theorem rJ:okA exC:=by
 have hlt:∀b,b<(cB exC).length->b=0∨b=1∨b=2∨b=3:=fun b h=>by have h:b<4:=h;omega
 refine⟨⟨by decide,by decide,?_,?_⟩,?_,by decide,?_⟩
 ·intro b hb t ht
  rcases hlt b hb with rfl|rfl|rfl|rfl<;>revert t<;>decide
 ·intro b hb
  rcases hlt b hb with rfl|rfl|rfl|rfl<;>rfl
 ·intro b hb
  rcases hlt b hb with rfl|rfl|rfl|rfl<;>decide
 ·intro b hb i hi
  rcases hlt b hb with rfl|rfl|rfl|rfl<;>revert i<;>decide
theorem okR_ex:okR exC:=by
 intro b hb
 have hb:b<4:=hb
 rcases (show b=0∨b=1∨b=2∨b=3 by omega)with rfl|rfl|rfl|rfl<;>decide
end Sp
namespace Go.User
open Go Go.Proofs Go.RowKit Go.Lib Go.Lf
theorem ok6:FOk Try.prog 6 S6:=by
 have hC:aG Try.prog C6:=okC (aE ok18 (aE ok14 (aE ok9 (aE ok16 (aE ok20 (aE ok17 (aE ok19 (aE ok11 (aE ok12 (aE (ok13 ok29') (aE ok22 aS))))))))))) rfl rfl rfl rfl rfl rfl rfl
 refine FOk.introT hC (dG hC) Try.call6 Try.func6 rfl (by kernel_rfl) T6 ?_
 rw[vc6]
 simp only[zz,zy]
 have goal:(((Sp.cB Sp.exC).length<=5000/\(0:Int)<=3/\(3:Int)<=5000)/\Sp.okA Sp.exC/\Sp.okR Sp.exC/\(Sp.cB Sp.exC).length<=(List.replicate (Sp.cB Sp.exC).length false).length)/\
  ((Sp.cA Sp.exC).length<=5000/\(Sp.cL Sp.exC).length<=5000/\(Sp.cB Sp.exC).length<=5000/\∀(b:Sp.Block),b∈Sp.cB Sp.exC->b.1.length<=5000)/\
  inN 0 4/\inN 1 4/\(inN 1 4/\inN 2 4)/\
  ((Sp.eF (Sp.iY Sp.exC (Sp.dN Sp.exC false)) Sp.exD=true/\Sp.mS (Sp.gD Sp.exC (Sp.dN Sp.exC false)) [0]=true->Sp.okA Sp.exC)/\
   ((Sp.eF (Sp.iY Sp.exC (Sp.dN Sp.exC false)) Sp.exD=true/\Sp.mS (Sp.gD Sp.exC (Sp.dN Sp.exC false)) [0]=true)/\Sp.fK Sp.exC Sp.exD (Sp.gD Sp.exC (Sp.dN Sp.exC false))=0->Sp.okA Sp.exC)/\
   (((Sp.eF (Sp.iY Sp.exC (Sp.dN Sp.exC false)) Sp.exD=true/\Sp.mS (Sp.gD Sp.exC (Sp.dN Sp.exC false)) [0]=true)/\Sp.fK Sp.exC Sp.exD (Sp.gD Sp.exC (Sp.dN Sp.exC false))=0)/\Sp.fK Sp.exC Sp.exC (Sp.gD Sp.exC (Sp.dN Sp.exC false))=100->Sp.okA Sp.exC))/\
  ((!Sp.eF (Sp.iY Sp.exC (Sp.dN Sp.exC false)) Sp.exD|| !Sp.mS (Sp.gD Sp.exC (Sp.dN Sp.exC false)) [0]||Sp.fK Sp.exC Sp.exD (Sp.gD Sp.exC (Sp.dN Sp.exC false)) !=0||Sp.fK Sp.exC Sp.exC (Sp.gD Sp.exC (Sp.dN Sp.exC false)) !=100||Sp.fK Sp.exC Sp.exD [] !=100)=true->false=true)/\
  ((((Sp.eF (Sp.iY Sp.exC (Sp.dN Sp.exC false)) Sp.exD=true/\Sp.mS (Sp.gD Sp.exC (Sp.dN Sp.exC false)) [0]=true)/\Sp.fK Sp.exC Sp.exD (Sp.gD Sp.exC (Sp.dN Sp.exC false))=0)/\Sp.fK Sp.exC Sp.exC (Sp.gD Sp.exC (Sp.dN Sp.exC false))=100)/\Sp.fK Sp.exC Sp.exD []=100->
   (((Sp.cB Sp.exC).length<=5000/\(0:Int)<=3/\(3:Int)<=5000)/\Sp.okA Sp.exC/\Sp.okR Sp.exC/\(Sp.cB Sp.exC).length<=(List.replicate (Sp.cB Sp.exC).length true).length)/\
   (Sp.eF (Sp.iY Sp.exC (Sp.dN Sp.exC true)) Sp.exC=true/\(((Sp.gD Sp.exC (Sp.dN Sp.exC true)).length:Nat):Int)=0->Sp.okA Sp.exC)/\
   (Sp.eF (Sp.iY Sp.exC (Sp.dN Sp.exC true)) Sp.exC&&(((Sp.gD Sp.exC (Sp.dN Sp.exC true)).length:Nat):Int)==0&&Sp.fK Sp.exC Sp.exC (Sp.gD Sp.exC (Sp.dN Sp.exC true))==0)=true):=by
  rw[Sp.xU,Sp.xT,Sp.runC_ex1,Sp.runX_ex1,Sp.chk_ex1,Sp.chk_ex2,Sp.chk_ex3,Sp.chk_ex4,Sp.kN,Sp.kN,Sp.vE];refine⟨⟨⟨by decide,by decide,by decide⟩,Sp.rJ,Sp.okR_ex,by simp⟩,⟨by decide,by decide,by decide,?_⟩,⟨by decide,by decide⟩,⟨by decide,by decide⟩,⟨⟨by decide,by decide⟩,⟨by decide,by decide⟩⟩,⟨fun _=>Sp.rJ,fun _=>Sp.rJ,fun _=>Sp.rJ⟩,fun h=>absurd h (by decide),fun _=>⟨⟨⟨by decide,by decide,by decide⟩,Sp.rJ,Sp.okR_ex,by simp⟩,fun _=>Sp.rJ,by decide⟩⟩
  show ∀(b:Sp.Block),b∈Sp.cB Sp.exC->b.1.length<=5000
  decide
 simp only[zz,zy]at goal
 exact goal
end Go.User
namespace Go.User
open Go Go.Proofs Go.RowKit Go.Lib Go.Lf
end Go.User
namespace Go.User
open Go Go.Proofs Go.RowKit Go.Lib Go.Lf
theorem ok3:FOk Try.prog 3 S3:=ok3h ok6
end Go.User
namespace Go.Proofs.Ytagdgckmikcllaa
open Go.ChangeShapes Go.WideShapes Go.ChangeAt Go.RowKit Go.Proofs Go.Lf

set_option maxRecDepth 100000 in
theorem iO(hF:FOk Try.prog 3 Go.User.S3)(os:Os)(started:os.Started)(H:Type)(enc:TypeId×Value->H):
  ReturnsInHanded {} Try.checked os 3 .any (Rows.convertMatchesReferenceSpec.pre6 enc Try.prog Try.f3 Rows.convertMatchesReferenceRow.domain false) (Rows.convertMatchesReferenceSpec.post enc Try.prog Try.f3 false true false false):=by
 refine returnsInHanded_of_change_sized (C:=Try.checked) Try.own started (by kernel_rfl) Try.func3
  (ChangeSpec.witness6 (enc:=enc) (C:=Try.checked) false ⟨#[],#[.agg #[.slice none 0 0],.int .u8 0,.agg #[.slice none 0 0,.slice none 0 0]],[]⟩ 8 (by kernel_rfl) (by kernel_rfl) (by kernel_rfl) (by kernel_rfl)) ?_
 intro W base args ds gs before hval0 hW _ hsz0 _
 have hsz:(DataW.weightsEach Try.prog (Try.f3.params.toList++Rows.convertMatchesReferenceSpec.plain.varTypes Try.prog) (ds++gs)).all (· <=reachBytes)=true:=hsz0
 clear hsz0
 have hval:∀(j:Nat) t v,Try.f3.params[j]? =some t->args[j]? =some v->Value.okWide Try.prog W .any base t v:=hval0
 have hW':=hW
 obtain⟨p,q,hA0,hV,rfl,_,_⟩:=hW
 have hA:DataW.TrodAll enc Try.prog W 0 (fun _=>true) true Try.f3.params.toList args.toList ds p:=hA0
 rw[Try.params3]at hA hval hsz
 obtain⟨v0,v1,v2,d0,d1,d2,p0,p1,p2,rfl,rfl,rfl,h0,h1,h2⟩:=trodAll_three hA
 obtain⟨rfl,rfl⟩:=trodVars_none hV
 clear hA0 hval0
 simp only[List.append_nil,List.append_assoc]at hW'
 have hlt0:∀x∈p0,x.block<W.heap.size:=fun x hx=>hW'.lt x (by simp[hx])
 have hlt1:∀x∈p1,x.block<W.heap.size:=fun x hx=>hW'.lt x (by simp[hx])
 have hlt2:∀x∈p2,x.block<W.heap.size:=fun x hx=>hW'.lt x (by simp[hx])
 obtain⟨x0,hx0⟩:=arg_of (τ:=Go.User.tRaw) (by kernel_rfl) (hval 0 24 v0 rfl rfl) h0 hlt0 (sz_of hsz (j:=0) rfl rfl)
 obtain⟨x1,hx1⟩:=arg_of (τ:= .int .u8) (by kernel_rfl) (hval 1 5 v1 rfl rfl) h1 hlt1 (sz_of hsz (j:=1) rfl rfl)
 obtain⟨x2,hx2⟩:=arg_of (τ:= .arr 2 (.slice (.int .u8))) (by kernel_rfl) (hval 2 25 v2 rfl rfl) h2 hlt2 (sz_of hsz (j:=2) rfl rfl)
 have hcall:=hF.2 W (fun b=>b<W.heap.size) [v0,v1,v2] (x0,x1,x2,()) (kQ.zero _ _) (fun b h=>h) ⟨v0,[v1,v2],rfl,hx0,v1,[v2],rfl,hx1,v2,[],rfl,hx2,rfl⟩ trivial
 refine hcall.mono ?_
 rintro e W' ⟨v,F',S',rfl,hb,_,_,_,_,hv⟩
 have hv:aT F' W' .bool .shr S' v true:=hv
 have:=hv.bool_eq
 subst this
 have hargs0:=Below.trod Try.laidOut (by kernel_rfl) (of_decide_eq_true (by kernel_rfl)) h0 hb hlt0
 have hargs1:=Below.trod Try.laidOut (by kernel_rfl) (of_decide_eq_true (by kernel_rfl)) h1 hb hlt1
 have hargs2:=Below.trod Try.laidOut (by kernel_rfl) (of_decide_eq_true (by kernel_rfl)) h2 hb hlt2
 refine⟨_,rfl,_,_,_,[],p0++(p1++p2),[],hW',?_,trodAll_mk3 hargs0 hargs1 hargs2,rfl,hb.frame _,fun h=>by cases h⟩
 exact trodAll_mk1 (shut_bool Try.underlying4 true)

theorem convertMatchesReference_holds:Rows.ConvertMatchesReferenceSaid:=
 OpenClaim.holds_of_wide 3 Try.f3 rfl rfl rfl rfl rfl rfl rfl ⟨rfl,rfl,rfl,rfl,rfl⟩ rfl rfl rfl rfl rfl (by kernel_rfl) Try.func3 (by kernel_rfl)
  (of_decide_eq_true (by kernel_rfl)) (by unfold Func.isWrapper;first|(rw[if_pos (by decide+kernel)];kernel_rfl)|(rw[if_neg (by decide+kernel)];exact⟨rfl,rfl⟩))
  (fun os started H enc _=>iO Go.User.ok3 os started H enc)
end Go.Proofs.Ytagdgckmikcllaa
