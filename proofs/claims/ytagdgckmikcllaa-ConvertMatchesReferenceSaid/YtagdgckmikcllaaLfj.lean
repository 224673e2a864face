/- The maker of codes: Made. -/
import Derived.Test.YtagdgckmikcllaaLfi
import Derived.Scope
set_option linter.unusedVariables false
set_option linter.unusedSimpArgs false
namespace Go.User
open Go.Proofs Go.Lf
set_option maxRecDepth 100000
theorem vc42:(∀q:Nat,funPK (C42 q) (stpN yE (C42 q)) S42 (L42 q) (K42 q) Try.f42)=(
let q0:=(2:Nat);
let q1:Int:=(2:Int);
let q2:Int:=(6:Int);
let q3:=(5000:Nat);
let q4:Int:=(3:Int);
let q5:Int:=(0:Int);
let q6:=q4≠q5;
let q7:Int:=(1:Int);
let q8:=True/\True/\True;
let q9:=True/\q8;
let q10:=True/\True/\q9;
let q11:=True/\True/\q10;
let q12:Sp.Opd:=Sp.fY q5;
let q13:Sp.Opd:=(q5,q5,q5,());
let q14:Sp.Opd×Unit:=(q13,());
let q15:List Int:=List.replicate q0 q5;
let q16:Sp.Block:=(([]:List aC.den),(q5,q5,q13,q13,q13,q15,()),());
let q17:=(0:Nat);
let q18:=(1:Nat);
let q19:List aD:=aD.snd::aD.fst::([]:List aD);
let q20:List aD:=aD.snd::q19;
let q21:List aD:=aD.snd::aD.snd::aD.snd::aD.snd::q20;
let q22:List aD:=aD.snd::aD.snd::aD.fst::q21;
let q23:Int:=(26:Int);
let q24:List Sp.Block:=Sp.bE::([]:List Sp.Block);
let q25:Int:=(10:Int);
let q26:Sp.Opd×Sp.Opd×Unit:=(Sp.fY q7,q14);
let q27:=q17=q17;
let q28:=True/\q27/\([]:List aD)=([]:List aD);
let q29:=True/\q27/\q20=q20;
let q30:List aD:=aD.snd::aD.snd::aD.fst::aD.snd::q21;
let q31:=True/\q27/\q30=q30;
let q32:=(([]:List Go.ResultVar)).toArray.toList=([]:List Go.ResultVar)/\Ty.unit=Ty.unit;
∀(q:Nat) (x:Sp.Mk),
 let q33:Int×Int×List Sp.Arr×List Sp.Opd×List Sp.Block×Unit:=x.2.2.1.2.2.2;
 let q34:Int×List Sp.Arr×List Sp.Opd×List Sp.Block×Unit:=q33.2;
 let q35:List Sp.Arr×List Sp.Opd×List Sp.Block×Unit:=q34.2;
 let q36:List Sp.Opd×List Sp.Block×Unit:=q35.2;
 let q37:List Sp.Opd:=q36.1;
 let q38:=q37.length;
 let q39:Int:=q1*(↑q38:Int);
 let q40:Int:=q2+q39;
 let q41:Int:=q7+(Sp.nxV x).tmod q4;
 let q42:=aB tI (Sp.lpN x);
 let q43:=aB tI (Sp.lpB x);
 let q44:=q42/\q43/\True;
 let q45:Int:=Sp.lpN x+q1;
 let q46:Int:=x.2.1+q7;
 let q47:Int:=x.2.2.1.2.1;
 let q48:Sp.Mk:=Sp.wR (Sp.nxM x) q45;
 let q49:=Sp.lpN x=Sp.lpN x;
 let q50:=Sp.lpB x=Sp.lpB x;
 let q51:=aB (tU8.slice.prod (tI.prod ((tI.prod (tI.prod (tI.prod (tI.prod (tI.prod (cC.slice.prod (bC.slice.prod ((aC.slice.prod ((tI.prod (tI.prod (aM.prod (aM.prod (aM.prod ((Ty.arr q0 tI).prod Ty.unit)))))).prod Ty.unit)).slice.prod Ty.unit)))))))).prod Ty.unit))) q48;
 let q52:=q42/\q43/\aB tI (Sp.nB x)/\True;
 let q53:=Sp.nB x=Sp.nB x;
 let q54:=q49/\q50/\q53/\True;
 let q55:Int:=Sp.nB x-q7;
 let q56:Sp.Code:=Sp.setR x.2.2.1 q45;
 let q57:List Sp.Block:=Sp.putB (Sp.cB q56) (Sp.i3 q7 q5 q5 (Sp.bK (Sp.lpN x)) q12 Sp.bM);
 let q58:Int:=q33.1;
 let q59:Int:=q34.1;
 let q60:List Sp.Arr:=q35.1;
 let q61:=q55.toNat;
 let q62:Sp.Block:=q57.getD q61 q16;
 let q63:List Int:=q15.set q17 (Sp.nB x);
 let q64:Sp.Term:=(q7,q5,q13,q13,q13,q63.set q18 q5,());
 let q65:Sp.Term:=Sp.tJ q7 (Sp.nB x) q5;
 let q66:Sp.Mk:=Sp.wT (Sp.lp1 x) q55 q65;
 let q67:List Sp.Opd:=(Sp.nB x,Sp.lpN x,Sp.lpB x,())::([]:List bC.den);
 let q68:Sp.Code:=Sp.nG q56 q57;
 let q69:List Sp.Block:=Sp.qW (Sp.cB q68) q55 q65;
 let q70:Sp.Mk:=(x.1,q46,(x.2.2.1.1,q47,q45,q58,q59,q60,q37++q67,q69,()),());
 let q71:Int:=Sp.lpN x+q7;
 let q72:=inK IntKind.i64 q71;
 let q73:Sp.Opd:=Sp.bK q71;
 let q74:Sp.Opd:=Sp.fY (IntKind.i32.wrap (Sp.lpB x));
 let q75:Int:=Sp.nB x+q7;
 let q76:=inK IntKind.i64 q75;
 let q77:Int:=Sp.nB x+q1;
 let q78:=inK IntKind.i64 q77;
 let q79:Sp.Code:=Sp.nG q68 q69;
 let q80:List Sp.Opd:=Sp.cL q79++(Sp.nB x,Sp.lpN x,Sp.lpB x,())::([]:List Sp.Loop);
 let q81:Sp.Code:=Sp.setL q79 q80;
 let q82:List Sp.Block:=Sp.putB (Sp.cB (Sp.nG q81 (Sp.cB q81++q24))) (Sp.i3 q4 q23 q5 q73 (Sp.bK (Sp.lpN x)) q74);
 let q83:Sp.Block:=q82.getD (Sp.nB x).toNat q16;
 let q84:Sp.Mk:=(x.1,q46,(x.2.2.1.1,q47,q45,q58,q59,q60,q80,q82.set (Sp.nB x).toNat (q83.1,(q1,q5,q13,q73,q13,(q15.set q17 q75).set q18 q77,()),q83.2.2),()),());
 let q85:Sp.Mk:=Sp.eE (Sp.lp4 x) (q4,q25,q5,Sp.bK (Sp.lpN x),Sp.bK (Sp.lpN x),q26);
 let q86:Sp.Code:=(Sp.lp5 x).2.2.1;
 let q87:Int×Int×Int×Int×List Sp.Arr×List Sp.Opd×List Sp.Block×Unit:=q86.2;
 let q88:Int×Int×Int×List Sp.Arr×List Sp.Opd×List Sp.Block×Unit:=q87.2;
 let q89:Int×Int×List Sp.Arr×List Sp.Opd×List Sp.Block×Unit:=q88.2;
 let q90:Int×List Sp.Arr×List Sp.Opd×List Sp.Block×Unit:=q89.2;
 let q91:List Sp.Arr×List Sp.Opd×List Sp.Block×Unit:=q90.2;
 let q92:List Sp.Opd×List Sp.Block×Unit:=q91.2;
 let q93:List Sp.Block×Unit:=q92.2;
 let q94:List Sp.Block:=q93.1;
 let q95:Int:=q86.1;
 let q96:Int:=q87.1;
 let q97:Int:=q88.1;
 let q98:Int:=q89.1;
 let q99:Int:=q90.1;
 let q100:List Sp.Arr:=q91.1;
 let q101:List Sp.Opd:=q92.1;
 let q102:=q75.toNat;
 let q103:Sp.Block:=q94.getD q102 q16;
 let q104:Bool:=(Sp.nxV (Sp.lp6 x)).tmod q4==q5;
 let q105:=True/\q53;
 let q106:=q76/\q75=q75;
 let q107:=q105/\q105/\(q78/\q77=q77)/\True;
 let q108:Int:=(Sp.lp5 x).2.1+q7;
 let q109:List Sp.Block:=Sp.qW (Sp.cB q86) q75 q65;
 let q110:Sp.Mk:=((Sp.lp5 x).1,q108,Sp.nG q86 q109,());
 let q111:=Sp.aL q3 q110;
 let q112:=inN q75 q109.length;
 let q113:List aD:=aD.snd::aD.snd::aD.fst::aD.snd::aD.snd::aD.snd::aD.snd::aD.snd::aD.snd::aD.snd::aD.fst::aD.idx q102::([]:List aD);
 let q114:List aD:=aD.snd::aD.snd::aD.fst::aD.snd::aD.snd::aD.snd::aD.snd::aD.snd::aD.snd::aD.snd::aD.fst::aD.idx q102::q19;
 let q115:Sp.Block:=q109.getD q102 q16;
 let q116:=True/\(q28/\q28/\q29/\q31/\q31/\q105/\q106/\True)/\(True/\(q112/\True/\True)/\(q28/\q28/\q29/\q31/\q31/\q105/\q106/\(q112/\q27/\q113=q113)/\(True/\q27/\q114=q114)/\True)/\(True/\True/\True/\((Sp.lp5 x).1,q108+q7,(q95,q96,q97,q98,q99,q100,q101,q109.set q102 (q115.1,(q1,q5,q13,Sp.d7 q110,q13,q63.set q18 q77,()),q115.2.2),()),())=Sp.lpM x/\q32)/\True)/\True/\True;
 ∀(y:Unit),Sp.aL (4000:Nat) x/\Sp.has x->aB (tU8.slice.prod (tI.prod ((tI.prod (tI.prod (tI.prod (tI.prod (tI.prod (cC.slice.prod (bC.slice.prod ((aC.slice.prod ((tI.prod (tI.prod (aM.prod (aM.prod (aM.prod ((Ty.arr q0 tI).prod Ty.unit)))))).prod Ty.unit)).slice.prod Ty.unit)))))))).prod Ty.unit))) x->True->((True/\True/\True/\True/\True/\True/\inK IntKind.i64 q39/\inK IntKind.i64 q40/\True/\True)/\True)/\((True/\True)/\Sp.aL q3 x/\q6/\inK IntKind.i64 q41/\True/\True)/\(∃(x_1:Unit),True/\(x.1,x.2.1+q7,x.2.2)=Sp.nxM x/\q40=Sp.lpN x/\q41=Sp.lpB x/\True)/\∀(x_1:Unit),True->aB (tU8.slice.prod (tI.prod ((tI.prod (tI.prod (tI.prod (tI.prod (tI.prod (cC.slice.prod (bC.slice.prod ((aC.slice.prod ((tI.prod (tI.prod (aM.prod (aM.prod (aM.prod ((Ty.arr q0 tI).prod Ty.unit)))))).prod Ty.unit)).slice.prod Ty.unit)))))))).prod Ty.unit))) (Sp.nxM x)/\q44->((True/\True/\inK IntKind.i64 q45/\q9)/\True/\True)/\(∃(x_2:Unit),True/\(x.1,q46,(x.2.2.1.1,q47,q45,q33),x.2.2.2)=q48/\q49/\q50/\True)/\∀(x_2:Unit),True->q51/\q44->(q11/\True)/\(∃(x_3:Unit),True/\q48=q48/\q49/\q50/\(↑q36.2.1.length:Int)=Sp.nB x/\True)/\∀(x_3:Unit),True->q51/\q52->(q10/\(Sp.aL q3 q48/\Sp.has q48)/\True)/\(∃(x_4:Unit),True/\Sp.eE q48 (q7,q5,q5,Sp.bK (Sp.lpN x),q12,q13,q14)=Sp.lp1 x/\q54)/\∀(x_4:Unit),True->aB (tU8.slice.prod (tI.prod ((tI.prod (tI.prod (tI.prod (tI.prod (tI.prod (cC.slice.prod (bC.slice.prod ((aC.slice.prod ((tI.prod (tI.prod (aM.prod (aM.prod (aM.prod ((Ty.arr q0 tI).prod Ty.unit)))))).prod Ty.unit)).slice.prod Ty.unit)))))))).prod Ty.unit))) (Sp.lp1 x)/\q52->((True/\True/\True/\True/\True/\True/\inK IntKind.i64 q55/\True/\True/\True/\inN q55 q57.length/\True/\True)/\True/\True)/\(∃(x_5:Unit),True/\(x.1,q46,(x.2.2.1.1,q47,q45,q58,q59,q60,q37,q57.set q61 (q62.1,q64,q62.2.2),()),())=q66/\q54)/\∀(x_5:Unit),True->aB (tU8.slice.prod (tI.prod ((tI.prod (tI.prod (tI.prod (tI.prod (tI.prod (cC.slice.prod (bC.slice.prod ((aC.slice.prod ((tI.prod (tI.prod (aM.prod (aM.prod (aM.prod ((Ty.arr q0 tI).prod Ty.unit)))))).prod Ty.unit)).slice.prod Ty.unit)))))))).prod Ty.unit))) q66/\q52->((True/\True/\True/\True/\q11)/\(↑(q38+q67.length):Int)<=bJ/\True/\True/\True/\q22=q22/\True)/\((True/\True)/\Sp.aL q3 q70/\True)/\(∃(x_6:Unit),True/\Sp.fG q70=Sp.lp2 x/\q54)/\∀(x_6:Unit),True->aB (tU8.slice.prod (tI.prod ((tI.prod (tI.prod (tI.prod (tI.prod (tI.prod (cC.slice.prod (bC.slice.prod ((aC.slice.prod ((tI.prod (tI.prod (aM.prod (aM.prod (aM.prod ((Ty.arr q0 tI).prod Ty.unit)))))).prod Ty.unit)).slice.prod Ty.unit)))))))).prod Ty.unit))) (Sp.lp2 x)/\q52->((True/\True/\q72/\q11)/\(Sp.aL q3 (Sp.lp2 x)/\Sp.has (Sp.lp2 x))/\True)/\(∃(x_7:Unit),True/\Sp.eE (Sp.lp2 x) (q4,q23,q5,q73,Sp.bK (Sp.lpN x),q74,q14)=Sp.lp3 x/\q54)/\∀(x_7:Unit),True->aB (tU8.slice.prod (tI.prod ((tI.prod (tI.prod (tI.prod (tI.prod (tI.prod (cC.slice.prod (bC.slice.prod ((aC.slice.prod ((tI.prod (tI.prod (aM.prod (aM.prod (aM.prod ((Ty.arr q0 tI).prod Ty.unit)))))).prod Ty.unit)).slice.prod Ty.unit)))))))).prod Ty.unit))) (Sp.lp3 x)/\q52->((True/\True/\True/\True/\True/\True/\True/\q72/\True/\True/\q76/\True/\q78/\True/\True/\inN (Sp.nB x) q82.length/\True/\True)/\True/\True)/\((True/\True)/\Sp.aL q3 q84/\True)/\(∃(x_8:Unit),True/\Sp.fG q84=Sp.lp4 x/\q54)/\∀(x_8:Unit),True->aB (tU8.slice.prod (tI.prod ((tI.prod (tI.prod (tI.prod (tI.prod (tI.prod (cC.slice.prod (bC.slice.prod ((aC.slice.prod ((tI.prod (tI.prod (aM.prod (aM.prod (aM.prod ((Ty.arr q0 tI).prod Ty.unit)))))).prod Ty.unit)).slice.prod Ty.unit)))))))).prod Ty.unit))) (Sp.lp4 x)/\q52->(q11/\(Sp.aL q3 (Sp.lp4 x)/\Sp.has (Sp.lp4 x))/\True)/\((True/\True)/\(Sp.aL (4500:Nat) q85/\Sp.has q85)/\True)/\(∃(x_9:Unit),True/\Sp.insM q85=Sp.lp5 x/\q54)/\∀(x_9:Unit),True->aB (tU8.slice.prod (tI.prod ((tI.prod (tI.prod (tI.prod (tI.prod (tI.prod (cC.slice.prod (bC.slice.prod ((aC.slice.prod ((tI.prod (tI.prod (aM.prod (aM.prod (aM.prod ((Ty.arr q0 tI).prod Ty.unit)))))).prod Ty.unit)).slice.prod Ty.unit)))))))).prod Ty.unit))) (Sp.lp5 x)/\q52->((True/\True/\True/\True/\True/\True/\q76/\True/\True/\True/\inN q75 q94.length/\True/\True)/\True/\True)/\(∃(x_10:Unit),True/\((Sp.lp5 x).1,(Sp.lp5 x).2.1,(q95,q96,q97,q98,q99,q100,q101,q94.set q102 (q103.1,q64,q103.2.2),q93.2),(Sp.lp5 x).2.2.2)=Sp.lp6 x/\q54)/\∀(x_10:Unit),True->aB (tU8.slice.prod (tI.prod ((tI.prod (tI.prod (tI.prod (tI.prod (tI.prod (cC.slice.prod (bC.slice.prod ((aC.slice.prod ((tI.prod (tI.prod (aM.prod (aM.prod (aM.prod ((Ty.arr q0 tI).prod Ty.unit)))))).prod Ty.unit)).slice.prod Ty.unit)))))))).prod Ty.unit))) (Sp.lp6 x)/\q52->((True/\True)/\Sp.aL q3 (Sp.lp6 x)/\q6/\True/\True)/\(q104=true->(True/\True/\True/\True/\True/\True/\q76/\True/\True/\True/\q78/\True)/\(q28/\q28/\q29/\q31/\q31/\q105/\q106/\q28/\q107)/\(q111/\True/\(q28/\q28/\q29/\q31/\q31/\q105/\q106/\q107)/\(True/\q116)/\q8)/\(True/\True/\(q28/\q28/\q29/\q31/\q31/\q105/\q106/\q28/\True)/\(q111/\q116)/\q8)/\q8)/\(q104=false->q110=Sp.lpM x/\q32)):=by kernel_rfl
end Go.User
namespace Sp
def cJ(s:Mk):Nat:=(cB s.2.2.1).length
theorem eQ(s:Mk)(i:Inst):cJ (eE s i)=cJ s:=by
 show(List.set _ _ _).length=_
 rw[List.length_set];rfl
theorem j4(s:Mk):cJ (fG s)=cJ s+1:=by
 show(List.length (_++[bE]))=_
 rw[List.length_append];rfl
theorem lZ(s:Mk)(b:Int)(t:Term):cJ (wT s b t)=cJ s:=by
 show(List.set _ _ _).length=_
 rw[List.length_set];rfl
theorem lenB_inst(s:Mk):cJ (bX s)=cJ s:=by
 have hp:∀(t:Mk) (p:Bool),cJ (plM t p)=cJ t:=fun t p=>eQ (nxM (nxM (nxM t))) _
 unfold bX i7
 split
 ·exact eQ (nxM (nxM (nxM s))) _
 split
 ·exact eQ (nxM (nxM (nxM (nxM (nxM s))))) _
 split
 ·exact eQ (nxM (nxM (nxM (nxM s)))) _
 split
 ·exact eQ (nxM (nxM (nxM (nxM (nxM s))))) _
 split
 ·exact eQ (nxM (nxM (nxM s))) _
 split
 ·exact eQ (nxM (nxM (nxM s))) _
 split
 ·exact eQ (nxM (nxM s)) _
 split
 ·exact(eQ (nxM (nxM (plM (nxM s) false))) _).trans (hp (nxM s) false)
 split
 ·exact(eQ (nxM (plM (nxM s) true)) _).trans (hp (nxM s) true)
 ·exact(eQ (nxM (plM (nxM s) true)) _).trans (hp (nxM s) true)
theorem uS:∀(k:Nat) (s:Mk),cJ (instN k s)=cJ s
 |0,s=>rfl
 |k+1,s=>(uS k (bX s)).trans (lenB_inst s)
theorem nQ(s:Mk):cJ (insM s)=cJ s:=uS _ (nxM s)
theorem kK{s:Mk}:has s↔0<cJ s:=Iff.rfl
theorem aL.wR{n:Nat}{s:Mk}(h:aL n s)(k:Int):aL n (wR s k):=⟨h.at0,h.at1,h.arr,h.blk,h.ins,h.lps⟩
theorem aL.wL{n:Nat}{s:Mk}(h:aL n s)(l:Loop):aL (n+1) (wL s l):=by
 refine⟨h.at0,by have:=h.at1;show s.2.1<=((n+1:Nat):Int);omega,h.arr,Nat.le_succ_of_le h.blk,fun b hb=>Nat.le_succ_of_le (h.ins b hb),?_⟩
 show(List.length (_++[l]))<=n+1
 rw[List.length_append];exact Nat.succ_le_succ h.lps
theorem aL.wT{n:Nat}{s:Mk}(h:aL n s)(b:Int)(t:Term):aL n (wT s b t):=by
 refine⟨h.at0,h.at1,h.arr,?_,?_,h.lps⟩
 ·show(List.set _ _ _).length<=_
  rw[List.length_set];exact h.blk
 ·intro c hc
  rcases iR (show c∈List.set _ _ _ from hc)with hc|rfl
  ·exact h.ins c hc
  ·show((cB s.2.2.1).getD b.toNat bE).1.length<=n
   rcases Nat.lt_or_ge b.toNat (cB s.2.2.1).length with hl|hl
   ·rw[List.getD_eq_getElem?_getD,List.getElem?_eq_getElem hl];exact h.ins _ (List.getElem_mem hl)
   ·rw[List.getD_eq_getElem?_getD,List.getElem?_eq_none hl];exact Nat.zero_le _
theorem aL.instN:∀ {k n:Nat} {s:Mk},aL n s->aL (n+10*k) (instN k s)
 |0,n,s,h=>h
 |k+1,n,s,h=>(aL.instN h.inst).mono (by omega)
theorem aL.insM{n:Nat}{s:Mk}(h:aL n s)(hb:∀v∈s.1,0<=v/\v<=255):aL (n+50) (insM s):=by
 have hv:=fW (fB s hb).1 (k:=5) (by decide)
 exact(aL.instN h.nx).mono (by omega)
end Sp
namespace Sp
theorem lp_facts{n:Nat}{s:Mk}(h:aL n s)(hh:has s)(hb:∀v∈s.1,0<=v/\v<=255):
  aL (n+1) (wR (nxM s) (lpN s+2))/\aL (n+2) (lp1 s)/\aL (n+3) (wL (wT (lp1 s) (nB s-1) (tJ 1 (nB s) 0)) (nB s,lpN s,lpB s,()))/\aL (n+4) (lp2 s)/\aL (n+5) (lp3 s)/\aL (n+5) (wT (lp3 s) (nB s) (tB (bK (lpN s+1)) (nB s+1) (nB s+2)))/\aL (n+6) (lp4 s)/\
   aL (n+7) (eE (lp4 s) (i3 3 10 0 (bK (lpN s)) (bK (lpN s)) (fY 1)))/\aL (n+57) (lp5 s)/\aL (n+57) (lp6 s):=by
 have h1:=(h.nx.wR (lpN s+2))
 have h2:=h1.put (i3 1 0 0 (bK (lpN s)) (fY 0) bM)
 have h3:=(h2.wT (nB s-1) (tJ 1 (nB s) 0)).wL (nB s,lpN s,lpB s,())
 have h4:=h3.bl
 have h5:=h4.put (i3 3 26 0 (bK (lpN s+1)) (bK (lpN s)) (fY (Go.IntKind.wrap .i32 (lpB s))))
 have h6:=h5.wT (nB s) (tB (bK (lpN s+1)) (nB s+1) (nB s+2))
 have h7:=h6.bl
 have h8:=h7.put (i3 3 10 0 (bK (lpN s)) (bK (lpN s)) (fY 1))
 have h9:=h8.insM hb
 exact⟨h1,h2,h3,h4,h5,h6,h7,h8,h9,h9.wT _ _⟩
theorem lp_len(s:Mk):cJ (lp1 s)=cJ s/\cJ (lp2 s)=cJ s+1/\cJ (lp3 s)=cJ s+1/\cJ (lp4 s)=cJ s+2/\cJ (lp5 s)=cJ s+2/\cJ (lp6 s)=cJ s+2:=by
 have h1:cJ (lp1 s)=cJ s:=eQ (wR (nxM s) (lpN s+2)) _
 have h2:cJ (lp2 s)=cJ s+1:=by
  have e:cJ (wL (wT (lp1 s) (nB s-1) (tJ 1 (nB s) 0)) (nB s,lpN s,lpB s,()))=cJ (lp1 s):=lZ (lp1 s) _ _
  unfold lp2;rw[j4,e,h1]
 have h3:cJ (lp3 s)=cJ s+1:=(eQ (lp2 s) _).trans h2
 have h4:cJ (lp4 s)=cJ s+2:=by
  unfold lp4;rw[j4,lZ,h3]
 have h5:cJ (lp5 s)=cJ s+2:=by
  unfold lp5;rw[nQ,eQ,h4]
 exact⟨h1,h2,h3,h4,h5,(lZ (lp5 s) _ _).trans h5⟩
end Sp
namespace Go.User
open Go.Lf Go.Proofs
set_option maxHeartbeats 4000000 in
set_option maxRecDepth 100000 in
theorem pk42:POk Try.prog 42 S42:=by
 have hC:∀q,aG Try.prog (C42 q):=fun q=>okM' q (aE ok17 (aE ok19 aS)) (cG pk83 (cG pk43 (cG pk46 dW))) rfl rfl rfl rfl rfl rfl
 refine POk.introK hC (fun q=>xM (hC q) nums_ok) Try.call42 Try.func42 (fun q=>rfl) (by kernel_rfl) L42 K42 ?_
 rw[vc42]
 simp only[zz,zy]
 intro x hM hx
 have hb:=eS hx.1
 obtain⟨hM,hh⟩:=hM
 obtain⟨m1,m2,m3,m4,m5,m6,m7,m8,m9,m10⟩:=Sp.lp_facts hM hh hb
 obtain⟨l1,l2,l3,l4,l5,l6⟩:=Sp.lp_len x
 have hl0:0<Sp.cJ x:=hh
 have hl4:Sp.cJ x<=4000:=hM.blk
 have hlp:(Sp.cL x.2.2.1).length<=4000:=hM.lps
 have hv:=Sp.fW (Sp.fB x hb).1 (k:=3) (by decide)
 have n0:Sp.nB x=(Sp.cJ x:Int):=rfl
 have p0:Sp.lpN x=6+2*((Sp.cL x.2.2.1).length:Int):=rfl
 have hI:∀z:Int, -10<=z->z<=100000->inK .i64 z:=fun z _ _=>aQ (by omega) (by omega)
 have a1:inK .i64 (Sp.lpN x+2):=hI _ (by omega) (by omega)
 have a2:inK .i64 (Sp.lpN x+1):=hI _ (by omega) (by omega)
 have a3:inK .i64 (Sp.nB x-1):=hI _ (by omega) (by omega)
 have a4:inK .i64 (Sp.nB x+1):=hI _ (by omega) (by omega)
 have a5:inK .i64 (Sp.nB x+2):=hI _ (by omega) (by omega)
 have a6:inK .i64 (2*((Sp.cL x.2.2.1).length:Int)):=hI _ (by omega) (by omega)
 have a7:inK .i64 (6+2*((Sp.cL x.2.2.1).length:Int)):=hI _ (by omega) (by omega)
 have a8:inK .i64 (1+(Sp.nxV x).tmod 3):=hI _ (by omega) (by omega)
 have a9:((x.2.2.1.2.2.2.2.2.2.1.length+1:Nat):Int)<=bJ:=by
  rw[lC];have:x.2.2.1.2.2.2.2.2.2.1.length<=4000:=hlp;omega
 have b0:Sp.aL 5000 x:=hM.mono (by decide)
 have b1:Sp.aL 5000 (Sp.wR (Sp.nxM x) (Sp.lpN x+2)):=m1.mono (by decide)
 have b3:Sp.aL 5000 (Sp.wL (Sp.wT (Sp.lp1 x) (Sp.nB x-1) (Sp.tJ 1 (Sp.nB x) 0)) (Sp.nB x,Sp.lpN x,Sp.lpB x,())):=m3.mono (by decide)
 have b4:Sp.aL 5000 (Sp.lp2 x):=m4.mono (by decide)
 have b6:Sp.aL 5000 (Sp.wT (Sp.lp3 x) (Sp.nB x) (Sp.tB (Sp.bK (Sp.lpN x+1)) (Sp.nB x+1) (Sp.nB x+2))):=m6.mono (by decide)
 have b7:Sp.aL 5000 (Sp.lp4 x):=m7.mono (by decide)
 have b8:Sp.aL 4500 (Sp.eE (Sp.lp4 x) (Sp.i3 3 10 0 (Sp.bK (Sp.lpN x)) (Sp.bK (Sp.lpN x)) (Sp.fY 1))):=m8.mono (by decide)
 have b10:Sp.aL 5000 (Sp.lp6 x):=m10.mono (by decide)
 have b11:Sp.aL 5000 (Sp.nxM (Sp.lp6 x)):=m10.nx.mono (by decide)
 have e1:Sp.has (Sp.wR (Sp.nxM x) (Sp.lpN x+2)):=hh
 have e2:Sp.has (Sp.lp2 x):=Sp.kK.2 (by omega)
 have e4:Sp.has (Sp.lp4 x):=Sp.kK.2 (by omega)
 have e5:Sp.has (Sp.eE (Sp.lp4 x) (Sp.i3 3 10 0 (Sp.bK (Sp.lpN x)) (Sp.bK (Sp.lpN x)) (Sp.fY 1))):=e4.put _
 have i1:inN (Sp.nB x-1) (Sp.cJ (Sp.lp1 x)):=⟨by omega,by omega⟩
 have i3:inN (Sp.nB x) (Sp.cJ (Sp.lp3 x)):=⟨by omega,by omega⟩
 have i5:inN (Sp.nB x+1) (Sp.cJ (Sp.lp5 x)):=⟨by omega,by omega⟩
 have i6:inN (Sp.nB x+1) (Sp.cJ (Sp.lp6 x)):=⟨by omega,by omega⟩
 clear hM m1 m2 m3 m4 m5 m6 m7 m8 m9 m10 l1 l2 l3 l4 l5 l6 hI hb
 refine⟨⟨a6,a7⟩,⟨b0,by decide,a8⟩,⟨(),rfl,rfl,rfl⟩,fun _=>⟨a1,⟨(),rfl⟩,fun _=>⟨⟨(),rfl⟩,fun _=>⟨⟨b1,e1⟩,⟨(),rfl⟩,fun _=>⟨⟨a3,i1⟩,⟨(),rfl⟩,fun _=> ?_⟩⟩⟩⟩⟩
 refine⟨a9,b3,⟨(),rfl⟩,fun _=>⟨⟨a2,b4,e2⟩,⟨(),rfl⟩,fun _=> ?_⟩⟩
 refine⟨⟨a2,a4,a5,i3⟩,b6,⟨(),rfl⟩,fun _=>⟨⟨b7,e4⟩,⟨b8,e5⟩,⟨(),rfl⟩,fun _=>⟨⟨a4,i5⟩,⟨(),rfl⟩,fun _=>⟨⟨b10,by decide⟩,fun g=> ?_,fun g=> ?_⟩⟩⟩⟩
 ·have E:∀A,A=Sp.wT (Sp.nxM (Sp.nxM (Sp.lp6 x))) (Sp.nB x+1) (Sp.tB (Sp.d7 (Sp.nxM (Sp.lp6 x))) (Sp.nB x) (Sp.nB x+2))->A=Sp.lpM x:=by
   rintro A rfl
   unfold Sp.lpM;rw[if_pos g]
  refine⟨⟨a4,a5⟩,⟨a4,a5⟩,?_⟩
  repeat' first|exact a4|exact a5|exact i6|exact b11|exact E _ rfl|constructor
 ·show _=Sp.lpM x
  unfold Sp.lpM;rw[if_neg g]
  rfl
end Go.User
namespace Go.Lf
def Md.le:Md->Md->Bool
 | .shr,_=>true
 | .own a,.own b=>Md.le a b
 | .pair a b,.pair c d=>Md.le a c&&Md.le b d
 |_,_=>false
theorem Md.le_fst:∀ {a b:Md},Md.le a b=true->Md.le a.fst b.fst=true
 | .shr,_,_=>by simp[Md.fst,Md.le]
 | .own _,.own _,_=>by simp[Md.fst,Md.le]
 | .pair _ _,.pair _ _,h=>by simp only[Md.le,Bool.and_eq_true]at h;exact h.1
theorem Md.le_snd:∀ {a b:Md},Md.le a b=true->Md.le a.snd b.snd=true
 | .shr,_,_=>by simp[Md.snd,Md.le]
 | .own _,.own _,_=>by simp[Md.snd,Md.le]
 | .pair _ _,.pair _ _,h=>by simp only[Md.le,Bool.and_eq_true]at h;exact h.2
theorem Md.le_elem:∀ {a b:Md},Md.le a b=true->Md.le a.elem b.elem=true
 | .shr,_,_=>by simp[Md.elem,Md.le]
 | .own _,.own _,h=>h
 | .pair _ _,.pair _ _,h=>by simp[Md.elem,Md.le]
theorem Own.weak{F:aA}{w:World}:∀ {τ:Ty} {m m':Md} {S:aA} {cs:List Value} {x:τ.den},Own F w τ m S cs x->Md.le m' m=true->
  ∃S',Sub S' S/\Own (fun b=>F b∨(S b/\¬S' b)) w τ m' S' cs x
 | .int _,_,_,_,_,_,h,_=>⟨none',fun _ h=>h.elim,by simpa[Own]using h⟩
 | .bool,_,_,_,_,_,h,_=>⟨none',fun _ h=>h.elim,by simpa[Own]using h⟩
 | .str,_,_,_,_,_,h,_=>⟨none',fun _ h=>h.elim,by simpa[Own]using h⟩
 | .abs _,_,_,_,_,_,h,_=>⟨none',fun _ h=>h.elim,iI.congr (fun _ h=> .inl h) (fun _ _=>rfl) h⟩
 | .unit,_,_,_,_,_,h,_=>⟨none',fun _ h=>h.elim,by simpa[Own]using h⟩
 | .prod a b,m,m',S,cs,x,h,hm=>by
  obtain⟨c1,c2,S1,S2,rfl,s1,s2,d,h1,h2⟩:=h;obtain⟨T1,t1,g1⟩:=Own.weak (τ:=a) h1 (Md.le_fst hm);obtain⟨T2,t2,g2⟩:=Own.weak (τ:=b) h2 (Md.le_snd hm);refine⟨fun k=>T1 k∨T2 k,fun k hk=>hk.elim (fun h=>s1 k (t1 k h)) (fun h=>s2 k (t2 k h)),c1,c2,T1,T2,rfl,fun _ h=> .inl h,fun _ h=> .inr h,fun k h1 h2=>d k (t1 k h1) (t2 k h2),?_,?_⟩
  ·exact g1.mono (fun k hk=>hk.imp id fun hk=>⟨s1 k hk.1,fun h=>h.elim hk.2 (fun h=>d k hk.1 (t2 k h))⟩) (fun _ h=>h)
  ·exact g2.mono (fun k hk=>hk.imp id fun hk=>⟨s2 k hk.1,fun h=>h.elim (fun h=>d k (t1 k h) hk.1) hk.2⟩) (fun _ h=>h)
 | .slice e,m,.shr,S,cs,xs,h,hm=>⟨none',fun _ h=>h.elim,(Own.freeze (S':=none') h).mono (fun k hk=>hk.imp id fun hk=>⟨hk,fun h=>h⟩) (fun _ h=>h)⟩
 | .slice e,m,.pair _ _,S,cs,xs,h,hm=>by
  obtain⟨ao,cap,rfl,hc,hl,h⟩:=h;cases m with
  |own me=>cases hm
  |shr=>cases hm
  |pair a b=>
   refine⟨none',fun _ h=>h.elim,ao,cap,rfl,hc,hl,?_⟩
   rcases h with h|⟨b,off,row,T,fr,ha,hb,hr,ho,he⟩
   ·exact .inl h
   ·exact .inr ⟨b,off,row,T,fr,ha,.inl hb,hr,ho,fun i x hx=>(he i x hx).mono (fun _ h=> .inl h) (fun _ h=>h)⟩
 | .slice e,m,.own me',S,cs,xs,h,hm=>by
  obtain⟨ao,cap,rfl,hc,hl,h⟩:=h;cases m with
  |shr=>cases hm
  |pair _ _=>cases hm
  |own me=>
   rcases h with h|⟨b,off,row,T,Si,ha,hb,hr,ho,s,nb,d,he⟩
   ·exact⟨none',fun _ h=>h.elim,ao,cap,rfl,hc,hl,.inl h⟩
   ·have hex:∀i:Nat,∃Ti:aA,Sub Ti (Si i)/\∀x,xs[i]? =some x->Own (fun b=>F b∨(Si i b/\¬Ti b)) w e me' Ti (seg row.toList (off+i*e.size) e.size) x:=by
     intro i;cases hx:xs[i]? with
     |none=>exact⟨none',fun _ h=>h.elim,fun x hx=>by cases hx⟩
     |some x=>
      obtain⟨T1,t1,g1⟩:=Own.weak (τ:=e) (he i x hx) hm;exact⟨T1,t1,fun y hy=>by cases hy;exact g1⟩
    have hTs:=fun i=>(hex i).choose_spec
    generalize hT:(fun i=>(hex i).choose)=Ti at hTs
    have hT':∀i,(hex i).choose=Ti i:=fun i=>by rw[<-hT]
    simp only[hT']at hTs;refine⟨fun k=>k=b∨∃i,Ti i k,?_,ao,cap,rfl,hc,hl,.inr ⟨b,off,row,T,Ti,ha,.inl rfl,hr,ho,fun i k hk=> .inr ⟨i,hk⟩,fun i hk=>nb i ((hTs i).1 _ hk),fun i j hij k h1 h2=>d i j hij k ((hTs i).1 _ h1) ((hTs j).1 _ h2),?_⟩⟩
    ·rintro k (rfl|⟨i,hk⟩)
     ·exact hb
     ·exact s i k ((hTs i).1 _ hk)
    ·intro i x hx
     refine((hTs i).2 x hx).mono (fun k hk=>hk.imp id fun hk=>⟨s i k hk.1,?_⟩) (fun _ h=>h)
     rintro (rfl|⟨j,hj⟩)
     ·exact nb i hk.1
     ·by_cases hij:i=j
      ·subst hij;exact hk.2 hj
      ·exact d i j hij k hk.1 ((hTs j).1 _ hj)
 | .arr n e,m,m',S,cs,xs,h,hm=>by
  obtain⟨hn,hc,Si,s,d,he⟩:=h;have hex:∀i:Nat,∃Ti:aA,Sub Ti (Si i)/\∀x,xs[i]? =some x->Own (fun b=>F b∨(Si i b/\¬Ti b)) w e m'.elem Ti (seg cs (i*e.size) e.size) x:=by
   intro i;cases hx:xs[i]? with
   |none=>exact⟨none',fun _ h=>h.elim,fun x hx=>by cases hx⟩
   |some x=>
    obtain⟨T1,t1,g1⟩:=Own.weak (τ:=e) (he i x hx) (Md.le_elem hm);exact⟨T1,t1,fun y hy=>by cases hy;exact g1⟩
  have hTs:=fun i=>(hex i).choose_spec
  generalize hT:(fun i=>(hex i).choose)=Ti at hTs
  have hT':∀i,(hex i).choose=Ti i:=fun i=>by rw[<-hT]
  simp only[hT']at hTs;refine⟨fun k=>∃i,Ti i k,fun k ⟨i,hk⟩=>s i k ((hTs i).1 _ hk),hn,hc,Ti,fun i k hk=>⟨i,hk⟩,fun i j hij k h1 h2=>d i j hij k ((hTs i).1 _ h1) ((hTs j).1 _ h2),?_⟩
  intro i x hx;refine((hTs i).2 x hx).mono (fun k hk=>hk.imp id fun hk=>⟨s i k hk.1,?_⟩) (fun _ h=>h)
  rintro⟨j,hj⟩
  by_cases hij:i=j
  ·subst hij;exact hk.2 hj
  ·exact d i j hij k hk.1 ((hTs j).1 _ hj)
def weakO(st:St)(r:Nat)(m:Md):St:=
 match st r with
 | .own τ m0 x=>bif Md.le m m0 then upd (cV st r) r (.own τ m x)else st
 | .box τ m0 x=>bif Md.le m m0 then upd (cV st r) r (.box τ m x)else st
 |_=>st
section
variable {P:Program} {N:NP} {w0:World} {F0 H:aA} {env:St} {a:Act} {w:World} {F:aA} {S:Nat->aA}
theorem aJ.weakE(hi:aJ P N w0 F0 H env a w F S){r:Nat}{e:Ent}{S1:aA}(hs:Sub S1 (S r))(hr:(env r).isOwner=true)
  (he:aF P (fun b=>F b∨(S r b/\¬S1 b)) w (upd (cV env r) r e) (fun t=>a.tmps.getD t undef) (fun t=>if t=r then S1 else S t) r e):
  aJ P N w0 F0 H (upd (cV env r) r e) a w (fun b=>F b∨(S r b/\¬S1 b)) (fun t=>if t=r then S1 else S t):=by
 have hap:∀t b,t≠r->S t b->¬S r b:=fun t b h h1 h2=>hi.sd t r h b h1 h2
 refine⟨hi.os,hi.tape,hi.output,hi.size,hi.block,?_,fun b hb=> .inl (hi.f0 b hb),?_,?_,?_,?_,hi.defers,hi.slots⟩
 ·rintro b (hb|⟨hb,_⟩)
  ·exact hi.fb b hb
  ·exact(hi.sb r b hb).2.1
 ·rintro b (hb|⟨hb,_⟩) hn
  ·exact hi.fn b hb hn
  ·exact(hi.sb r b hb).1
 ·intro t b ht
  by_cases h:t=r
  ·simp only[h,if_true]at ht
   obtain⟨g1,g2,g3⟩:=hi.sb r b (hs b ht);exact⟨g1,g2,fun hF=>hF.elim g3 (fun h=>h.2 ht)⟩
  ·simp only[h,if_false]at ht
   obtain⟨g1,g2,g3⟩:=hi.sb t b ht;exact⟨g1,g2,fun hF=>hF.elim g3 (fun h'=>hap t b h ht h'.1)⟩
 ·intro t u htu b h1 h2
  by_cases h:t=r
  ·simp only[h,if_true]at h1
   by_cases h':u=r
   ·exact htu (h.trans h'.symm)
   ·simp only[h',if_false]at h2
    exact hap u b h' h2 (hs b h1)
  ·simp only[h,if_false]at h1
   by_cases h':u=r
   ·simp only[h',if_true]at h2;exact hap t b h h1 (hs b h2)
   ·simp only[h',if_false]at h2
    exact hi.sd t u htu b h1 h2
 ·intro t
  by_cases h:t=r
  ·subst h
   rw[bU];exact he
  ·rw[bG _ _ h]
   rcases c9 env r t with h'|⟨h',hne⟩
   ·rw[h'];trivial
   ·rw[h']
    refine aF.keep (fun b hb=> .inl hb) (fun _ _=>rfl) rfl ?_ ?_ (hi.ent t)
    ·intro q hq
     have hqr:q≠r:=fun e=>hne (e▸hq)
     refine⟨fun ho=> ?_,fun _=>rfl,by simp[hqr],fun _ _=>rfl,?_,fun b hb=>(hi.sb q b hb).2.2⟩
     ·rw[bG _ _ hqr];unfold cV eY;rw[Ent.owner_root ho]
     ·rintro b (h1|h1) h2
      ·exact absurd h1 h2
      ·exact fun h3=>hap q b hqr h3 h1.1
    ·intro _
     refine⟨by simp[h],fun _ _=>rfl,?_⟩
     rintro b (h1|h1) h2
     ·exact absurd h1 h2
     ·exact fun h3=>hap t b h h3 h1.1
theorem jP{r:Nat}{m:Md}(h:Inv P N w0 F0 H env a w):Inv P N w0 F0 H (weakO env r m) a w:=by
 obtain⟨F,S,hi⟩:=h
 unfold weakO
 split
 ·rename_i τ m0 x hr
  cases hm:Md.le m m0
  ·exact⟨F,S,hi⟩
  ·have h1:=hi.ent r
   rw[hr]at h1;obtain⟨pl,S0,cs,h1⟩:=h1;obtain⟨_,_,hpl,hS0,hv⟩:=h1.own_inj;obtain⟨S1,s1,g1⟩:=Own.weak h1.2.2 hm;subst hS0;refine⟨_,_,hi.weakE s1 (by rw[hr];rfl) ?_⟩;refine⟨.val cs,S1,cs,.inl ⟨rfl,rfl,?_,hv⟩,rfl,g1⟩
   simp
 ·rename_i τ m0 x hr
  cases hm:Md.le m m0
  ·exact⟨F,S,hi⟩
  ·have h1:=hi.ent r
   rw[hr]at h1;obtain⟨pl,S0,cs,h1⟩:=h1;obtain⟨_,_,b,rfl,hS0,hval,hsb⟩:=h1.box_inj;obtain⟨q1,q2,row,T0,q3,q4,q5⟩:=h1.2.1;obtain⟨S1,s1,g1⟩:=Own.weak h1.2.2 hm;have hb1:¬S1 b:=fun h=>q1 (s1 b h)
   refine⟨_,_,hi.weakE (S1:=fun k=>S1 k∨k=b) (fun k hk=>hk.elim (fun h=>h1.sub k (s1 k h)) (fun h=>h▸hsb)) (by rw[hr];rfl) ?_⟩
   refine⟨.mem b 0,S1,cs,.inr ⟨rfl,b,rfl,?_,hval,by simp⟩,⟨hb1,?_,row,T0,q3,q4,q5⟩,g1.mono ?_ (fun _ h=>h)⟩
   ·funext k
    simp only[if_true]
    apply propext
    constructor
    ·exact fun h=>⟨.inl h,fun e=>hb1 (e▸h)⟩
    ·rintro⟨h|h,h2⟩
     ·exact h
     ·exact absurd h h2
   ·rintro (h|⟨_,h⟩)
    ·exact q2 h
    ·exact h (.inr rfl)
   ·rintro k (h|⟨h,h2⟩)
    ·exact .inl h
    ·refine .inr ⟨h1.sub k h,?_⟩
     rintro (h3|h3)
     ·exact h2 h3
     ·subst h3;exact q1 h
 ·exact⟨F,S,hi⟩
end
end Go.Lf
namespace Go.Lf

def frzW(st:St)(r:Nat):St:=match st r with
 | .box τ _ x=>fun t=>match st t with
  | .addr r' []=>bif Nat.beq r' r then .saddr τ x else pG st r t
  |_=>pG st r t
 |_=>st

section
variable {P:Program} {N:NP} {w0:World} {F0 H:aA} {env:St} {a:Act} {w:World}
theorem mE{r:Nat}(h:Inv P N w0 F0 H env a w):Inv P N w0 F0 H (frzW env r) a w:=by
 have hf:=yU (r:=r) h
 obtain⟨F,S,hi⟩:=h
 unfold frzW
 split
 ·rename_i τ m x hr
  have e0:pG env r=upd (cV env r) r (.saddr τ x):=by unfold pG;rw[hr]
  obtain⟨F',S',hi'⟩:=hf;have hsr:gV F' w (a.tmps.getD r undef) τ x:=by
   have:=hi'.ent r
   rw[e0,bU]at this;exact this
  have hval:∀t,env t= .addr r []->a.tmps.getD t undef=a.tmps.getD r undef:=by
   intro t ht;have h1:=hi.ent t;rw[ht]at h1;obtain⟨τ1,m1,x1,pl,S0,cs,σ,μ,b,off,h1,h2,h3,h4,h5,h6⟩:=h1;rw[hr]at h1;obtain⟨_,_,b',rfl,_,g1,_⟩:=h1.box_inj;simp only[loc,Option.some.injEq,Prod.mk.injEq,aK.mem.injEq]at h2;obtain⟨_,rfl,rfl⟩:=h2;exact h3.trans g1.symm
  refine⟨F',S',hi'.os,hi'.tape,hi'.output,hi'.size,hi'.block,hi'.fb,hi'.f0,hi'.fn,hi'.sb,hi'.sd,?_,hi'.defers,hi'.slots⟩
  have hsame:∀q,(pG env r q).isOwner=true->(match env q with
    | .addr r' []=>bif Nat.beq r' r then .saddr τ x else pG env r q
    |_=>pG env r q)=pG env r q:=by
   intro q hq;split
   ·rename_i r' hq'
    cases hb:Nat.beq r' r
    ·rfl
    ·exfalso
     have:=aY.1 hb
     subst this;rw[e0]at hq;have hne:q≠r':=fun e=>by subst e;rw[hr]at hq';cases hq'
     rw[bG _ _ hne]at hq;rcases c9 env r' q with h|⟨h,h2⟩
     ·rw[h]at hq;cases hq
     ·rw[hq']at h2;exact h2 rfl
   ·rfl
  have hkeep:∀t,aF P F' w (fun t=>match env t with
    | .addr r' []=>bif Nat.beq r' r then .saddr τ x else pG env r t
    |_=>pG env r t) (fun t=>a.tmps.getD t undef) S' t (pG env r t):=by
   intro t;refine aF.keep (fun _ h=>h) (fun _ _=>rfl) rfl ?_ (fun _=>⟨rfl,fun _ _=>rfl,fun b h1 h2=>absurd h1 h2⟩) (hi'.ent t)
   intro q hq;exact⟨fun ho=>hsame q ho,fun _=>rfl,rfl,fun _ _=>rfl,fun b h1 h2=>absurd h1 h2,fun b hb=>(hi'.sb q b hb).2.2⟩
  intro t;have:=hkeep t
  revert this
  cases hm:env t with
  |addr r' p=>
   cases p with
   |nil=>
    cases hb:Nat.beq r' r
    ·intro this;dsimp only;rw[hb];exact this
    ·intro _
     have:=aY.1 hb
     subst this
     dsimp only;rw[hb]
     show gV F' w (a.tmps.getD t undef) τ x
     rw[hval t hm];exact hsr
   |cons _ _=>intro this;exact this
  |_=>intro this;exact this
 ·exact⟨F,S,hi⟩
end

inductive KT:Type 1 where
 |i (L:List aW)
 |s (a b:KT)
 |c (l:aW) (a:KT) (b:l.ι->KT)
 |d (a b:KT)
 |b (a:KT)
 |l (l:aW) (b:l.ι->KT)
 |z (r:Nat) (L:List aW)
 |y (r:Nat) (m:Md) (L:List aW)
 |o (a:KT)
 |m

def wpT(C:Ctx)(stp:St->Oper->Option (Prop×St)):KT->Code->St->(St->Prop)->(Nat->St->Prop)->(St->Prop)->Prop
 | .i L,c,st,Qn,Qx,Qr=>wpI C stp L c 0 st Qn Qx Qr
 | .z r L,c,st,Qn,Qx,Qr=>wpI C stp L c 0 (frzW st r) Qn Qx Qr
 | .y r m L,c,st,Qn,Qx,Qr=>wpI C stp L c 0 (weakO st r m) Qn Qx Qr
 | .s ka kb,.seq a b,st,Qn,Qx,Qr=>wpT C stp ka a st (fun st'=>wpT C stp kb b st' Qn Qx Qr) Qx Qr
 | .c l ka kb,.seq a b,st,Qn,Qx,Qr=>wpT C stp ka a st (fun st'=>∃x,l.inv x/\atX l st x (kC st' l.frz)) Qx Qr/\∀x,l.inv x->mF (l.ovr x) []->wpT C stp (kb x) b (stx l st x) Qn Qx Qr
 | .d ka kb,.cond x a b,st,Qn,Qx,Qr=>match(bR st x).val with
  |some ⟨.bool,p⟩=>(p=true->wpT C stp ka a st Qn Qx Qr)/\(p=false->wpT C stp kb b st Qn Qx Qr)
  |none=>match(bR st x).e with
   | .nb p q=>(p->wpT C stp ka a st Qn Qx Qr)/\(q->wpT C stp kb b st Qn Qx Qr)
   |_=>False
  |_=>False
 | .b ka,.block id b,st,Qn,Qx,Qr=>wpT C stp ka b st Qn (fun i st'=>bif Nat.beq i id then Qn st' else Qx i st') Qr
 | .l l kb,.loop b,st,_,Qx,Qr=>(∃x,l.inv x/\atX l (kC st l.frz) x (kC st l.frz))/\∀x,l.inv x->mF (l.ovr x) []->wpT C stp (kb x) b (stx l (kC st l.frz) x) (fun st'=>∃y,l.inv y/\l.dec y<l.dec x/\atX l (kC st l.frz) y (kC st' l.frz)) Qx Qr
 | .o ka,.scope b,st,Qn,Qx,Qr=>wpT C stp ka b st Qn Qx Qr
 | .m,.label _,st,Qn,_,_=>Qn st
 |_,_,_,_,_,_=>False
termination_by structural _ c=>c

def funPT(C:Ctx)(stp:St->Oper->Option (Prop×St))(s:dF)(K:s.τ.den->aH s.args->KT)(fn:Func):Prop:=
 match fn.body with
 |some c=>∀x y,s.pre x y->aB s.τ x->gE s.args y->wpT C stp (K x y) c (ofL ((0,.box s.τ s.m x)::bZ s.args y 1)) (oW C s fn.results.toList (s.fn x y) (s.out x y)) (fun _ _=>False) (oW C s fn.results.toList (s.fn x y) (s.out x y))
 |none=>False
def oZ(C:Ctx)(stp:St->Oper->Option (Prop×St))(s:bD)(K:aH s.args->KT)(fn:Func):Prop:=
 match fn.body with
 |some c=>∀x,s.pre x->gE s.args x->wpT C stp (K x) c (ofL (bZ s.args x 0)) (jU C fn.results.toList s (s.fn x)) (fun _ _=>False) (jU C fn.results.toList s (s.fn x))
 |none=>False

section
variable {P:Program} {C:Ctx} {w0:World} {F0 H:aA}

theorem qR(hC:aG P C){stp:St->Oper->Option (Prop×St)}(hstp:dM P C stp):
  ∀(c:Code) {T:KT} {st:St} {Qn:St->Prop} {Qx:Nat->St->Prop} {Qr:St->Prop} {Q:Exit->Act->World->Prop} {a:Act} {w:World},wpT C stp T c st Qn Qx Qr->Inv P C.np w0 F0 H st a w->
   (∀st a w,Qn st->Inv P C.np w0 F0 H st a w->Q .normal a w)->(∀i st a w,Qx i st->Inv P C.np w0 F0 H st a w->Q (.exit i) a w)->(∀st a w,Qr st->Inv P C.np w0 F0 H st a w->Q .ret a w)->c.wp P Q a w:=by
 intro c
 induction c with
 |seq x y ihx ihy=>
  intro T st Qn Qx Qr Q a w h hi hn hx hr;cases T with
  |i L=>simp only[wpT]at h;exact cT hC hstp _ h hi hn hx hr
  |z r L=>simp only[wpT]at h;exact cT hC hstp _ h (mE hi) hn hx hr
  |y r m L=>simp only[wpT]at h;exact cT hC hstp _ h (jP hi) hn hx hr
  |s ka kb=>
   simp only[wpT]at h;refine wp_seq (ihx h hi ?_ hx hr);intro st1 a1 w1 h1 hi1;exact ihy h1 hi1 hn hx hr
  |c l ka kb=>
   simp only[wpT]at h;refine wp_seq (ihx h.1 hi ?_ hx hr);intro st1 a1 w1 h1 hi1;obtain⟨z,g1,g2⟩:=h1;have hi2:=mI g2 (iT (l:=l.frz) hi1);exact ihy (h.2 z g1 (iN hi2 (f:=l.ovr z) (fun t e h=>by simp only[stx,h]) (l.ovr z) [] (fun t e _ h=>h))) hi2 hn hx hr
  |_=>simp[wpT]at h
 |cond z x y ihx ihy=>
  intro T st Qn Qx Qr Q a w h hi hn hx hr;cases T with
  |i L=>simp only[wpT]at h;exact cT hC hstp _ h hi hn hx hr
  |z r L=>simp only[wpT]at h;exact cT hC hstp _ h (mE hi) hn hx hr
  |y r m L=>simp only[wpT]at h;exact cT hC hstp _ h (jP hi) hn hx hr
  |d ka kb=>
   simp only[wpT]at h;split at h
   ·rename_i p hv
    obtain⟨F,S,hi0⟩:=hi;have:=(aP.val_ok hi0 (aX hi0 z) hv).bool_eq;refine wp_cond_split this (fun hp=>ihx (h.1 hp) ⟨F,S,hi0⟩ hn hx hr) (fun hp=>ihy (h.2 hp) ⟨F,S,hi0⟩ hn hx hr)
   ·split at h
    ·rename_i p q hv
     obtain⟨F,S,hi0⟩:=hi;have h1:=(aX hi0 z).ent (by rw[hv];rfl) 0 (by rw[hv];simp[Ent.root]);rw[hv]at h1;simp only[aF,if_true]at h1;obtain⟨b,h1,h2,h3⟩:=h1;refine wp_cond_split h1 (fun hp=>ihx (h.1 (h2 hp)) ⟨F,S,hi0⟩ hn hx hr) (fun hp=>ihy (h.2 (h3 hp)) ⟨F,S,hi0⟩ hn hx hr)
    ·cases h
   ·cases h
  |_=>simp[wpT]at h
 |block id b ih=>
  intro T st Qn Qx Qr Q a w h hi hn hx hr;cases T with
  |i L=>simp only[wpT]at h;exact cT hC hstp _ h hi hn hx hr
  |z r L=>simp only[wpT]at h;exact cT hC hstp _ h (mE hi) hn hx hr
  |y r m L=>simp only[wpT]at h;exact cT hC hstp _ h (jP hi) hn hx hr
  |b ka=>
   simp only[wpT]at h;refine wp_block (ih h hi hn ?_ hr);intro i st1 a1 w1 h1 hi1;simp only[Exit.inBlock];cases hb:Nat.beq i id
   ·rw[hb]at h1
    have:i≠id:=fun e=>by subst e;rw[Nat.beq_refl]at hb;cases hb
    rw[if_neg this];exact hx _ _ _ _ h1 hi1
   ·rw[hb]at h1
    rw[if_pos (aY.1 hb)];exact hn _ _ _ h1 hi1
  |_=>simp[wpT]at h
 |loop b ih=>
  intro T st Qn Qx Qr Q a w h hi hn hx hr;cases T with
  |i L=>simp only[wpT]at h;exact cT hC hstp _ h hi hn hx hr
  |z r L=>simp only[wpT]at h;exact cT hC hstp _ h (mE hi) hn hx hr
  |y r m L=>simp only[wpT]at h;exact cT hC hstp _ h (jP hi) hn hx hr
  |l l kb=>
   simp only[wpT]at h;obtain⟨⟨x,h1,h2⟩,h3⟩:=h;refine oB (fun x a w=>l.inv x/\Inv P C.np w0 F0 H (stx l (kC st l.frz) x) a w) l.dec x ⟨h1,mI h2 (iT hi)⟩ ?_
   intro y a1 w1 ⟨g1,g2⟩;refine ih (h3 y g1 (iN g2 (f:=l.ovr y) (fun t e h=>by simp only[stx,h]) (l.ovr y) [] (fun t e _ h=>h))) g2 ?_ hx hr
   intro st2 a2 w2 ⟨z,k1,k2,k3⟩ hi2;exact⟨z,⟨k1,mI k3 (iT hi2)⟩,k2⟩
  |_=>simp[wpT]at h
 |scope b ih=>
  intro T st Qn Qx Qr Q a w h hi hn hx hr;cases T with
  |i L=>simp only[wpT]at h;exact cT hC hstp _ h hi hn hx hr
  |z r L=>simp only[wpT]at h;exact cT hC hstp _ h (mE hi) hn hx hr
  |y r m L=>simp only[wpT]at h;exact cT hC hstp _ h (jP hi) hn hx hr
  |o ka=>
   simp only[wpT]at h;exact wp_scope_straight (ih h hi (fun st a w h1 h2=>hn st a w h1 h2) (fun i st a w h1 h2=>hx i st a w h1 h2) (fun st a w h1 h2=>hr st a w h1 h2))
  |_=>simp[wpT]at h
 |label l=>
  intro T st Qn Qx Qr Q a w h hi hn hx hr;cases T with
  |i L=>simp only[wpT]at h;exact cT hC hstp _ h hi hn hx hr
  |z r L=>simp only[wpT]at h;exact cT hC hstp _ h (mE hi) hn hx hr
  |y r m L=>simp only[wpT]at h;exact cT hC hstp _ h (jP hi) hn hx hr
  |m=>simp only[wpT]at h;exact wp_label (hn _ _ _ h hi)
  |_=>simp[wpT]at h
 |_=>
  intro T st Qn Qx Qr Q a w h hi hn hx hr;cases T with
  |i L=>simp only[wpT]at h;exact cT hC hstp _ h hi hn hx hr
  |z r L=>simp only[wpT]at h;exact cT hC hstp _ h (mE hi) hn hx hr
  |y r m L=>simp only[wpT]at h;exact cT hC hstp _ h (jP hi) hn hx hr
  |_=>simp[wpT]at h

theorem POk.introQT{q:Nat}(hC:aG P C){stp:St->Oper->Option (Prop×St)}(hstp:dM P C stp){f:FuncId}{s:dF}{fn:Func}(hdef:fV P f)(hf:P.funcs[f]? =some fn)
  (hN:C.np=⟨fn.ntmps,some 0,q,0,[]⟩) (hlen:Nat.ble (s.args.length+1) fn.ntmps=true) (K:s.τ.den->aH s.args->KT) (h:funPT C stp s K fn):POk P f s (some q):=by
 refine⟨hdef,?_⟩
 intro w F S0 b cs x vs y hq hb hF hS0 h1 h2 ha hpre
 have hq:=hq q rfl
 subst hq
 unfold funPT at h
 split at h
 ·rename_i c hbd
  have hl:=cD.len ha
  have hlen':s.args.length+1<=fn.ntmps:=Nat.le_of_ble_eq_true hlen
  have hst:=aJ.startP (P:=P) (n:=fn.ntmps) hb hF hS0 h1 h2 ha (by omega)
  rw[<-hN]at hst;refine calls_of_wp hf hbd ?_;have hend:∀st a w',oW C s fn.results.toList (s.fn x y) (s.out x y) st->Inv P C.np w F (fun k=>S0 k∨k=b) st a w'->bodyPost P fn (o5 F S0 w b s x y) .normal a w':=by
   intro st a w' hq hi;have hqq:C.np.q=b:=by rw[hN]
   have:=tY (N:=C.np) hC (by rw[hN]) (x:=x) (y:=y) (S0:=S0) (by rw[hqq]) hq hi
   rwa [hqq]at this
  refine qR hC hstp c (h x y hpre h2.fact (d4 ha)) ⟨F,_,by simpa using hst⟩ ?_ (fun _ _ _ _ h=>h.elim) ?_
  ·intro st a w' hq hi
   exact hend st a w' hq hi
  ·intro st a w' hq hi
   exact hend st a w' hq hi
 ·cases h
theorem POk.introT{C:Nat->Ctx}(hC:∀q,aG P (C q)){stp:Nat->St->Oper->Option (Prop×St)}(hstp:∀q,dM P (C q) (stp q)){f:FuncId}{s:dF}{fn:Func}(hdef:fV P f)(hf:P.funcs[f]? =some fn)
  (hN:∀q,(C q).np=⟨fn.ntmps,some 0,q,0,[]⟩) (hlen:Nat.ble (s.args.length+1) fn.ntmps=true) (K:Nat->s.τ.den->aH s.args->KT) (h:∀q,funPT (C q) (stp q) s (K q) fn):POk P f s:=
 POk.all fun q=>POk.introQT (hC q) (hstp q) hdef hf (hN q) hlen (K q) (h q)

theorem FOk.introT(hC:aG P C){stp:St->Oper->Option (Prop×St)}(hstp:dM P C stp){f:FuncId}{s:bD}{fn:Func}(hdef:fV P f)(hf:P.funcs[f]? =some fn)(hN:C.np=⟨fn.ntmps,none,0,s.glb,[]⟩)
  (hlen:Nat.ble s.args.length fn.ntmps=true) (K:aH s.args->KT) (h:oZ C stp s K fn):FOk P f s:=by
 refine⟨hdef,?_⟩
 intro w F vs xs hG hF ha hp
 unfold oZ at h
 split at h
 ·rename_i c hb
  have hl:=cD.len ha
  have hlen':s.args.length<=fn.ntmps:=Nat.le_of_ble_eq_true hlen
  have hst:=aJ.start (P:=P) (N:=C.np) (by rw[hN];exact hG) hF ha (by rw[hN];show vs.length<=fn.ntmps;omega) (by rw[hN]) (by rw[hN])
  refine calls_of_wp hf hb ?_
  rw[show C.np.n=fn.ntmps by rw[hN]]at hst
  refine qR hC hstp c (h xs hp (d4 ha)) ⟨F,_,by simpa using hst⟩ ?_ (fun _ _ _ _ h=>h.elim) ?_
  ·intro st a w' hq hi
   obtain⟨v,h1,h2⟩:=kE hC hq hi;obtain⟨_,_,hi⟩:=hi;exact⟨hi.defers,v,h1,h2⟩
  ·intro st a w' hq hi
   obtain⟨v,h1,h2⟩:=kE hC hq hi;obtain⟨_,_,hi⟩:=hi;exact⟨hi.defers,v,h1,h2⟩
 ·cases h
end
end Go.Lf
namespace Sp
def rg1(b:Int)(s:Mk):Mk:=wT (insM s) b (tJ 1 (b+1) 0)
def rgV(b last:Int)(s:Mk):Int:=b+1+Int.tmod (nxV s) (last-b)
def rg2(b last:Int)(s:Mk):Mk:=if Int.tmod (nxV s) 2=0 then wT (nxM (nxM (nxM (nxM s)))) b (tB (d7 (nxM s)) (rgV b last (nxM (nxM s))) (rgV b last (nxM (nxM (nxM s)))))else nxM s
def rgS(b last:Int)(s:Mk):Mk:=fG (rg2 b last (rg1 b s))
def rgN(last:Int):Nat->Mk->Mk
 |0,s=>s
 |k+1,s=>rgN last k (rgS (last-((k+1:Nat):Int)) last s)
def rgM(s:Mk)(n:Int):Mk:=insM (rgN (nB s+n) n.toNat (fG s))
end Sp
namespace Go.User
open Go.Lf
def cutM(n:Nat)(x:Sp.Mk)(o:List (Nat×Ent)):aW:={ι:=Unit,inv:=fun _=>True,dec:=fun _=>0,ovr:=fun _=>(0,.box tMk mMk x)::o,keep:=[]}
def S41:dF:={τ:=tMk,m:=mMk,args:=[.val tI],pre:=fun s y=>Sp.aL 4000 s/\0<=y.1/\y.1<=2,fn:=fun s y=>Sp.rgM s y.1,out:=fun _ _=>()}
def C41(q:Nat):Ctx:=mkM 77 q [] [(43,S43),(46,S46)]
def T41(q:Nat)(x:S41.τ.den)(y:aH S41.args):KT:=
 let last:Int:=Sp.nB x+y.1
 .s (.i []) (.s (.i []) (.s (.i []) (.s (.s (.i []) (.b (.l
  {ι:=Nat×Sp.Mk,inv:=fun t=>(t.1:Int)<=y.1/\Sp.aL (4200-60*t.1) t.2/\(Sp.cJ t.2:Int)=last-(t.1:Int)+1/\Sp.rgN last t.1 t.2=Sp.rgN last y.1.toNat (Sp.fG x),dec:=fun t=>t.1,ovr:=fun t=>[(0,.box tMk mMk t.2),(5,.shr tI last),(6,.shr tI (last-(t.1:Int)))],keep:=[]}
  (fun t=>
   let b:Int:=last-(t.1:Int)
   let o:List (Nat×Ent):=[(5,.shr tI last),(6,.shr tI b)]
   .s (.i []) (.s (.b (.c (cutM 6 (Sp.insM t.2) o) (.i []) (fun _=> .c (cutM 7 (Sp.rg1 b t.2) o) (.i []) (fun _=> .c (cutM 8 (Sp.rg2 b last (Sp.rg1 b t.2)) o) (.i []) (fun _=> .i []))))) (.i [])))))) (.i []))))
end Go.User
namespace Go.User
open Go.Proofs Go.Lf
set_option maxRecDepth 100000
theorem vc41:(∀q:Nat,funPT (C41 q) (stpN yE (C41 q)) S41 (T41 q) Try.f41)=(
let q0:=(2:Nat);
let q1:=(5000:Nat);
let q2:List Sp.Block:=Sp.bE::([]:List Sp.Block);
let q3:Int:=(1:Int);
let q4:=True/\True/\True;
let q5:=True/\q4;
let q6:Int:=(0:Int);
let q7:Sp.Opd:=(q6,q6,q6,());
let q8:List Int:=List.replicate q0 q6;
let q9:Sp.Block:=(([]:List aC.den),(q6,q6,q7,q7,q7,q8,()),());
let q10:=(0:Nat);
let q11:=(1:Nat);
let q12:Int:=(2:Int);
let q13:=q10=q10;
let q14:=True/\q13/\([]:List aD)=([]:List aD);
let q15:List aD:=aD.snd::aD.fst::([]:List aD);
let q16:List aD:=aD.snd::q15;
let q17:=True/\q13/\q16=q16;
let q18:List aD:=aD.snd::aD.snd::aD.fst::aD.snd::aD.snd::aD.snd::aD.snd::aD.snd::q16;
let q19:=True/\q13/\q18=q18;
let q20:=True/\q5;
∀(q:Nat) (x:Sp.Mk),
 let q21:Int:=(↑(Sp.cB x.2.2.1++q2).length:Int)-q3;
 ∀(y:Int×Unit),
 let q22:Int:=q21+y.1;
 let q23:Int:=Sp.nB x+y.1;
 let q24:=aB tI q23;
 let q25:=q23=q23;
 let q26:=True/\q25;
 Sp.aL (4000:Nat) x/\(0:(AK.val tI).den)<=y.1/\y.1<=(2:(AK.val tI).den)->
 aB (tU8.slice.prod (tI.prod ((tI.prod (tI.prod (tI.prod (tI.prod (tI.prod (cC.slice.prod (bC.slice.prod ((aC.slice.prod ((tI.prod (tI.prod (aM.prod (aM.prod (aM.prod ((Ty.arr q0 tI).prod Ty.unit)))))).prod Ty.unit)).slice.prod Ty.unit)))))))).prod Ty.unit))) x->
 aB tI y.1/\True->
 ((True/\True)/\Sp.aL q1 x/\True)/\
 ((True/\True/\True/\True/\True/\True/\inK IntKind.i64 q21/\True/\True)/\True)/\
 ((True/\True/\inK IntKind.i64 q22/\True/\True)/\True)/\
 (q4/\True)/\
 (∃(x_1:Nat×Sp.Mk),
 let q27:Int:=(↑x_1.1:Int);
 let q28:Int:=q23-q27;
 (q27<=y.1/\Sp.aL ((4200:Nat)-(60:Nat)*x_1.1) x_1.2/\(↑(Sp.cJ x_1.2):Int)=q28+q3/\Sp.rgN q23 x_1.1 x_1.2=Sp.rgN q23 y.1.toNat (Sp.fG x))/\Sp.fG x=x_1.2/\q22=q23/\q21=q28/\True)/\
 ∀(x_1:Nat×Sp.Mk),
 let q29:Int:=(↑x_1.1:Int);
 let q30:Int:=q23-q29;
 let q31:Int:=q30+q3;
 let q32:=q24/\aB tI q30/\True;
 let q33:Bool:=decide (q30<q23);
 let q34:=(True/\True)/\(Sp.aL (4500:Nat) x_1.2/\Sp.has x_1.2)/\True;
 let q35:=q30=q30;
 let q36:=q25/\q35/\True;
 let q37:=inK IntKind.i64 q31;
 let q38:Sp.Code×Unit:=(Sp.insM x_1.2).2.2;
 let q39:Sp.Code:=q38.1;
 let q40:Int×Int×Int×Int×List Sp.Arr×List Sp.Opd×List Sp.Block×Unit:=q39.2;
 let q41:Int×Int×Int×List Sp.Arr×List Sp.Opd×List Sp.Block×Unit:=q40.2;
 let q42:Int×Int×List Sp.Arr×List Sp.Opd×List Sp.Block×Unit:=q41.2;
 let q43:Int×List Sp.Arr×List Sp.Opd×List Sp.Block×Unit:=q42.2;
 let q44:List Sp.Arr×List Sp.Opd×List Sp.Block×Unit:=q43.2;
 let q45:List Sp.Opd×List Sp.Block×Unit:=q44.2;
 let q46:List Sp.Block×Unit:=q45.2;
 let q47:List Sp.Block:=q46.1;
 let q48:Int:=(Sp.insM x_1.2).2.1;
 let q49:Int:=q39.1;
 let q50:Int:=q40.1;
 let q51:Int:=q41.1;
 let q52:Int:=q42.1;
 let q53:Int:=q43.1;
 let q54:List Sp.Arr:=q44.1;
 let q55:List Sp.Opd:=q45.1;
 let q56:=q30.toNat;
 let q57:Sp.Block:=q47.getD q56 q9;
 let q58:Sp.Mk:=Sp.rg1 q30 x_1.2;
 let q59:Bool:=(Sp.nxV q58).tmod q12==q6;
 let q60:Int:=q23-q30;
 let q61:=inK IntKind.i64 q60;
 let q62:=True/\q35;
 let q63:=q37/\q31=q31;
 let q64:=q61/\q60=q60;
 let q65:=q62/\q63/\q14/\q26/\q62/\q64/\q62/\q63/\q14/\q26/\q62/\q64/\True;
 let q66:Int:=q48+q3;
 let q67:List Sp.Block:=Sp.qW (Sp.cB q39) q30 (Sp.tJ q3 q31 q6);
 let q68:Sp.Code×Unit:=(Sp.nG q39 q67,());
 let q69:Sp.Mk:=((Sp.insM x_1.2).1,q66,q68);
 let q70:Int:=q66+q3;
 let q71:Sp.Mk:=((Sp.insM x_1.2).1,q70,q68);
 let q72:=q60≠q6;
 let q73:Int:=(Sp.nxV q71).tmod q60;
 let q74:Int:=q31+q73;
 let q75:=inK IntKind.i64 q74;
 let q76:=q72/\q73=q73;
 let q77:=q75/\q74=q74;
 let q78:Int:=q70+q3;
 let q79:Sp.Mk:=((Sp.insM x_1.2).1,q78,q68);
 let q80:Int:=(Sp.nxV q79).tmod q60;
 let q81:Int:=q31+q80;
 let q82:=inK IntKind.i64 q81;
 let q83:=inN q30 q67.length;
 let q84:List aD:=aD.snd::aD.snd::aD.fst::aD.snd::aD.snd::aD.snd::aD.snd::aD.snd::aD.snd::aD.snd::aD.fst::aD.idx q56::([]:List aD);
 let q85:List aD:=aD.snd::aD.snd::aD.fst::aD.snd::aD.snd::aD.snd::aD.snd::aD.snd::aD.snd::aD.snd::aD.fst::aD.idx q56::q15;
 let q86:Sp.Block:=q67.getD q56 q9;
 let q87:Sp.Mk:=Sp.rg2 q30 q23 q58;
 q29<=y.1/\Sp.aL ((4200:Nat)-(60:Nat)*x_1.1) x_1.2/\(↑(Sp.cJ x_1.2):Int)=q31/\Sp.rgN q23 x_1.1 x_1.2=Sp.rgN q23 y.1.toNat (Sp.fG x)->
 aB (tU8.slice.prod (tI.prod ((tI.prod (tI.prod (tI.prod (tI.prod (tI.prod (cC.slice.prod (bC.slice.prod ((aC.slice.prod ((tI.prod (tI.prod (aM.prod (aM.prod (aM.prod ((Ty.arr q0 tI).prod Ty.unit)))))).prod Ty.unit)).slice.prod Ty.unit)))))))).prod Ty.unit))) x_1.2/\q32->
 (q5/\True)/\
 (q33=true->
 (q34/\∃(x:Unit),True/\Sp.insM x_1.2=Sp.insM x_1.2/\q36)/\
 ∀(x_2:Unit),
 True->
 aB (tU8.slice.prod (tI.prod ((tI.prod (tI.prod (tI.prod (tI.prod (tI.prod (cC.slice.prod (bC.slice.prod ((aC.slice.prod ((tI.prod (tI.prod (aM.prod (aM.prod (aM.prod ((Ty.arr q0 tI).prod Ty.unit)))))).prod Ty.unit)).slice.prod Ty.unit)))))))).prod Ty.unit))) (Sp.insM x_1.2)/\q32->
 (((True/\True/\True/\True/\True/\True/\True/\q37/\True/\True/\inN q30 q47.length/\True/\True)/\True/\True)/\∃(x:Unit),True/\((Sp.insM x_1.2).1,q48,(q49,q50,q51,q52,q53,q54,q55,q47.set q56 (q57.1,(q3,q6,q7,q7,q7,(q8.set q10 q31).set q11 q6,()),q57.2.2),q46.2),q38.2)=q58/\q36)/\
 ∀(x_3:Unit),
 True->
 aB (tU8.slice.prod (tI.prod ((tI.prod (tI.prod (tI.prod (tI.prod (tI.prod (cC.slice.prod (bC.slice.prod ((aC.slice.prod ((tI.prod (tI.prod (aM.prod (aM.prod (aM.prod ((Ty.arr q0 tI).prod Ty.unit)))))).prod Ty.unit)).slice.prod Ty.unit)))))))).prod Ty.unit))) q58/\q32->
 (((True/\True)/\Sp.aL q1 q58/\q12≠q6/\True/\True)/\(q59=true->(True/\True/\True/\True/\True/\True/\True/\True/\q37/\True/\True/\True/\q61/\True/\q37/\True/\True/\True/\q61/\True)/\(q14/\q14/\q17/\q19/\q19/\q62/\q14/\q65)/\(Sp.aL q1 q69/\True/\(q14/\q14/\q17/\q19/\q19/\q62/\q65)/\(Sp.aL q1 q71/\(q72/\q75/\True)/\(q14/\q14/\q17/\q19/\q19/\q62/\q62/\q63/\q26/\q62/\q64/\q62/\q63/\q14/\q26/\q62/\q64/\q76/\q77/\True)/\(Sp.aL q1 q79/\(q72/\q82/\True)/\(q14/\q14/\q17/\q19/\q19/\q62/\q62/\q63/\q26/\q62/\q64/\q62/\q63/\q26/\q62/\q64/\q76/\q77/\(q72/\q80=q80)/\(q82/\q81=q81)/\True)/\(True/\True/\(q14/\q14/\q17/\q19/\q19/\q62/\True)/\(True/\(q83/\True/\True)/\(q14/\q14/\q17/\q19/\q19/\q62/\(q83/\q13/\q84=q84)/\(True/\q13/\q85=q85)/\True)/\(True/\True/\True/\∃(x:Unit),True/\((Sp.insM x_1.2).1,q78+q3,(q49,q50,q51,q52,q53,q54,q55,q67.set q56 (q86.1,(q12,q6,q7,Sp.d7 q69,q7,(q8.set q10 q74).set q11 q81,()),q86.2.2),()),())=q87/\q36)/\True)/\True/\True)/\q4)/\q5)/\q20)/\True/\q20)/\(q59=false->∃(x:Unit),True/\q69=q87/\q36))/\
 ∀(x_4:Unit),
 True->
 aB (tU8.slice.prod (tI.prod ((tI.prod (tI.prod (tI.prod (tI.prod (tI.prod (cC.slice.prod (bC.slice.prod ((aC.slice.prod ((tI.prod (tI.prod (aM.prod (aM.prod (aM.prod ((Ty.arr q0 tI).prod Ty.unit)))))).prod Ty.unit)).slice.prod Ty.unit)))))))).prod Ty.unit))) q87/\q32->
 ((True/\True)/\Sp.aL q1 q87/\True)/\
 ((True/\q37/\True/\True)/\True)/\
 ∃(y_1:Nat×Sp.Mk),
 let q88:Int:=(↑y_1.1:Int);
 let q89:Int:=q23-q88;
 (q88<=y.1/\Sp.aL ((4200:Nat)-(60:Nat)*y_1.1) y_1.2/\(↑(Sp.cJ y_1.2):Int)=q89+q3/\Sp.rgN q23 y_1.1 y_1.2=Sp.rgN q23 y.1.toNat (Sp.fG x))/\y_1.1<x_1.1/\Sp.fG q87=y_1.2/\q25/\q31=q89/\True)/\
 (q33=false->q34/\Sp.insM x_1.2=Sp.rgM x y.1/\(([]:List Go.ResultVar)).toArray.toList=([]:List Go.ResultVar)/\Ty.unit=Ty.unit)):=by kernel_rfl
end Go.User
namespace Sp
theorem rC(P:Mk->Prop)(b last:Int)(s:Mk)(h1:P (wT (nxM (nxM (nxM (nxM s)))) b (tB (d7 (nxM s)) (rgV b last (nxM (nxM s))) (rgV b last (nxM (nxM (nxM s)))))))(h2:P (nxM s)):P (rg2 b last s):=by
 unfold rg2
 split
 ·exact h1
 ·exact h2
theorem rg_facts{n:Nat}{s:Mk}(h:aL n s)(hb:∀v∈s.1,0<=v/\v<=255)(b last:Int):
  aL (n+50) (insM s)/\aL (n+50) (rg1 b s)/\aL (n+54) (rg2 b last (rg1 b s))/\aL (n+55) (rgS b last s):=by
 have h1:=h.insM hb
 have h2:=h1.wT b (tJ 1 (b+1) 0)
 have h3:aL (n+54) (rg2 b last (rg1 b s)):=by
  refine rC _ b last _ ?_ ?_
  ·exact(h2.nx.nx.nx.nx).wT _ _
  ·exact h2.nx.mono (by omega)
 exact⟨h1,h2,h3,h3.bl⟩
theorem rg_len(b last:Int)(s:Mk):cJ (rg1 b s)=cJ s/\cJ (rg2 b last (rg1 b s))=cJ s/\cJ (rgS b last s)=cJ s+1:=by
 have h1:cJ (rg1 b s)=cJ s:=(lZ _ _ _).trans (nQ s)
 have h2:cJ (rg2 b last (rg1 b s))=cJ s:=by
  refine rC (fun t=>cJ t=cJ s) b last _ ?_ ?_
  ·exact(lZ _ _ _).trans h1
  ·exact h1
 exact⟨h1,h2,(j4 _).trans (congrArg (· +1) h2)⟩
end Sp
namespace Go.User
open Go.Lf Go.Proofs
set_option maxHeartbeats 4000000 in
set_option maxRecDepth 100000 in
theorem pk41:POk Try.prog 41 S41:=by
 have hC:∀q,aG Try.prog (C41 q):=fun q=>okM' q aS (cG pk43 (cG pk46 dW)) rfl rfl rfl rfl rfl rfl
 refine POk.introT hC (fun q=>xM (hC q) nums_ok) Try.call41 Try.func41 (fun q=>rfl) (by kernel_rfl) T41 ?_
 rw[vc41]
 simp only[zz,zy]
 intro x y hM hx hy
 obtain⟨hM,h0,h2⟩:=hM
 have hb:=eS hx.1
 have hI:∀z:Int, -10<=z->z<=100000->inK .i64 z:=fun z _ _=>aQ (by omega) (by omega)
 have hl:Sp.nB x<=4000:=by have:=hM.blk;show((Sp.cB x.2.2.1).length:Int)<=4000;omega
 have hl0:0<=Sp.nB x:=Int.natCast_nonneg _
 have e0:(((Sp.cB x.2.2.1)++Sp.bE::[]).length:Int)-1=Sp.nB x:=by
  rw[List.length_append];show(((Sp.cB x.2.2.1).length+1:Nat):Int)-1=((Sp.cB x.2.2.1).length:Int);omega
 have hlb:(Sp.cJ (Sp.fG x):Int)=Sp.nB x+1:=by rw[Sp.j4];rfl
 rw[e0]
 obtain⟨yv,u⟩:=y
 have h0:(0:Int)<=yv:=h0
 have h2:yv<=(2:Int):=h2
 dsimp only
 refine⟨hM.mono (by decide),hI _ (by omega) (by omega),hI _ (by omega) (by omega),⟨(yv.toNat,Sp.fG x),⟨by show((yv.toNat:Nat):Int)<=yv;omega,hM.bl.mono (by dsimp only;omega),?_,rfl⟩,rfl,rfl,?_⟩,?_⟩
 ·dsimp only;omega
 ·dsimp only;omega
 intro t
 obtain⟨k,s⟩:=t
 dsimp only
 intro ht hd
 obtain⟨g1,g2,g3,g4⟩:=ht
 have g1:(k:Int)<=yv:=g1
 have hbs:=eS hd.1.1
 obtain⟨m1,m2,m3,m4⟩:=Sp.rg_facts g2 hbs (Sp.nB x+yv-(k:Int)) (Sp.nB x+yv)
 obtain⟨l1,l2,l3⟩:=Sp.rg_len (Sp.nB x+yv-(k:Int)) (Sp.nB x+yv) s
 have hh:Sp.has s:=Sp.kK.2 (by omega)
 refine⟨fun hlt=> ?_,fun hge=> ?_⟩
 ·have hk:0<k:=by omega
  have hin:∀n:Nat,n=Sp.cJ s->inN (Sp.nB x+yv-(k:Int)) n:=fun n hn=>⟨by omega,by omega⟩
  have a1:inK .i64 (Sp.nB x+yv-(k:Int)+1):=hI _ (by omega) (by omega)
  have a2:inK .i64 (Sp.nB x+yv-(Sp.nB x+yv-(k:Int))):=hI _ (by omega) (by omega)
  have a3:¬Sp.nB x+yv-(Sp.nB x+yv-(k:Int))=0:=by omega
  have a4:∀v:Int,0<=v->inK .i64 (Sp.nB x+yv-(k:Int)+1+v.tmod (Sp.nB x+yv-(Sp.nB x+yv-(k:Int)))):=by
   intro v hv;have e:Sp.nB x+yv-(Sp.nB x+yv-(k:Int))=(k:Int):=by omega
   rw[e];have:=Sp.fW hv (k:=(k:Int)) (by omega);exact hI _ (by omega) (by omega)
  refine⟨⟨⟨g2.mono (by omega),hh⟩,(),trivial⟩,fun hq=> ?_⟩
  have hbi:∀v∈(Sp.insM s).1,0<=v/\v<=255:=eS hq.1.1
  have b0:Sp.aL 5000 (Sp.rg1 (Sp.nB x+yv-(k:Int)) s):=m2.mono (by omega)
  have b1:Sp.aL 5000 (Sp.nxM (Sp.rg1 (Sp.nB x+yv-(k:Int)) s)):=m2.nx.mono (by omega)
  have b2:Sp.aL 5000 (Sp.nxM (Sp.nxM (Sp.rg1 (Sp.nB x+yv-(k:Int)) s))):=m2.nx.nx.mono (by omega)
  have b3:Sp.aL 5000 (Sp.nxM (Sp.nxM (Sp.nxM (Sp.rg1 (Sp.nB x+yv-(k:Int)) s)))):=m2.nx.nx.nx.mono (by omega)
  have v2:=(Sp.fB (Sp.nxM (Sp.nxM (Sp.rg1 (Sp.nB x+yv-(k:Int)) s))) hbi).1
  have v3:=(Sp.fB (Sp.nxM (Sp.nxM (Sp.nxM (Sp.rg1 (Sp.nB x+yv-(k:Int)) s)))) hbi).1
  have i1:inN (Sp.nB x+yv-(k:Int)) (Sp.cJ (Sp.rg1 (Sp.nB x+yv-(k:Int)) s)):=hin _ l1
  refine⟨⟨⟨a1,hin _ (Sp.nQ s)⟩,(),rfl⟩,fun _=>⟨⟨⟨b0,by decide⟩,fun c=> ?_,fun c=> ?_⟩,fun _=> ?_⟩⟩
  ·have E:∀A,A=Sp.wT (Sp.nxM (Sp.nxM (Sp.nxM (Sp.nxM (Sp.rg1 (Sp.nB x+yv-(k:Int)) s))))) (Sp.nB x+yv-(k:Int)) (Sp.tB (Sp.d7 (Sp.nxM (Sp.rg1 (Sp.nB x+yv-(k:Int)) s))) (Sp.rgV (Sp.nB x+yv-(k:Int)) (Sp.nB x+yv) (Sp.nxM (Sp.nxM (Sp.rg1 (Sp.nB x+yv-(k:Int)) s)))) (Sp.rgV (Sp.nB x+yv-(k:Int)) (Sp.nB x+yv) (Sp.nxM (Sp.nxM (Sp.nxM (Sp.rg1 (Sp.nB x+yv-(k:Int)) s))))))->A=Sp.rg2 (Sp.nB x+yv-(k:Int)) (Sp.nB x+yv) (Sp.rg1 (Sp.nB x+yv-(k:Int)) s):=by
    rintro A rfl
    unfold Sp.rg2;rw[if_pos c]
   refine⟨⟨a1,a2,a1,a2⟩,⟨a1,a2,a1,a2⟩,b1,⟨a1,a2,a1,a2⟩,b2,⟨a3,a4 _ v2⟩,⟨a1,a2,a1,a2,a3,a4 _ v2⟩,b3,⟨a3,a4 _ v3⟩,⟨a1,a2,a1,a2,a3,a4 _ v2,a3,a4 _ v3⟩,i1,i1,(),E _ rfl⟩
  ·refine⟨(),?_⟩
   show _=Sp.rg2 _ _ _
   unfold Sp.rg2;rw[if_neg c]
   rfl
  ·refine⟨m3.mono (by omega),a1,(k-1,Sp.rgS (Sp.nB x+yv-(k:Int)) (Sp.nB x+yv) s),⟨by show((k-1:Nat):Int)<=yv;omega,m4.mono (by dsimp only;omega),?_,?_⟩,by dsimp only;omega,rfl,by dsimp only;omega⟩
   ·dsimp only;omega
   ·rw[<-g4]
    obtain⟨j,rfl⟩:∃j,k=j+1:=⟨k-1,by omega⟩
    rfl
 ·refine⟨⟨g2.mono (by omega),hh⟩,?_⟩
  have hk:k=0:=by omega
  subst hk;show Sp.insM s=Sp.insM _;rw[<-g4]
  rfl
end Go.User
namespace Go.User
open Go Go.Proofs Go.RowKit Go.Lib Go.Lf
def N39o:mU:={τ:=tMk,m:=mMk,T:=3,p:=[.snd,.fst],res:=tI,pre:=fun s=>0<=s.2.1/\s.2.1<=5000,num:=fun s=>s.2.1+1,out:=fun s=>Sp.nxV s}
theorem nk39o:NOk Try.prog 39 N39o:=by
 refine⟨Try.call39,?_⟩
 intro w F S0 b off cs x hb hF hS0 hp hown hpre hloc
 obtain⟨hoff,nF,hlim,ao,cap,row,T,hrow,r0,r1,hel⟩:=qB hp hown hloc
 subst hoff
 have hbs:=eS (hown.fact).1
 have h0:0<=x.2.1:=hpre.1
 have h1:x.2.1<=5000:=hpre.2
 obtain⟨L,at0,C,u⟩:=x
 have hk:∀z:Int,0<=z->z<=5000->inK .i64 (z+1):=fun z _ _=>aQ (by omega) (by omega)
 refine⟨hk at0 h0 h1,(uK w F b cap ao row T L at0 h0 h1 hlim nF hrow r0 r1 hbs hel C).mono ?_⟩
 rintro e w' ⟨rfl,k,rfl⟩
 refine⟨_,_,kW hrow r1,⟨rfl,rfl,rfl,Nat.le_refl _,fun _ _=>rfl⟩,rfl,[_],rfl,rfl,?_⟩
 have:=Sp.fB (L,at0,C,()) hbs
 have b1:(-9223372036854775808:Int)<=Sp.nxV (L,at0,C,()):=by omega
 have b2:Sp.nxV (L,at0,C,())<=9223372036854775807:=by omega
 exact⟨b1,b2⟩
def numsO:List (FuncId×mU):=[(39,N39o),(44,N44),(45,N45)]
theorem numsO_ok:∀f s,Lf.look numsO f=some s->NOk Try.prog f s:=by
 intro f s hs
 unfold numsO at hs
 simp only[Lf.look]at hs
 cases h1:Nat.beq 39 f
 ·rw[h1]at hs
  simp only[cond_false]at hs;cases h2:Nat.beq 44 f
  ·rw[h2]at hs
   simp only[cond_false]at hs;cases h3:Nat.beq 45 f
   ·rw[h3]at hs;cases hs
   ·rw[h3]at hs
    have:=Nat.eq_of_beq_eq_true h3
    simp only[cond_true,Option.some.injEq]at hs;rw[<-this,<-hs];exact nk45
  ·rw[h2]at hs
   have:=Nat.eq_of_beq_eq_true h2
   simp only[cond_true,Option.some.injEq]at hs;rw[<-this,<-hs];exact nk44
 ·rw[h1]at hs
  have:=Nat.eq_of_beq_eq_true h1
  simp only[cond_true,Option.some.injEq]at hs;rw[<-this,<-hs];exact nk39o
end Go.User
namespace Sp
def sL:Code:=(0,0,0,0,0,[],[],[],())
def md0(L:List Int):Mk:=(L,0,sL,())
def md1(L:List Int):Mk:=(L,1,([4,1,2,8,6].getD (Int.tmod (nxV (md0 L)) 5).toNat 0,1,6,0,3,mX,[],[],()),())
def gG(s:Mk):Int:=s.2.2.1.1
def gS(s:Mk):Int:=s.2.2.1.2.1
def wS(s:Mk)(n:Int):Mk:=(s.1,s.2.1,(s.2.2.1.1,n,s.2.2.1.2.2),())
def sbN:Nat->Mk->Mk
 |0,s=>s
 |k+1,s=>if Int.tmod (gG s) (2*gS s)=0 then sbN k (wS s (2*gS s))else s
def md2(L:List Int):Mk:=sbN (Int.tmod (nxV (md1 L)) 3).toNat (nxM (md1 L))
def q1(s:Mk):Mk:=rgM (nxM s) (Int.tmod (nxV s) 3)
def q2(s:Mk):Mk:=if Int.tmod (nxV s) 3=0 then fG (lpM (nxM s))else nxM s
def q3(s:Mk):Mk:=wT s (nB s-1) (tJ 3 (nB s-1+1) 0)
def tC(s:Mk)(b:Int):Term:=(4,1+Int.tmod (nxV s) 6,d7 (nxM s),eL (nxM (nxM s)),eL (nxM (nxM (nxM s))),[b+1,0],())
def q4(b:Int)(s:Mk):Mk:=if Int.tmod (nxV s) 3=0 then wT (nxM (nxM (nxM (nxM (nxM s))))) b (tC (nxM s) b)else nxM s
def mdS(s:Mk):Mk:=q4 (nB (q2 (q1 s))-1) (q3 (q2 (q1 s)))
def mdN:Nat->Mk->Mk
 |0,s=>s
 |k+1,s=>mdN k (mdS s)
def md3(L:List Int):Mk:=mdN (Int.tmod (nxV (md2 L)) 3).toNat (nxM (md2 L))
def q5(s:Mk):Mk:=if Int.tmod (nxV s) 3=0 then insM (fG (lpM (nxM s)))else nxM s
def md4(L:List Int):Mk:=q5 (q1 (md3 L))
def md5(L:List Int):Mk:=wT (md4 L) (nB (md4 L)-1) (tJ 5 0 0)
def dX(L:List Int):Code:=(md5 L).2.2.1
end Sp
namespace Go.User
open Go.Lf
def S23:bD:={args:=[.val (.prod (.slice (.int .u8)) .unit)],multi:=false,res:=bF,mode:= .shr,pre:=fun _=>True,fn:=fun x=>Sp.dX x.1.1}
def C23:Ctx:={mkC 153 [(40,S40)]with ptrs:=[(41,S41),(42,S42),(43,S43),(44,S44),(45,S45),(46,S46)],fzs:=[10],mds:=[(2,.shr),(9,.pair (.shr) (.pair .shr (.pair mCode .shr))),(10,mMk),(19,mCode)]}
def nY(s:Sp.Mk)(o:List (Nat×Ent)):aW:={ι:=Unit,inv:=fun _=>True,dec:=fun _=>0,ovr:=fun _=>(2,.box bF .shr Sp.sL)::(3,.addr 10 [])::(10,.box tMk mMk s)::o,keep:=[]}
def T23(x:aH S23.args):KT:=
 let L:=x.1.1
 .s (.i []) (.s (.i []) (.c (nY (Sp.md1 L) []) (.i []) (fun _=>
  .c (nY (Sp.md2 L) []) (.s (.i []) (.b (.l
   {ι:=Nat×Sp.Mk,inv:=fun t=>t.1<=2/\Sp.aL 2 t.2/\1<=Sp.gS t.2/\Sp.gS t.2<=4/\(1<=t.1->Sp.gS t.2<=2)/\(2<=t.1->Sp.gS t.2<=1)/\Sp.sbN t.1 t.2=Sp.md2 L,dec:=fun t=>t.1,ovr:=fun t=>[(2,.box bF .shr Sp.sL),(3,.addr 10 []),(10,.box tMk mMk t.2),(4,.shr tI (t.1:Int))],keep:=[]}
   (fun t=> .i [])))) (fun _=>
  .c (nY (Sp.md3 L) []) (.s (.i []) (.b (.l
   {ι:=Nat×Sp.Mk,inv:=fun t=>t.1<=2/\Sp.aL (700-310*t.1) t.2/\Sp.mdN t.1 t.2=Sp.md3 L,dec:=fun t=>t.1,ovr:=fun t=>[(2,.box bF .shr Sp.sL),(3,.addr 10 []),(10,.box tMk mMk t.2),(5,.shr tI (t.1:Int))],keep:=[]}
   (fun t=>
    let b:Int:=Sp.nB (Sp.q2 (Sp.q1 t.2))-1
    let i:Nat×Ent:=(5,.shr tI (t.1:Int))
    let o:List (Nat×Ent):=[i,(6,.shr tI b)]
    .s (.i []) (.c (nY (Sp.mdS t.2) [i]) (.b (.c (nY (Sp.q1 t.2) [i]) (.i []) (fun _=> .c (nY (Sp.q2 (Sp.q1 t.2)) [i]) (.i []) (fun _=> .c (nY (Sp.q2 (Sp.q1 t.2)) o) (.i []) (fun _=> .c (nY (Sp.q3 (Sp.q2 (Sp.q1 t.2))) o) (.i []) (fun _=> .i [])))))) (fun _=> .i [])))))) (fun _=>
  .c (nY (Sp.q1 (Sp.md3 L)) []) (.i []) (fun _=> .c (nY (Sp.md4 L) []) (.i []) (fun _=> .c (nY (Sp.md5 L) []) (.i []) (fun _=> .z 10 []))))))))
end Go.User
