/- Written by gen.py: what is left to show of each function. The law MatchesReference. The law Loads. The law Swaps. The law OrderSwaps. -/
import Derived.Test.YtdcbiadlojcaoaaLfn
set_option linter.unusedVariables false
set_option linter.unusedSimpArgs false
namespace Go.User
open Go.Proofs Go.Lf
set_option maxRecDepth 100000
theorem vc4 : (funI C4 (stpS C4) S4 L4 Try.f4) = (
let q0 : Nat := (2 : Nat);
let q1 : Prop := True /\ True /\ True;
let q2 : Prop := True /\ q1;
let q3 : Prop := q1 /\ True;
let q4 : Prop := (True /\ True) /\ True;
let q5 : Prop := True /\ q2;
let q6 : Int := (0 : Int);
let q7 : Nat := q6.toNat;
let q8 : Sp.Opd := (q6, q6, q6, ());
let q9 : Sp.Block := (([] : List tInst.den), (q6, q6, q8, q8, q8, List.replicate q0 q6, ()), ());
let q10 : Int := (2 : Int);
let q11 : Int := (1 : Int);
let q12 : Nat := q11.toNat;
let q13 : List (List Int) := ([] : List tI.slice.den);
let q14 : Prop := true = true;
let q15 : Sp.Inst := (q6, q6, q6, q8, q8, q8, q8, ());
let q16 : List Step := Step.fst :: ([] : List Step);
let q17 : Nat := (5000 : Nat);
let q18 : Int := (7 : Int);
let q19 : Int := (8 : Int);
let q20 : Int := (9 : Int);
let q21 : Prop := (true && true) = true;
let q22 : Prop := q21 -> True;
let q23 : Nat := (3000 : Nat);
∀ (x : (List Int × Unit) × Bool × List Int × Unit),
 let q24 : Sp.Code := Sp.mkC' x.1.1 x.2.1;
 let q25 : Int × Int × Int × Int × List Sp.Arr × List Sp.Opd × List Sp.Block × Unit := q24.2;
 let q26 : Int × Int × Int × List Sp.Arr × List Sp.Opd × List Sp.Block × Unit := q25.2;
 let q27 : Int × Int × List Sp.Arr × List Sp.Opd × List Sp.Block × Unit := q26.2;
 let q28 : Int × List Sp.Arr × List Sp.Opd × List Sp.Block × Unit := q27.2;
 let q29 : List Sp.Arr × List Sp.Opd × List Sp.Block × Unit := q28.2;
 let q30 : List Sp.Opd × List Sp.Block × Unit := q29.2;
 let q31 : List Sp.Block × Unit := q30.2;
 let q32 : List Sp.Block := q31.1;
 let q33 : Nat := q32.length;
 let q34 : Int := (↑q33 : Int);
 let q35 : Int := Int.tmod (x.2.2.1.getD q7 q6) q34;
 let q36 : Prop := inN q35 q33;
 let q37 : Nat := q35.toNat;
 let q38 : Sp.Block := q32.getD q37 q9;
 let q39 : List Sp.Inst := q38.1;
 let q40 : Nat := q39.length;
 let q41 : Int := (↑q40 : Int);
 let q42 : Bool := decide (q41 < q10);
 let q43 : Int := q41 - q11;
 let q44 : Int := Int.tmod (x.2.2.1.getD q12 q6) q43;
 let q45 : Prop := inN q44 q40;
 let q46 : Int := q44 + q11;
 let q47 : Prop := inK IntKind.i64 q46;
 let q48 : List Sp.Block := Sp.cB q24;
 let q49 : Nat := q48.length;
 let q50 : Prop := q24 = q24;
 let q51 : Prop := q35 = q35;
 let q52 : Prop := q41 = q41;
 let q53 : Prop := q44 = q44;
 let q54 : Nat := q44.toNat;
 let q55 : Sp.Inst := q39.getD q54 q15;
 let q56 : Prop := q55 = q55;
 let q57 : Nat := q46.toNat;
 let q58 : Sp.Inst := q39.getD q57 q15;
 let q59 : Prop := q58 = q58;
 let q60 : Prop := q14 /\ q50 /\ q51 /\ q52 /\ q53 /\ q56 /\ q59 /\ True;
 let q61 : Nat := (Sp.cA q24).length;
 let q62 : Nat := (Sp.cL q24).length;
 let q63 : List Sp.Block := q32.set q37 (q39.set q54 q58, q38.2);
 let q64 : Sp.Block := q63.getD q37 q9;
 let q65 : List Sp.Inst := q64.1;
 let q66 : Int := Sp.opI q55;
 let q67 : Int := Sp.nI q55;
 let q68 : Int := (↑q61 : Int);
 let q69 : Prop := q66 = q18 ∨ q66 = q19 ∨ q66 = q20 -> q6 <= q67 /\ q67 < q68;
 let q70 : Int := Sp.opI q58;
 let q71 : Int := Sp.nI q58;
 let q72 : Prop := q70 = q18 ∨ q70 = q19 ∨ q70 = q20 -> q6 <= q71 /\ q71 < q68;
 let q73 : Bool := q55.2.2.2.1.1 == q10;
 let q74 : Prop := (true && bif q73 then false else true) = true -> True;
 let q75 : Int := q55.1;
 let q76 : Bool := bif q73 then true else q75 == q19;
 let q77 : Prop := (true && bif q76 then false else true) = true -> True;
 let q78 : Bool := bif q76 then true else q75 == q20;
 let q79 : Prop := (true && bif q78 then false else true) = true -> True;
 let q80 : Bool := bif q78 then true else q75 == (10 : Int);
 let q81 : Prop := (true && bif q80 then false else true) = true -> True;
 let q82 : Bool := Sp.depP q24 q55 q58;
 let q83 : Bool := q82 == Sp.depP q24 q58 q55;
 let q84 : Prop := (true && bif q83 then true else false) = true;
 let q85 : Prop := q84 -> True;
 True ->
 dFact (tU8.slice.prod Ty.unit) x.1 /\ dFact Ty.bool x.2.1 /\ dFact (Ty.arr q0 tU8) x.2.2.1 /\ True ->
 (q2 /\ True) /\
 q3 /\
 q3 /\
 ((!true) = true -> q4 /\ false = true) /\
 ((!true) = false ->
 (q5 /\ True /\ True) /\
 ((inN q6 q0 /\ True /\ True /\ True /\ True /\ True /\ q34 ≠ q6 /\ True /\ True) /\ True) /\
 ((True /\ True /\ True /\ q36 /\ q5) /\ True) /\
 q3 /\
 (q42 = true -> q3 /\ true = true) /\
 (q42 = false ->
 ((inN q11 q0 /\ True /\ True /\ True /\ inK IntKind.i64 q43 /\ q43 ≠ q6 /\ True /\ True) /\ True) /\
 ((True /\ True /\ True /\ q36 /\ True /\ True /\ True /\ q45 /\ q1) /\ True /\ True) /\
 ((True /\ True /\ True /\ q36 /\ True /\ True /\ True /\ q47 /\ inN q46 q40 /\ q1) /\ True /\ True) /\
 (q1 /\ True /\ True) /\
 q4 /\
 (∃ (x : Nat), x <= q49 /\ (q13, ()) = (Sp.idX q24 x, ()) /\ q6 = (↑x : Int) /\ q60) /\
 ∀ (x : Nat),
 let q86 : Sp.Ord := (Sp.idX q24 x, ());
 let q87 : Bool := decide ((↑x : Int) < q34);
 let q88 : Nat := (Sp.blkAt q24 x).1.length;
 let q89 : Prop := q14 /\ q50 /\ q51 /\ q52 /\ q53 /\ q56 /\ q59 /\ q86 = q86 /\ (↑x : Int) = (↑x : Int) /\ True;
 let q90 : Nat := (Sp.idX q24 x).length;
 let q91 : Int := (↑x : Int) + q11;
 let q92 : List Int := (Sp.idX q24 x).getD q37 (([] : List tI.den));
 let q93 : List (List Int) := (Sp.idX q24 x).set q37 (q92.set q54 q46);
 let q94 : List Int := q93.getD q37 (([] : List tI.den));
 let q95 : Bool := bif q83 then (Sp.chkP q24 (q24.1, q25.1, q26.1, q27.1, q28.1, q29.1, q30.1, q63.set q37 (q65.set q57 q55, q64.2), q31.2) (q93.set q37 (q94.set q57 q44)) == q6) == !q82 else false;
 let q96 : Prop := (true && bif q95 then true else false) = true;
 let q97 : Prop := q96 -> True;
 x <= q49 ->
 dFact tOrd q86 /\ dFact tI (↑x : Int) /\ True ->
 ((True /\ q5) /\ True) /\
 (q87 = true ->
 ((True /\ True) /\ True /\ True) /\
 q4 /\
 (∃ (x : Nat), x <= q88 /\ ([] : List tI.den) = Sp.idL x /\ q6 = (↑x : Int) /\ q89) /\
 ∀ (x_1 : Nat),
 let q98 : Bool := decide ((↑x_1 : Int) < (↑(List.length (q32.getD (↑x : Int).toNat q9).1) : Int));
 let q99 : List Int := (↑x_1 : Int) :: ([] : List tI.den);
 let q100 : Int := (↑x_1 : Int) + q11;
 let q101 : List (List Int) := Sp.idL x_1 :: q13;
 x_1 <= q88 -> dFact tI.slice (Sp.idL x_1) /\ dFact tI (↑x_1 : Int) /\ True -> ((True /\ True /\ True /\ True /\ inN (↑x : Int) q33 /\ q5) /\ True) /\ (q98 = true -> (q2 /\ (↑((Sp.idL x_1).length + q99.length) : Int) <= maxNew /\ True /\ True) /\ ((True /\ inK IntKind.i64 q100 /\ True /\ True) /\ True) /\ ∃ (y : Nat), y <= q88 /\ q88 - y < q88 - x_1 /\ Sp.idL x_1 ++ q99 = Sp.idL y /\ q100 = (↑y : Int) /\ q89) /\ (q98 = false -> (q5 /\ (↑(q90 + q101.length) : Int) <= maxNew /\ True /\ q16 = q16 /\ True) /\ ((True /\ inK IntKind.i64 q91 /\ True /\ True) /\ True) /\ ∃ (y : Nat), y <= q49 /\ q49 - y < q49 - x /\ (Sp.idX q24 x ++ q101, ()) = (Sp.idX q24 y, ()) /\ q91 = (↑y : Int) /\ q60)) /\
 (q87 = false -> ((True /\ True /\ True /\ inN q35 q90 /\ True /\ True /\ True /\ q47 /\ inN q44 q92.length /\ True) /\ True /\ True) /\ ((True /\ True /\ True /\ inN q35 q93.length /\ True /\ True /\ q47 /\ True /\ inN q46 q94.length /\ True) /\ True /\ True) /\ ((True /\ (q61 <= q17 /\ q62 <= q17 /\ q49 <= q17 /\ ∀ (b : Sp.Block), b ∈ q48 -> b.1.length <= q17) /\ True /\ True) /\ True /\ True) /\ ((True /\ True /\ True /\ q36 /\ True /\ True /\ True /\ True /\ q45 /\ True) /\ True /\ True) /\ ((True /\ True /\ True /\ inN q35 q63.length /\ True /\ True /\ True /\ q47 /\ True /\ inN q46 q65.length /\ True) /\ True /\ True) /\ ((True /\ True /\ True /\ (q69 /\ q72) /\ True /\ True) /\ True) /\ ((True /\ True /\ True /\ True /\ True /\ q74 /\ q74 /\ q74 /\ True /\ True /\ q77 /\ q77 /\ q77 /\ True /\ True /\ q79 /\ q79 /\ q79 /\ True /\ True /\ q81 /\ q81 /\ q81 /\ q1) /\ True) /\ ((True /\ True /\ q22 /\ q22 /\ q22 /\ q22 /\ (q21 -> q72 /\ q69) /\ q22 /\ True /\ True /\ q85 /\ q85 /\ q85 /\ (q84 -> (q61 <= q23 /\ q62 <= q23 /\ q49 <= q23 /\ ∀ (b : Sp.Block), b ∈ q48 -> b.1.length <= q23) /\ ∀ (b : Sp.Block), b ∈ q48 -> ∀ (i : Sp.Inst), i ∈ b.1 -> Sp.opI i = q18 ∨ Sp.opI i = q19 ∨ Sp.opI i = q20 -> q6 <= Sp.nI i /\ Sp.nI i < q68) /\ q85 /\ q85 /\ q85 /\ q85 /\ True /\ True /\ q97 /\ q97 /\ q97 /\ (q96 -> q69 /\ q69) /\ q97 /\ q97 /\ q1) /\ True) /\ (bif q95 then Sp.depP q24 q55 q55 == bif q80 then true else q75 == (12 : Int) else false) = true)))) := by kernel_rfl
end Go.User
namespace Sp
theorem blk_len {c : Code} (h : wC c) (b : Nat) : (blkAt c b).1.length <= 2400 := by
 rcases Nat.lt_or_ge b (cB c).length with g | g
 ·exact h.bd.2.2 _ (blkAt_mem g)
 ·have e2 : blkAt c b = blk0 := by
   unfold blkAt;rw [List.getD_eq_getElem?_getD, List.getElem?_eq_none g]; rfl
  rw [e2]; exact Nat.zero_le _
end Sp
namespace Go.User
open Go.Lf Go.Proofs
theorem wC_mk (L : List Int) (s : Bool) (hb : Sp.Byt (Sp.md0 L)) : Sp.wC (Sp.mkC' L s) := by
 cases s
 ·exact wC_made L hb
 ·exact wC_slo L hb
theorem _root_.Sp.wC.inst {c : Sp.Code} (h : Sp.wC c) {b : Nat} (hb : b < (Sp.cB c).length) {n : Nat} (hn : n < (Sp.blkAt c b).1.length) : instOK c (Sp.insAt (Sp.blkAt c b).1 n) := h.v.2 _ (Sp.blkAt_mem hb) _ (Sp.insAt_mem hn)
end Go.User
namespace Go.User
open Go.Lf Go.Proofs
end Go.User
namespace Go.User
open Go.Lf Go.Proofs
theorem byte_at {l : List Int} (h : ∀ v ∈ l, 0 <= v /\ v <= 255) (i : Nat) : 0 <= l.getD i 0 /\ l.getD i 0 <= 255 := by
 rw [List.getD_eq_getElem?_getD]
 rcases Nat.lt_or_ge i l.length with g | g
 ·rw [List.getElem?_eq_getElem g]; exact h _ (List.getElem_mem g)
 ·rw [List.getElem?_eq_none g]; exact ⟨Int.le_refl _, by decide⟩
theorem codeOK5 {c : Sp.Code} (h : Sp.wC c) : codeOK 5000 c := h.v.1.mono (by omega)
set_option maxHeartbeats 4000000 in
theorem ok4 : FOk Try.prog 4 S4 := by
 have hC : CtxOK Try.prog C4 := okC (fns_cons ok8 (fns_cons ok9 (fns_cons ok14' (fns_cons ok20 (fns_cons (ok18 ok65) fns_nil))))) rfl rfl rfl rfl rfl rfl rfl
 refine FOk.intro hC (stpS_ok hC) Try.call4 Try.func4 (by kernel_rfl) (by kernel_rfl) L4 ?_
 rw [vc4]
 simp only [zz, zy]
 rintro ⟨L, s, z, u⟩ hd
 obtain ⟨L, u2⟩ := L
 have hb : Sp.Byt (Sp.md0 L) := bytes_of hd.1.1
 have hz : ∀ v ∈ (z : List Int), 0 <= v /\ v <= 255 := fun v hv => ⟨(hd.2.2.2 v hv).1, (hd.2.2.2 v hv).2⟩
 have hw := wC_mk L s hb
 dsimp only
 clear hd hb
 generalize Sp.mkC' L s = c at *
 have hv := hw.v
 have hv5 := codeOK5 hw
 have hcB : c.2.2.2.2.2.2.2.1 = Sp.cB c := rfl
 have hb0 : (([], (0, 0, (0, 0, 0, ()), (0, 0, 0, ()), (0, 0, 0, ()), List.replicate 2 0, ()), ()) : Sp.Block) = Sp.blk0 := rfl
 have hi0 : ((0, 0, 0, (0, 0, 0, ()), (0, 0, 0, ()), (0, 0, 0, ()), (0, 0, 0, ()), ()) : Sp.Inst) = Sp.inst0 := rfl
 have hgd : ∀ (c : Sp.Code) b, (Sp.cB c).getD b Sp.blk0 = Sp.blkAt c b := fun _ _ => rfl
 have hgi : ∀ (l : List Sp.Inst) n, l.getD n Sp.inst0 = Sp.insAt l n := fun _ _ => rfl
 rw [hcB, hb0, hi0]
 simp only [hgd, hgi, Int.toNat_natCast, show Int.toNat 0 = 0 from rfl, show Int.toNat 1 = 1 from rfl]
 have hne := hw.ne
 have hB : (Sp.cB c).length <= 800 := hw.bd.1
 have z0 := byte_at hz 0
 have z1 := byte_at hz 1
 generalize z.getD 0 0 = Z0 at *
 generalize z.getD 1 0 = Z1 at *
 have hb1 := Sp.tmod_bd z0.1 (k := ((Sp.cB c).length : Int)) (by omega)
 generalize Int.tmod Z0 ((Sp.cB c).length : Int) = B at *
 obtain ⟨b, rfl⟩ := Int.eq_ofNat_of_zero_le hb1.1
 rw [Int.toNat_natCast]
 have hbl : b < (Sp.cB c).length := by omega
 have hl3 := Sp.blk_len hw b
 have inB : inN (b : Int) (Sp.cB c).length := ⟨hb1.1, hb1.2⟩
 refine ⟨⟨⟨by omega, by omega⟩, by omega⟩, inB, fun h2 => ?_⟩
 have h2 : (2 : Int) <= ((Sp.blkAt c b).1.length : Int) := h2
 have hk1 := Sp.tmod_bd z1.1 (k := ((Sp.blkAt c b).1.length : Int) - 1) (by omega)
 generalize Int.tmod Z1 (((Sp.blkAt c b).1.length : Int) - 1) = K at *
 obtain ⟨k, rfl⟩ := Int.eq_ofNat_of_zero_le hk1.1
 have hk : k + 1 < (Sp.blkAt c b).1.length := by omega
 have ek : ((k : Int) + 1).toNat = k + 1 := by omega
 rw [Int.toNat_natCast, ek]
 have inK1 : inK .i64 ((k : Int) + 1) := inK_mid (by omega) (by omega)
 have inL : inN (k : Int) (Sp.blkAt c b).1.length := ⟨by omega, by omega⟩
 have inL1 : inN ((k : Int) + 1) (Sp.blkAt c b).1.length := ⟨by omega, by omega⟩
 refine ⟨⟨⟨by omega, by omega⟩, inK_mid (by omega) (by omega), by omega⟩, ⟨inB, inL⟩, ⟨inB, inK1, inL1⟩, ⟨0, Nat.zero_le _, by rfl, by rfl⟩, ?_⟩
 intro m hm _
 have hm : m <= (Sp.cB c).length := hm
 refine ⟨fun hlt => ?_, fun hge => ?_⟩
 ·have hlt : (m : Int) < ((Sp.cB c).length : Int) := hlt
  have hml : m < (Sp.cB c).length := by omega
  have hl4 := Sp.blk_len hw m
  refine ⟨⟨0, Nat.zero_le _, by rfl, by rfl⟩, ?_⟩
  intro p hp _;have hp : p <= (Sp.blkAt c m).1.length := hp;refine ⟨inN_of hlt, fun hpl => ?_, fun hpg => ?_⟩
  ·have hpl : (p : Int) < ((Sp.blkAt c m).1.length : Int) := hpl
   refine ⟨maxN (by rw [Sp.idL_len]; omega), inK_mid (by omega) (by omega), p + 1, ?_, ?_, ?_, by rfl⟩
   ·show p + 1 <= (Sp.blkAt c m).1.length; omega
   ·show (Sp.blkAt c m).1.length - (p + 1) < (Sp.blkAt c m).1.length - p; omega
   ·exact (Sp.idL_succ p).symm
  ·have hpg : ((Sp.blkAt c m).1.length : Int) <= (p : Int) := hpg
   have hpe : p = (Sp.blkAt c m).1.length := by omega
   refine ⟨maxN (by rw [Sp.idX_len]; omega), inK_mid (by omega) (by omega), m + 1, ?_, ?_, ?_, by rfl⟩
   ·show m + 1 <= (Sp.cB c).length; omega
   ·show (Sp.cB c).length - (m + 1) < (Sp.cB c).length - m; omega
   ·rw [Sp.idX_succ, <- hpe]
 ·have hge : ((Sp.cB c).length : Int) <= (m : Int) := hge
  have hme : m = (Sp.cB c).length := by omega
  subst hme;have eY : (Sp.idX c (Sp.cB c).length).getD b [] = Sp.idL (Sp.blkAt c b).1.length := Sp.idX_at c hbl;have eX : ∀ v : List Int, ((Sp.idX c (Sp.cB c).length).set b v).getD b [] = v := fun v => by rw [Sp.getD_set _ _ _ _ _ (by rw [Sp.idX_len]; exact hbl), if_pos rfl]
  have eB : ∀ v : Sp.Block, ((Sp.cB c).set b v).getD b Sp.blk0 = v := fun v => by rw [Sp.getD_set _ _ _ _ _ hbl, if_pos rfl]
  rw [eY, eX, Sp.set_set', eB, Sp.set_set'];have eS : (Sp.idX c (Sp.cB c).length).set b (((Sp.idL (Sp.blkAt c b).1.length).set k ((k : Int) + 1)).set (k + 1) (k : Int)) = Sp.swX c b k := rfl;have eD : ((c.1, c.2.1, c.2.2.1, c.2.2.2.1, c.2.2.2.2.1, c.2.2.2.2.2.1, c.2.2.2.2.2.2.1, (Sp.cB c).set b (((Sp.blkAt c b).1.set k (Sp.insAt (Sp.blkAt c b).1 (k + 1))).set (k + 1) (Sp.insAt (Sp.blkAt c b).1 k), (Sp.blkAt c b).2), c.2.2.2.2.2.2.2.2) : Sp.Code) = Sp.swC c b k := rfl;rw [eS]
  dsimp only
  rw [eD];have hchk := Sp.sw_chk hw hbl hk;have hsym := Sp.depP_symm hw.arr (hw.ins _ (Sp.blkAt_mem hbl) _ (Sp.insAt_mem (l := (Sp.blkAt c b).1) (n := k) (by omega))) (hw.ins _ (Sp.blkAt_mem hbl) _ (Sp.insAt_mem (l := (Sp.blkAt c b).1) (n := k + 1) hk));have hself := Sp.dep_self hw.arr (hw.ins _ (Sp.blkAt_mem hbl) _ (Sp.insAt_mem (l := (Sp.blkAt c b).1) (n := k) (by omega)));have oi := hw.inst hbl (n := k) (by omega);have oj := hw.inst hbl (n := k + 1) hk;have inX : inN (b : Int) (Sp.idX c (Sp.cB c).length).length := by rw [Sp.idX_len]; exact inB
  have inX2 : ∀ v : List Int, inN (b : Int) ((Sp.idX c (Sp.cB c).length).set b v).length := fun v => by rw [List.length_set]; exact inX
  have inB2 : ∀ v : Sp.Block, inN (b : Int) ((Sp.cB c).set b v).length := fun v => by rw [List.length_set]; exact inB
  have iY : inN (k : Int) (Sp.idL (Sp.blkAt c b).1.length).length := by rw [Sp.idL_len]; exact inL
  have iY1 : ∀ v : Int, inN ((k : Int) + 1) ((Sp.idL (Sp.blkAt c b).1.length).set k v).length := fun v => by rw [List.length_set, Sp.idL_len]; exact inL1
  have iL1 : ∀ v : Sp.Inst, inN ((k : Int) + 1) ((Sp.blkAt c b).1.set k v).length := fun v => by rw [List.length_set]; exact inL1
  refine ⟨⟨inX, inK1, iY⟩, ⟨inX2 _, inK1, iY1 _⟩, hv5, ⟨inB, inL⟩, ⟨inB2 _, inK1, iL1 _⟩, ⟨oi, oj⟩, ⟨⟨oj, oi⟩, fun _ => hv, fun _ => oi⟩, ?_⟩
  exact ⟨⟨hsym, hchk⟩, hself⟩
end Go.User
namespace Go.Proofs.Ytdcbiadlojcaoaa
open Go.ChangeShapes Go.WideShapes Go.ChangeAt Go.RowKit Go.Proofs Go.Lf

set_option maxRecDepth 100000 in
theorem orderSwaps_lifted (hF : FOk Try.prog 4 Go.User.S4) (os : Os) (started : os.Started) (H : Type) (enc : TypeId × Value -> H) :
  ReturnsInHanded {} Try.checked os 4 .any (Rows.orderSwapsSpec.pre6 enc Try.prog Try.f4 Rows.orderSwapsRow.domain false) (Rows.orderSwapsSpec.post enc Try.prog Try.f4 false true false false) := by
 refine returnsInHanded_of_change_sized (C := Try.checked) Try.own started (by kernel_rfl) Try.func4
  (ChangeSpec.witness6 (enc := enc) (C := Try.checked) false ⟨#[], #[.agg #[.slice none 0 0], .bool false, .agg #[.int .u8 0, .int .u8 0]], []⟩ 8 (by kernel_rfl) (by kernel_rfl) (by kernel_rfl) (by kernel_rfl)) ?_
 intro W base args ds gs before hval0 hW _ hsz0 _
 have hsz : (DataW.weightsEach Try.prog (Try.f4.params.toList ++ Rows.orderSwapsSpec.plain.varTypes Try.prog) (ds ++ gs)).all (· <= reachBytes) = true := hsz0
 clear hsz0
 have hval : ∀ (j : Nat) t v, Try.f4.params[j]? = some t -> args[j]? = some v -> Value.okWide Try.prog W .any base t v := hval0
 have hW' := hW
 obtain ⟨p, q, hA0, hV, rfl, _, _⟩ := hW
 have hA : DataW.TrodAll enc Try.prog W 0 (fun _ => true) true Try.f4.params.toList args.toList ds p := hA0
 rw [Try.params4] at hA hval hsz
 obtain ⟨v0, v1, v2, d0, d1, d2, p0, p1, p2, rfl, rfl, rfl, h0, h1, h2⟩ := trodAll_three hA
 obtain ⟨rfl, rfl⟩ := trodVars_none hV
 clear hA0 hval0
 simp only [List.append_nil, List.append_assoc] at hW'
 have hlt0 : ∀ x ∈ p0, x.block < W.heap.size := fun x hx => hW'.lt x (by simp [hx])
 have hlt1 : ∀ x ∈ p1, x.block < W.heap.size := fun x hx => hW'.lt x (by simp [hx])
 have hlt2 : ∀ x ∈ p2, x.block < W.heap.size := fun x hx => hW'.lt x (by simp [hx])
 obtain ⟨x0, hx0⟩ := arg_of (τ := Go.User.tRaw) (by kernel_rfl) (hval 0 24 v0 rfl rfl) h0 hlt0 (sz_of hsz (j := 0) rfl rfl)
 obtain ⟨x1, hx1⟩ := arg_of (τ := .bool) (by kernel_rfl) (hval 1 4 v1 rfl rfl) h1 hlt1 (sz_of hsz (j := 1) rfl rfl)
 obtain ⟨x2, hx2⟩ := arg_of (τ := .arr 2 (.int .u8)) (by kernel_rfl) (hval 2 60 v2 rfl rfl) h2 hlt2 (sz_of hsz (j := 2) rfl rfl)
 have hcall := hF.2 W (fun b => b < W.heap.size) [v0, v1, v2] (x0, x1, x2, ()) (GlbOK.zero _ _) (fun b h => h) ⟨v0, [v1, v2], rfl, hx0, v1, [v2], rfl, hx1, v2, [], rfl, hx2, rfl⟩ trivial
 refine hcall.mono ?_
 rintro e W' ⟨v, F', S', rfl, hb, _, _, _, _, hv⟩
 have hv : OwnV F' W' .bool .shr S' v true := hv
 have := hv.bool_eq
 subst this
 have hargs0 := Below.trod Try.laidOut (by kernel_rfl) (of_decide_eq_true (by kernel_rfl)) h0 hb hlt0
 have hargs1 := Below.trod Try.laidOut (by kernel_rfl) (of_decide_eq_true (by kernel_rfl)) h1 hb hlt1
 have hargs2 := Below.trod Try.laidOut (by kernel_rfl) (of_decide_eq_true (by kernel_rfl)) h2 hb hlt2
 refine ⟨_, rfl, _, _, _, [], p0 ++ (p1 ++ p2), [], hW', ?_, trodAll_mk3 hargs0 hargs1 hargs2, rfl, hb.frame _, fun h => by cases h⟩
 exact trodAll_mk1 (shut_bool Try.underlying4 true)

theorem orderSwaps_holds : Rows.OrderSwapsSaid :=
 OpenClaim.holds_of_wide 4 Try.f4 rfl rfl rfl rfl rfl rfl rfl ⟨rfl, rfl, rfl, rfl, rfl⟩ rfl rfl rfl rfl rfl (by kernel_rfl) Try.func4 (by kernel_rfl)
  (of_decide_eq_true (by kernel_rfl)) (by unfold Func.isWrapper; first | (rw [if_pos (by decide +kernel)]; kernel_rfl) | (rw [if_neg (by decide +kernel)]; exact ⟨rfl, rfl⟩))
  (fun os started H enc _ => orderSwaps_lifted Go.User.ok4 os started H enc)
end Go.Proofs.Ytdcbiadlojcaoaa
