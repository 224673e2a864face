/- Written by gen.py: what is left to show of each function. The maker of codes: its small methods do what they should. The maker of codes: instructions. Written by gen.py: what is left to show of each function. The maker of codes: instructions: what they should. The maker's methods that read on: they change one number alone. The maker's methods that read on: operands. A body cut at points of its spine: behind each the state is named anew. The maker of codes: loops and regions. -/
import Derived.Test.YtdcbiadlojcaoaaLfi
import Derived.BigQuiet
import Derived.WalkKit
import Derived.Lib.Walk
import Derived.Lib.SliceRun
import Derived.Laws.Rows
import Derived.Handy
set_option linter.unusedVariables false
set_option linter.unusedSimpArgs false
namespace Go.User
open Go.Proofs Go.Lf
set_option maxRecDepth 100000
theorem vc46 : (funI C46 (stpS C46) S46 L46 Try.f46) = (
let q0 : Int := (1 : Int);
let q1 : Int × Int × Unit := (q0, (8 : Int), ());
let q2 : Int := (2 : Int);
let q3 : Int × Unit := ((4 : Int), ());
let q4 : Int := (3 : Int);
∀ (x : Unit), True -> True -> ((True /\ True) /\ True) /\ ((True /\ True /\ True /\ True /\ True /\ True /\ True) /\ True /\ True) /\ (((97 : UInt8) :: ([] : List UInt8)), q0, q1) :: (((102 : UInt8) :: ([] : List UInt8)), q0, q2, q3) :: (((115 : UInt8) :: ([] : List UInt8)), q2, q1) :: (((112 : UInt8) :: ([] : List UInt8)), q4, q0, q3) :: (((98 : UInt8) :: ([] : List UInt8)), q2, q4, q3) :: ([] : List tArr.den) = Sp.arrs) := by kernel_rfl
theorem vc54 : (funI C54 (stpS C54) S54 L54 Try.f54) = (
∀ (x : Int × Unit), True -> dFact tI x.1 /\ True -> ((True /\ True) /\ True) /\ ((True /\ True /\ True) /\ True /\ True) /\ ((2 : Int), x.1, (0 : Int), ()) = Sp.regO x.1) := by kernel_rfl
theorem vc55 : (funI C55 (stpS C55) S55 L55 Try.f55) = (
∀ (x : Int × Unit), True -> dFact (Ty.int IntKind.i32) x.1 /\ True -> ((True /\ True) /\ True) /\ ((True /\ True /\ True) /\ True /\ True) /\ ((1 : Int), (0 : Int), x.1, ()) = Sp.conO x.1) := by kernel_rfl
theorem vc45 : (∀ q : Nat, funP (C45 q) (stpS (C45 q)) S45 (L45 q) Try.f45) = (
let q0 : Prop := (True /\ True) /\ True;
let q1 : Int := (1 : Int);
let q2 : Prop := True /\ True /\ True;
let q3 : Prop := True /\ q2;
let q4 : Int := (0 : Int);
∀ (q : Nat) (x : Sp.Mk),
 let q5 : Int := x.2.1 + q1;
 let q6 : Nat := x.1.length;
 let q7 : Bool := decide (q5 > (↑q6 : Int));
 let q8 : Prop := (x.1, q5, x.2.2) = Sp.nxM x;
 let q9 : Int := q5 - q1;
 ∀ (y : Unit), Sp.MkOK (5000 : Nat) x -> dFact tMk x -> True -> q0 /\ ((True /\ True /\ True /\ True /\ inK IntKind.i64 q5 /\ q2) /\ True /\ True) /\ ((True /\ True /\ True /\ True /\ True /\ True /\ True /\ q3) /\ True) /\ (q7 = true -> q0 /\ q8 /\ q4 = Sp.nxV x /\ false = false) /\ (q7 = false -> ((True /\ True /\ True /\ True /\ True /\ True /\ True /\ True /\ inK IntKind.i64 q9 /\ inN q9 q6 /\ q3) /\ True) /\ q8 /\ x.1.getD q9.toNat q4 = Sp.nxV x /\ false = false)) := by kernel_rfl
theorem vc66 : (∀ q : Nat, funP (C66 q) (stpS (C66 q)) S66 (L66 q) Try.f66) = (
let q0 : Nat := (2 : Nat);
let q1 : Int := (0 : Int);
let q2 : Sp.Opd := (q1, q1, q1, ());
let q3 : Prop := Step.fst = Step.fst /\ True;
let q4 : Prop := Step.snd = Step.snd /\ Step.snd = Step.snd /\ Step.fst = Step.fst /\ Step.snd = Step.snd /\ Step.snd = Step.snd /\ Step.snd = Step.snd /\ Step.snd = Step.snd /\ Step.snd = Step.snd /\ Step.snd = Step.snd /\ Step.snd = Step.snd /\ q3;
let q5 : Prop := True /\ True /\ True;
let q6 : Prop := True /\ True /\ True /\ q5;
∀ (q : Nat) (x : Sp.Mk),
 let q7 : Int × Int × Int × List Sp.Arr × List Sp.Opd × List Sp.Block × Unit := x.2.2.1.2.2;
 let q8 : Int × Int × List Sp.Arr × List Sp.Opd × List Sp.Block × Unit := q7.2;
 let q9 : Int × List Sp.Arr × List Sp.Opd × List Sp.Block × Unit := q8.2;
 let q10 : List Sp.Arr × List Sp.Opd × List Sp.Block × Unit := q9.2;
 let q11 : List Sp.Opd × List Sp.Block × Unit := q10.2;
 let q12 : List Sp.Block × Unit := q11.2;
 let q13 : List Sp.Block := q12.1;
 let q14 : Nat := q13.length;
 let q15 : Int := (↑q14 : Int) - (1 : Int);
 let q16 : Prop := inN q15 q14;
 let q17 : Nat := q15.toNat;
 let q18 : Sp.Block := q13.getD q17 (([] : List tInst.den), (q1, q1, q2, q2, q2, List.replicate q0 q1, ()), ());
 let q19 : List Sp.Inst := q18.1;
 let q20 : List Step := Step.snd :: Step.snd :: Step.fst :: Step.snd :: Step.snd :: Step.snd :: Step.snd :: Step.snd :: Step.snd :: Step.snd :: Step.fst :: Step.idx q17 :: Step.fst :: ([] : List Step);
 ∀ (y : Sp.Inst × Unit),
 let q21 : List Sp.Inst := y.1 :: ([] : List tInst.den);
 Sp.MkOK (5000 : Nat) x /\ Sp.has x -> dFact (tU8.slice.prod (tI.prod ((tI.prod (tI.prod (tI.prod (tI.prod (tI.prod (tArr.slice.prod (tLoop.slice.prod ((tInst.slice.prod ((tI.prod (tI.prod (tOpd.prod (tOpd.prod (tOpd.prod ((Ty.arr q0 tI).prod Ty.unit)))))).prod Ty.unit)).slice.prod Ty.unit)))))))).prod Ty.unit))) x -> dFact tInst y.1 /\ True -> ((True /\ True) /\ True) /\ ((True /\ True /\ True /\ True /\ True /\ True /\ inK IntKind.i64 q15 /\ True /\ True) /\ True) /\ (((True /\ True /\ True /\ True /\ True /\ True /\ True /\ True /\ True /\ True /\ True /\ True /\ q16 /\ True /\ True /\ True /\ True /\ (↑(q19.length + q21.length) : Int) <= maxNew /\ q16 /\ True /\ True) /\ True /\ True /\ True /\ True /\ True /\ True /\ True /\ True /\ True /\ True /\ True /\ True /\ True /\ True /\ True /\ True /\ True /\ ((True /\ True /\ True /\ True /\ q4 /\ True /\ True /\ True /\ True /\ True /\ q4 /\ True /\ True /\ True /\ (Step.snd = Step.snd /\ Step.snd = Step.snd /\ Step.fst = Step.fst /\ Step.snd = Step.snd /\ Step.snd = Step.snd /\ Step.snd = Step.snd /\ Step.snd = Step.snd /\ Step.snd = Step.snd /\ Step.snd = Step.snd /\ Step.snd = Step.snd /\ Step.fst = Step.fst /\ Step.idx q17 = Step.idx q17 /\ q3) /\ q6) /\ True /\ True /\ True /\ True /\ True /\ True /\ True /\ True /\ True /\ True /\ True /\ True /\ True /\ True /\ True /\ True /\ True /\ True /\ True /\ True /\ True /\ True /\ q4 /\ True /\ True /\ True /\ True /\ q6) /\ q5) /\ q20 = q20 /\ True) /\ (x.1, x.2.1, (x.2.2.1.1, x.2.2.1.2.1, q7.1, q8.1, q9.1, q10.1, q11.1, q13.set q17 (q19 ++ q21, q18.2), q12.2), x.2.2.2) = Sp.putM x y.1 /\ (([] : List Go.ResultVar)).toArray.toList = ([] : List Go.ResultVar) /\ Ty.unit = Ty.unit) := by kernel_rfl
theorem vc49 : (∀ q : Nat, funP (C49 q) (stpS (C49 q)) S49 (L49 q) Try.f49) = (
let q0 : Nat := (2 : Nat);
let q1 : Int := (0 : Int);
let q2 : Sp.Opd := (q1, q1, q1, ());
let q3 : List Sp.Block := (([] : List tInst.den), (q1, q1, q2, q2, q2, List.replicate q0 q1, ()), ()) :: ([] : List tBlk.den);
let q4 : List Step := Step.snd :: Step.snd :: Step.fst :: Step.snd :: Step.snd :: Step.snd :: Step.snd :: Step.snd :: Step.snd :: Step.snd :: Step.fst :: ([] : List Step);
∀ (q : Nat) (x : Sp.Mk),
 let q5 : Int × Int × Int × List Sp.Arr × List Sp.Opd × List Sp.Block × Unit := x.2.2.1.2.2;
 let q6 : Int × Int × List Sp.Arr × List Sp.Opd × List Sp.Block × Unit := q5.2;
 let q7 : Int × List Sp.Arr × List Sp.Opd × List Sp.Block × Unit := q6.2;
 let q8 : List Sp.Arr × List Sp.Opd × List Sp.Block × Unit := q7.2;
 let q9 : List Sp.Opd × List Sp.Block × Unit := q8.2;
 let q10 : List Sp.Block × Unit := q9.2;
 let q11 : List Sp.Block := q10.1;
 ∀ (y : Unit), Sp.MkOK (5000 : Nat) x -> dFact (tU8.slice.prod (tI.prod ((tI.prod (tI.prod (tI.prod (tI.prod (tI.prod (tArr.slice.prod (tLoop.slice.prod ((tInst.slice.prod ((tI.prod (tI.prod (tOpd.prod (tOpd.prod (tOpd.prod ((Ty.arr q0 tI).prod Ty.unit)))))).prod Ty.unit)).slice.prod Ty.unit)))))))).prod Ty.unit))) x -> True -> ((True /\ True /\ True /\ True /\ True /\ True /\ True /\ True /\ True) /\ (↑(q11.length + q3.length) : Int) <= maxNew /\ True /\ True /\ True /\ q4 = q4 /\ True) /\ (x.1, x.2.1, (x.2.2.1.1, x.2.2.1.2.1, q5.1, q6.1, q7.1, q8.1, q9.1, q11 ++ q3, q10.2), x.2.2.2) = Sp.blkM x /\ (([] : List Go.ResultVar)).toArray.toList = ([] : List Go.ResultVar) /\ Ty.unit = Ty.unit) := by kernel_rfl
theorem vc50 : (∀ q : Nat, funP (C50 q) (stpS (C50 q)) S50 (L50 q) Try.f50) = (
let q0 : Nat := (5000 : Nat);
let q1 : Int := (6 : Int);
∀ (q : Nat) (x : Sp.Mk) (y : Unit), Sp.MkOK q0 x -> dFact tMk x -> True -> ((True /\ True) /\ True) /\ ((True /\ True) /\ Sp.MkOK q0 x /\ q1 ≠ (0 : Int) /\ True /\ True /\ True) /\ Sp.nxM x = Sp.nxM x /\ Sp.regO ((Sp.nxV x).tmod q1) = Sp.regV x) := by kernel_rfl
theorem vc51 : (∀ q : Nat, funP (C51 q) (stpS (C51 q)) S51 (L51 q) Try.f51) = (
let q0 : Nat := (5000 : Nat);
let q1 : Int := (3 : Int);
let q2 : Int := (0 : Int);
let q3 : Prop := q1 ≠ q2;
let q4 : Int := (6 : Int);
∀ (q : Nat) (x : Sp.Mk),
 let q5 : Bool := (Sp.nxV x).tmod q1 == q2;
 let q6 : Int := (Sp.nxV x).tdiv q1;
 let q7 : Prop := q3 /\ inK IntKind.i64 q6;
 let q8 : Prop := Sp.nxM x = Sp.nxM x;
 ∀ (y : Unit), Sp.MkOK q0 x -> dFact tMk x -> True -> ((True /\ True) /\ True) /\ ((True /\ True) /\ Sp.MkOK q0 x /\ True /\ True) /\ ((True /\ q3 /\ True /\ True) /\ True) /\ (q5 = true -> ((True /\ q7 /\ True /\ True /\ True /\ True) /\ True /\ True) /\ q8 /\ Sp.conO (IntKind.i32.wrap (IntKind.i32.wrap q6 - (20 : Int))) = Sp.valV x) /\ (q5 = false -> ((True /\ q7 /\ q4 ≠ q2 /\ True /\ True) /\ True /\ True) /\ q8 /\ Sp.regO (q6.tmod q4) = Sp.valV x)) := by kernel_rfl
end Go.User
namespace Sp
theorem MkOK.mono {n m : Nat} {s : Mk} (h : MkOK n s) (hm : n <= m) : MkOK m s :=
 ⟨h.at0, by have := h.at1; omega, h.arr, Nat.le_trans h.blk hm, fun b hb => Nat.le_trans (h.ins b hb) hm, Nat.le_trans h.lps hm⟩
theorem MkOK.nx {n : Nat} {s : Mk} (h : MkOK n s) : MkOK (n + 1) (nxM s) := by
 have h0 := h.at0
 have h1 := h.at1
 exact ⟨by show 0 <= s.2.1 + 1; omega, by show s.2.1 + 1 <= ((n + 1 : Nat) : Int); omega, h.arr, Nat.le_succ_of_le h.blk, fun b hb => Nat.le_succ_of_le (h.ins b hb), Nat.le_succ_of_le h.lps⟩
theorem has.nx {s : Mk} (h : has s) : has (nxM s) := h
theorem mem_set_cases {α} {l : List α} {i : Nat} {a b : α} (h : b ∈ l.set i a) : b ∈ l ∨ b = a := List.mem_or_eq_of_mem_set h
theorem MkOK.put {n : Nat} {s : Mk} (h : MkOK n s) (i : Inst) : MkOK (n + 1) (putM s i) := by
 refine ⟨h.at0, by have := h.at1; show s.2.1 <= ((n + 1 : Nat) : Int); omega, h.arr, ?_, ?_, Nat.le_succ_of_le h.lps⟩
 ·show (List.set _ _ _).length <= _
  rw [List.length_set]; exact Nat.le_succ_of_le h.blk
 ·intro b hb
  rcases mem_set_cases (show b ∈ List.set _ _ _ from hb) with hb | rfl
  ·exact Nat.le_succ_of_le (h.ins b hb)
  ·show (List.length (_ ++ [i])) <= n + 1
   rw [List.length_append];have : ((cB s.2.2.1).getD ((cB s.2.2.1).length - 1) blk0).1.length <= n := by
    rcases Nat.lt_or_ge ((cB s.2.2.1).length - 1) (cB s.2.2.1).length with hl | hl
    ·rw [List.getD_eq_getElem?_getD, List.getElem?_eq_getElem hl]; exact h.ins _ (List.getElem_mem hl)
    ·rw [List.getD_eq_getElem?_getD, List.getElem?_eq_none hl]; exact Nat.zero_le _
   simpa using Nat.succ_le_succ this
theorem has.put {s : Mk} (h : has s) (i : Inst) : has (putM s i) := by
 unfold has
 show 0 < (List.set _ _ _).length
 rw [List.length_set]; exact h
theorem MkOK.bl {n : Nat} {s : Mk} (h : MkOK n s) : MkOK (n + 1) (blkM s) := by
 refine ⟨h.at0, by have := h.at1; show s.2.1 <= ((n + 1 : Nat) : Int); omega, h.arr, ?_, ?_, Nat.le_succ_of_le h.lps⟩
 ·show (List.length (_ ++ [blk0])) <= n + 1
  rw [List.length_append]; exact Nat.succ_le_succ h.blk
 ·intro b hb
  rcases List.mem_append.1 (show b ∈ cB s.2.2.1 ++ [blk0] from hb) with hb | hb
  ·exact Nat.le_succ_of_le (h.ins b hb)
  ·rw [List.mem_singleton.1 hb]; exact Nat.zero_le _
theorem has.bl {s : Mk} : has (blkM s) := by
 show 0 < (List.length (_ ++ [blk0]))
 rw [List.length_append]; exact Nat.succ_pos _
theorem nxV_bd (s : Mk) (h : ∀ v ∈ s.1, 0 <= v /\ v <= 255) : 0 <= nxV s /\ nxV s <= 255 := by
 unfold nxV
 split
 ·exact ⟨Int.le_refl _, by omega⟩
 ·rw [List.getD_eq_getElem?_getD]
  rcases Nat.lt_or_ge s.2.1.toNat s.1.length with hl | hl
  ·rw [List.getElem?_eq_getElem hl]; exact h _ (List.getElem_mem hl)
  ·rw [List.getElem?_eq_none hl]; exact ⟨Int.le_refl _, by decide⟩
end Sp
namespace Go.User
open Go.Lf Go.Proofs
theorem okM' {C : Ctx} (q : Nat) (h : ∀ f s, Lf.look C.fns f = some s -> FOk Try.prog f s) (hp : ∀ f s, Lf.look C.ptrs f = some s -> ∃ o, POk Try.prog f s o /\ ∀ q, o = some q -> C.pin.isSome = true /\ q = C.q) (h1 : C.tys = tysQ q) (h2 : C.eqs = eqs) (h4 : C.thk = none) (h5 : C.clo = none) (h6 : C.ins = []) (h7 : C.kno = none) : CtxOK Try.prog C :=
 ctx_okQ q h1 h2 h hp (fun _ h => by rw [h4] at h; cases h) (fun _ h => by rw [h5] at h; cases h) (by rw [h6]; exact ins_nil) (fun _ h => by rw [h7] at h; cases h)
theorem bytes_of {l : List Int} (h : dFact (.slice tU8) l) : ∀ v ∈ l, 0 <= v /\ v <= 255 := by
 intro v hv
 have := h.2 v hv
 exact ⟨this.1, this.2⟩
theorem inN_last {n : Nat} (h : 0 < n) : inN ((n : Int) - 1) n := ⟨by omega, by omega⟩
theorem ok46 : FOk Try.prog 46 S46 := by
 have hC : CtxOK Try.prog C46 := okC fns_nil rfl rfl rfl rfl rfl rfl rfl
 refine FOk.intro hC (stpS_ok hC) Try.call46 Try.func46 (by kernel_rfl) (by kernel_rfl) L46 (vc46.mpr ?_)
 simp only [zz, zy]
 rfl
theorem ok54 : FOk Try.prog 54 S54 := by
 refine FOk.intro (okA fns_nil) (stpS_ok (okA fns_nil)) Try.call54 Try.func54 (by kernel_rfl) (by kernel_rfl) L54 (vc54.mpr ?_)
 simp only [zz, zy]
 intros; rfl
theorem ok55 : FOk Try.prog 55 S55 := by
 refine FOk.intro (okA fns_nil) (stpS_ok (okA fns_nil)) Try.call55 Try.func55 (by kernel_rfl) (by kernel_rfl) L55 (vc55.mpr ?_)
 simp only [zz, zy]
 intros; rfl
theorem pk45 : POk Try.prog 45 S45 := by
 have hC : ∀ q, CtxOK Try.prog (C45 q) := fun q => okM' q fns_nil ptrs_nil rfl rfl rfl rfl rfl rfl
 refine POk.intro hC (fun q => stpS_ok (hC q)) Try.call45 Try.func45 (fun q => rfl) (by kernel_rfl) L45 (vc45.mpr ?_)
 simp only [zz, zy]
 intro x hM hx
 have h0 := hM.at0
 have h1 := hM.at1
 have h1 : x.2.1 <= 5000 := h1
 refine ⟨inK_mid (by omega) (by omega), fun h => ⟨rfl, ?_⟩, fun h => ⟨⟨inK_mid (by omega) (by omega), by show 0 <= _; omega, by show _ < (List.length x.1 : Int); omega⟩, rfl, ?_⟩⟩
 ·show 0 = Sp.nxV x
  unfold Sp.nxV;rw [if_pos h]
 ·show _ = Sp.nxV x
  unfold Sp.nxV;rw [if_neg (by omega)];have e : (x.2.1 + 1 - 1).toNat = x.2.1.toNat := by omega
  show x.1.getD (x.2.1 + 1 - 1).toNat 0 = _
  rw [e]
theorem pk66 : POk Try.prog 66 S66 := by
 have hC : ∀ q, CtxOK Try.prog (C66 q) := fun q => okM' q fns_nil ptrs_nil rfl rfl rfl rfl rfl rfl
 refine POk.intro hC (fun q => stpS_ok (hC q)) Try.call66 Try.func66 (fun q => rfl) (by kernel_rfl) L66 (vc66.mpr ?_)
 simp only [zz, zy]
 intro x y hM hx hy
 have hb := hM.1.blk
 have hi := hM.1.ins
 have hh := hM.2
 unfold Sp.cB at hb hi
 unfold Sp.has Sp.cB at hh
 revert hb hi hh
 obtain ⟨L, A, ⟨c1, c2, c3, c4, c5, c6, c7, B, u⟩, u2⟩ := x
 intro hb hi hh
 have hb : B.length <= 5000 := hb
 have hi : ∀ b ∈ B, b.1.length <= 5000 := hi
 have hh : 0 < B.length := hh
 have e : ((B.length : Int) - 1).toNat = B.length - 1 := by omega
 have hin := inN_last hh
 refine ⟨inK_mid (by omega) (by omega), ⟨hin, ?_, hin⟩, ?_⟩
 ·show ((List.length (List.getD B ((B.length : Int) - 1).toNat Sp.blk0).1 + 1 : Nat) : Int) <= maxNew
  rw [maxNew_eq, e];have : (List.getD B (B.length - 1) Sp.blk0).1.length <= 5000 := by
   rw [List.getD_eq_getElem?_getD, List.getElem?_eq_getElem (by omega)]; exact hi _ (List.getElem_mem _)
  omega
 ·show (L, A, (c1, c2, c3, c4, c5, c6, c7, List.set B ((B.length : Int) - 1).toNat ((List.getD B ((B.length : Int) - 1).toNat Sp.blk0).1 ++ [y.1], (List.getD B ((B.length : Int) - 1).toNat Sp.blk0).2), u), u2) = _
  rw [e]
  rfl
theorem pk49 : POk Try.prog 49 S49 := by
 have hC : ∀ q, CtxOK Try.prog (C49 q) := fun q => okM' q fns_nil ptrs_nil rfl rfl rfl rfl rfl rfl
 refine POk.intro hC (fun q => stpS_ok (hC q)) Try.call49 Try.func49 (fun q => rfl) (by kernel_rfl) L49 ?_
 rw [vc49]
 simp only [zz, zy]
 intro x hM hx
 have hb := hM.blk
 unfold Sp.cB at hb
 refine ⟨?_, rfl⟩
 rw [maxNew_eq]
 have hb' : ((x.2.2.1.2.2.2.2.2.2.2.1.length : Nat) : Int) <= 5000 := Int.ofNat_le.mpr hb
 show ((x.2.2.1.2.2.2.2.2.2.2.1.length + 1 : Nat) : Int) <= 2147483648
 omega
theorem pk50 : POk Try.prog 50 S50 := by
 have hC : ∀ q, CtxOK Try.prog (C50 q) := fun q => okM' q (fns_cons ok54 fns_nil) (ptr_cons pk45 ptrs_nil) rfl rfl rfl rfl rfl rfl
 refine POk.intro hC (fun q => stpS_ok (hC q)) Try.call50 Try.func50 (fun q => rfl) (by kernel_rfl) L50 (vc50.mpr ?_)
 simp only [zz, zy]
 intro x hM hx
 refine ⟨⟨hM, by decide⟩, ?_⟩
 rfl
theorem pk51 : POk Try.prog 51 S51 := by
 have hC : ∀ q, CtxOK Try.prog (C51 q) := fun q => okM' q (fns_cons ok54 (fns_cons ok55 fns_nil)) (ptr_cons pk45 ptrs_nil) rfl rfl rfl rfl rfl rfl
 refine POk.intro hC (fun q => stpS_ok (hC q)) Try.call51 Try.func51 (fun q => rfl) (by kernel_rfl) L51 (vc51.mpr ?_)
 simp only [zz, zy]
 intro x hM hx
 have hb := bytes_of hx.1
 have hv := Sp.nxV_bd x hb
 have hk : inK .i64 ((Sp.nxV x).tdiv 3) := by
  have h3 : (Sp.nxV x).tdiv 3 = Sp.nxV x / 3 := Int.tdiv_eq_ediv_of_nonneg hv.1
  rw [h3];exact inK_mid (by omega) (by omega)
 refine ⟨hM, by decide, fun h => ⟨⟨by decide, hk⟩, ?_⟩, fun h => ⟨⟨⟨by decide, hk⟩, by decide⟩, ?_⟩⟩
 ·show _ = Sp.valV x
  unfold Sp.valV;rw [if_pos h]
 ·show _ = Sp.valV x
  unfold Sp.valV;rw [if_neg h]
end Go.User
namespace Sp
def i3 (op sub n : Int) (d a b : Opd) : Inst := (op, sub, n, d, a, b, opd0, ())
def plN (s : Mk) (p : Bool) : Int := if Int.tmod (nxV s) 5 = 3 /\ p = false then 0 else Int.tmod (nxV s) 5
def plD (s : Mk) : Opd := regV (nxM s)
def plI (s : Mk) (p : Bool) : Inst := i3 3 17 0 (plD s) (valV (nxM (nxM s))) (conO (Go.IntKind.wrap .i32 ((arrs.getD (plN s p).toNat ([], 0, 0, 0, ())).2.2.2.1 - 1)))
def plM (s : Mk) (p : Bool) : Mk := putM (nxM (nxM (nxM s))) (plI s p)
def inK (s : Mk) : Int := Int.tmod (nxV s) 16
def in0 (s : Mk) : Mk := putM (nxM (nxM s)) (i3 5 (1 + Int.tmod (nxV s) 7) 0 (regV (nxM s)) opd0 opd0)
def in3 (s : Mk) : Mk := putM (nxM (nxM (nxM (nxM s)))) (i3 3 (10 + Int.tmod (nxV s) 20) 0 (regV (nxM s)) (valV (nxM (nxM s))) (valV (nxM (nxM (nxM s)))))
def in7 (s : Mk) : Mk := putM (nxM (nxM (nxM s))) (i3 2 (1 + Int.tmod (nxV s) 5) 0 (regV (nxM s)) (valV (nxM (nxM s))) opd0)
def in8 (s : Mk) : Mk := putM (nxM (nxM (nxM (nxM s)))) (4, 0, 0, regV s, valV (nxM s), valV (nxM (nxM s)), valV (nxM (nxM (nxM s))), ())
def in9 (s : Mk) : Mk := putM (nxM (nxM s)) (i3 1 0 0 (regV s) (valV (nxM s)) opd0)
def in10 (s : Mk) : Mk := putM (nxM (nxM s)) (i3 6 0 (Int.tmod (nxV s) 3) (regV (nxM s)) opd0 opd0)
def in11 (s : Mk) : Mk := putM (nxM s) (i3 10 (1 + Int.tmod (nxV s) 2) 0 opd0 opd0 opd0)
def ops6 : List Int := [10, 22, 23, 17, 18, 19]
def in12 (s : Mk) : Mk := putM (nxM (nxM (plM s false))) (i3 9 (ops6.getD (Int.tmod (nxV (plM s false)) 6).toNat 0) (plN s false) opd0 (plD s) (valV (nxM (plM s false))))
def in13 (s : Mk) : Mk := putM (nxM (plM s true)) (i3 7 0 (plN s true) (regV (plM s true)) (plD s) opd0)
def in14 (s : Mk) : Mk := putM (nxM (plM s true)) (i3 8 0 (plN s true) opd0 (plD s) (valV (plM s true)))
def instF (k : Int) (s : Mk) : Mk :=
 if k < 3 then in0 s else if k < 7 then in3 s else if k = 7 then in7 s else if k = 8 then in8 s else if k = 9 then in9 s else if k = 10 then in10 s
 else if k = 11 then in11 s else if k = 12 then in12 s else if k = 13 then in13 s else in14 s
def instM (s : Mk) : Mk := instF (inK s) (nxM s)
def instN : Nat -> Mk -> Mk
 | 0, s => s
 | k + 1, s => instN k (instM s)
def insM (s : Mk) : Mk := instN (Int.tmod (nxV s) 5).toNat (nxM s)
end Sp
namespace Go.User
open Go.Lf
def S72 : PSpec := { τ := tMk, m := mMk, args := [.val .bool], multi := true, res := .prod tI (.prod tOpd .unit), pre := fun s _ => Sp.MkOK 4900 s /\ Sp.has s, fn := fun s y => Sp.plM s y.1, out := fun s y => (Sp.plN s y.1, Sp.plD s, ()) }
def C72 (q : Nat) : Ctx := mkM 39 q [(55, S55)] [(45, S45), (50, S50), (51, S51), (66, S66)]
def L72 (q : Nat) (x : S72.τ.den) (y : kdens S72.args) : List LoopI := []
def S67 : PSpec := { τ := tMk, m := mMk, pre := fun s _ => Sp.MkOK 4800 s /\ Sp.has s, fn := fun s y => Sp.instM s, out := fun _ _ => () }
def C67 (q : Nat) : Ctx := mkM 133 q [] [(45, S45), (50, S50), (51, S51), (66, S66), (72, S72)]
def L67 (q : Nat) (x : S67.τ.den) (y : kdens S67.args) : List LoopI := []
def S52 : PSpec := { τ := tMk, m := mMk, pre := fun s _ => Sp.MkOK 4500 s /\ Sp.has s, fn := fun s y => Sp.insM s, out := fun _ _ => () }
def C52 (q : Nat) : Ctx := mkM 12 q [] [(45, S45), (67, S67)]
def L52 (q : Nat) (x : S52.τ.den) (y : kdens S52.args) : List LoopI := [
 {ι := Nat × Sp.Mk, inv := fun t => t.1 <= 4 /\ Sp.MkOK (4700 - 10 * t.1) t.2 /\ Sp.has t.2 /\ Sp.instN t.1 t.2 = Sp.insM x, dec := fun t => t.1, ovr := fun t => [(0, .box tMk mMk t.2), (2, .shr tI (t.1 : Int))], keep := [] }]
end Go.User
namespace Go.User
open Go.Proofs Go.Lf
set_option maxRecDepth 100000
theorem vc72 : (∀ q : Nat, funP (C72 q) (stpS (C72 q)) S72 (L72 q) Try.f72) = (
let q0 : Prop := True /\ True /\ True;
let q1 : Nat := (5000 : Nat);
let q2 : Int := (5 : Int);
let q3 : Int := (0 : Int);
let q4 : Int := (3 : Int);
let q5 : Sp.Arr := (([] : List UInt8), q3, q3, q3, ());
let q6 : Int := (1 : Int);
let q7 : Nat := (0 : Nat);
let q8 : Prop := q7 = q7;
let q9 : Prop := True /\ q8 /\ ([] : List Step) = ([] : List Step);
let q10 : List Step := Step.snd :: Step.snd :: Step.fst :: ([] : List Step);
let q11 : Prop := True /\ q8 /\ q10 = q10;
let q12 : List Step := Step.snd :: Step.snd :: Step.fst :: Step.snd :: Step.snd :: Step.snd :: q10;
let q13 : Prop := True /\ q8 /\ q12 = q12;
let q14 : Prop := q9 /\ True;
let q15 : Prop := True /\ q0;
let q16 : Prop := q15 /\ True /\ True;
let q17 : Int := (17 : Int);
let q18 : Sp.Opd × Unit := ((q3, q3, q3, ()), ());
∀ (q : Nat) (x : Sp.Mk),
 let q19 : Int := (Sp.nxV x).tmod q2;
 let q20 : Bool := q19 == q4;
 let q21 : Prop := (true && bif q20 then true else false) = true -> True;
 let q22 : Prop := (True /\ True) /\ Sp.MkOK q1 (Sp.nxM x) /\ q0;
 let q23 : List Sp.Arr := x.2.2.1.2.2.2.2.2.1;
 let q24 : Nat := q23.length;
 let q25 : Prop := inN q3 q24;
 let q26 : Sp.Arr := q23.getD q3.toNat q5;
 let q27 : Int := q26.2.2.2.1;
 let q28 : Int := q27 - q6;
 let q29 : Prop := inK IntKind.i64 q28;
 let q30 : Prop := True /\ Sp.regV (Sp.nxM x) = Sp.regV (Sp.nxM x);
 let q31 : Prop := True /\ q23 = q23;
 let q32 : Prop := True /\ q27 = q27;
 let q33 : Int := IntKind.i32.wrap q28;
 let q34 : Prop := q9 /\ q9 /\ q11 /\ q13 /\ q31 /\ (True /\ q3 = q3) /\ (q25 /\ q26 = q26) /\ q32 /\ q32 /\ (q29 /\ q28 = q28) /\ (True /\ q33 = q33) /\ True;
 let q35 : Prop := Sp.MkOK q1 (Sp.nxM (Sp.nxM x));
 let q36 : Prop := q9 /\ q30 /\ True;
 let q37 : Sp.Mk := Sp.nxM (Sp.nxM (Sp.nxM x));
 let q38 : Prop := Sp.MkOK q1 q37 /\ Sp.has q37;
 let q39 : Sp.Opd := Sp.valV (Sp.nxM (Sp.nxM x));
 let q40 : Sp.Opd × Unit := (Sp.regV (Sp.nxM x), ());
 let q41 : Prop := inN q19 q24;
 let q42 : Sp.Arr := q23.getD q19.toNat q5;
 let q43 : Int := q42.2.2.2.1;
 let q44 : Int := q43 - q6;
 let q45 : Prop := inK IntKind.i64 q44;
 let q46 : Prop := True /\ q43 = q43;
 let q47 : Int := IntKind.i32.wrap q44;
 let q48 : Prop := q9 /\ q9 /\ q11 /\ q13 /\ q31 /\ (True /\ q19 = q19) /\ (q41 /\ q42 = q42) /\ q46 /\ q46 /\ (q45 /\ q44 = q44) /\ (True /\ q47 = q47) /\ True;
 ∀ (y : Bool × Unit),
 let q49 : Bool := bif q20 then !y.1 else false;
 let q50 : Int × Sp.Opd × Unit := (Sp.plN x y.1, Sp.plD x, ());
 Sp.MkOK (4900 : Nat) x /\ Sp.has x -> dFact tMk x -> dFact Ty.bool y.1 /\ True -> (q0 /\ True) /\ ((True /\ True) /\ Sp.MkOK q1 x /\ q2 ≠ q3 /\ True /\ True) /\ ((True /\ True /\ True /\ q21 /\ q21 /\ True /\ True) /\ True) /\ (q49 = true -> ((True /\ True) /\ True) /\ q22 /\ (True /\ True /\ True /\ True /\ True /\ True /\ True /\ True /\ True /\ q25 /\ True /\ True /\ q29 /\ True /\ True) /\ (q9 /\ q30 /\ q9 /\ q34) /\ (q35 /\ True /\ (q9 /\ q30 /\ q34) /\ (True /\ True /\ q36 /\ (True /\ True /\ q14 /\ (q38 /\ True /\ True /\ q16 /\ Sp.putM q37 (q4, q17, q3, Sp.regV (Sp.nxM x), q39, Sp.conO q33, q18) = Sp.plM x y.1 /\ (q3, q40) = q50) /\ True) /\ True /\ True) /\ q0) /\ q15) /\ (q49 = false -> q22 /\ (True /\ True /\ True /\ True /\ True /\ True /\ True /\ True /\ True /\ q41 /\ True /\ True /\ q45 /\ True /\ True) /\ (q9 /\ q30 /\ q9 /\ q48) /\ (q35 /\ True /\ (q9 /\ q30 /\ q48) /\ (True /\ True /\ q36 /\ (True /\ True /\ q14 /\ (q38 /\ True /\ True /\ q16 /\ Sp.putM q37 (q4, q17, q3, Sp.regV (Sp.nxM x), q39, Sp.conO q47, q18) = Sp.plM x y.1 /\ (q19, q40) = q50) /\ True) /\ True /\ True) /\ q0) /\ q15)) := by kernel_rfl
theorem vc67 : (∀ q : Nat, funP (C67 q) (stpS (C67 q)) S67 (L67 q) Try.f67) = (
let q0 : Nat := (5000 : Nat);
let q1 : Int := (16 : Int);
let q2 : Int := (0 : Int);
let q3 : Prop := True /\ True /\ True;
let q4 : Prop := q3 /\ True;
let q5 : Int := (3 : Int);
let q6 : Int := (7 : Int);
let q7 : Int := (1 : Int);
let q8 : Int := (5 : Int);
let q9 : Sp.Opd := (q2, q2, q2, ());
let q10 : Sp.Opd × Unit := (q9, ());
let q11 : Sp.Opd × Sp.Opd × Unit := (q9, q10);
let q12 : Sp.Opd × Sp.Opd × Sp.Opd × Unit := (q9, q11);
let q13 : Prop := (([] : List Go.ResultVar)).toArray.toList = ([] : List Go.ResultVar) /\ Ty.unit = Ty.unit;
let q14 : Int := (20 : Int);
let q15 : Int := (10 : Int);
let q16 : Prop := True /\ q3;
let q17 : Int := (2 : Int);
let q18 : Int := (8 : Int);
let q19 : Int := (9 : Int);
let q20 : Int := (6 : Int);
let q21 : Prop := True /\ q16;
let q22 : Prop := True /\ q21;
let q23 : Nat := (0 : Nat);
let q24 : Prop := True /\ q23 = q23 /\ ([] : List Step) = ([] : List Step);
let q25 : Prop := q24 /\ True;
let q26 : Prop := q20 ≠ q2;
let q27 : List Int := q15 :: (22 : Int) :: (23 : Int) :: (17 : Int) :: (18 : Int) :: (19 : Int) :: ([] : List tI.den);
let q28 : Nat := (100 : Nat);
∀ (q : Nat) (x : Sp.Mk),
 let q29 : Int := (Sp.nxV x).tmod q1;
 let q30 : Bool := decide (q29 < q5);
 let q31 : Prop := Sp.MkOK q0 (Sp.nxM x);
 let q32 : Int := q7 + (Sp.nxV (Sp.nxM x)).tmod q6;
 let q33 : Prop := Sp.MkOK q0 (Sp.nxM (Sp.nxM x));
 let q34 : Sp.Mk := Sp.nxM (Sp.nxM (Sp.nxM x));
 let q35 : Prop := Sp.MkOK q0 q34;
 let q36 : Prop := True /\ q33 /\ True /\ (q35 /\ Sp.has q34) /\ True;
 let q37 : Sp.Opd := Sp.regV (Sp.nxM (Sp.nxM x));
 let q38 : Sp.Opd × Sp.Opd × Sp.Opd × Sp.Opd × Unit := (q37, q12);
 let q39 : Bool := decide (q29 < q6);
 let q40 : Int := q15 + (Sp.nxV (Sp.nxM x)).tmod q14;
 let q41 : Sp.Mk := Sp.nxM q34;
 let q42 : Prop := Sp.MkOK q0 q41;
 let q43 : Sp.Mk := Sp.nxM q41;
 let q44 : Prop := q33 /\ True /\ q35 /\ True /\ q42 /\ True /\ (Sp.MkOK q0 q43 /\ Sp.has q43) /\ True;
 let q45 : Sp.Opd := Sp.valV q34;
 let q46 : Sp.Opd := Sp.valV q41;
 let q47 : Bool := q29 == q6;
 let q48 : Int := q7 + (Sp.nxV (Sp.nxM x)).tmod q8;
 let q49 : Bool := q29 == q18;
 let q50 : Sp.Opd := Sp.valV (Sp.nxM (Sp.nxM x));
 let q51 : Bool := q29 == q19;
 let q52 : Bool := q29 == q15;
 let q53 : Bool := q29 == (11 : Int);
 let q54 : Int := q7 + (Sp.nxV (Sp.nxM x)).tmod q17;
 let q55 : Bool := q29 == (12 : Int);
 let q56 : Prop := (True /\ True) /\ (Sp.MkOK (4900 : Nat) (Sp.nxM x) /\ Sp.has (Sp.nxM x)) /\ True /\ q22;
 let q57 : Int := Sp.plN (Sp.nxM x) false;
 let q58 : Prop := True /\ q57 = q57;
 let q59 : Prop := True /\ Sp.plD (Sp.nxM x) = Sp.plD (Sp.nxM x);
 let q60 : Prop := q24 /\ q24 /\ q58 /\ q59 /\ q25;
 let q61 : Sp.Mk := Sp.plM (Sp.nxM x) false;
 let q62 : Prop := Sp.MkOK q0 q61;
 let q63 : Int := (Sp.nxV q61).tmod q20;
 let q64 : Prop := inN q63 q27.length;
 let q65 : Prop := q64 /\ True /\ True;
 let q66 : Prop := q26 /\ q63 = q63;
 let q67 : Nat := q63.toNat;
 let q68 : List Step := Step.idx q67 :: ([] : List Step);
 let q69 : Int := q27.getD q67 q2;
 let q70 : Prop := q66 /\ (q64 /\ q28 = q28 /\ q68 = q68) /\ (True /\ q69 = q69) /\ True;
 let q71 : Sp.Mk := Sp.nxM q61;
 let q72 : Prop := Sp.MkOK q0 q71;
 let q73 : Sp.Mk := Sp.nxM q71;
 let q74 : Prop := (q24 /\ q58 /\ q59 /\ q70) /\ (True /\ True /\ q25 /\ ((Sp.MkOK q0 q73 /\ Sp.has q73) /\ True /\ True /\ Sp.putM q73 (q19, q69, q57, q9, Sp.plD (Sp.nxM x), Sp.valV q71, q10) = Sp.instM x /\ q13) /\ True) /\ True /\ True;
 let q75 : Prop := (q24 /\ q58 /\ q59 /\ q24 /\ q70) /\ (q72 /\ True /\ q74) /\ q3;
 let q76 : Prop := q66 /\ True;
 let q77 : Bool := q29 == (13 : Int);
 let q78 : Int := Sp.plN (Sp.nxM x) true;
 let q79 : Prop := True /\ q78 = q78;
 let q80 : Prop := True /\ Sp.plD (Sp.nxM x) = Sp.plD (Sp.nxM x);
 let q81 : Prop := q80 /\ True;
 let q82 : Sp.Mk := Sp.plM (Sp.nxM x) true;
 let q83 : Prop := Sp.MkOK q0 q82;
 let q84 : Prop := q24 /\ q79 /\ q81;
 let q85 : Sp.Mk := Sp.nxM q82;
 let q86 : Prop := Sp.MkOK q0 q85 /\ Sp.has q85;
 ∀ (y : Unit), Sp.MkOK (4800 : Nat) x /\ Sp.has x -> dFact tMk x -> True -> ((True /\ True) /\ Sp.MkOK q0 x /\ q1 ≠ q2 /\ True /\ True) /\ q4 /\ (q30 = true -> (q3 /\ q31 /\ q6 ≠ q2 /\ inK IntKind.i64 q32 /\ q36) /\ Sp.putM q34 (q8, q32, q2, q38) = Sp.instM x /\ q13) /\ (q30 = false -> q4 /\ (q39 = true -> ((True /\ True) /\ q31 /\ q14 ≠ q2 /\ inK IntKind.i64 q40 /\ True /\ True) /\ (q16 /\ q44) /\ Sp.putM q43 (q5, q40, q2, q37, q45, q46, q10) = Sp.instM x /\ q13) /\ (q39 = false -> q4 /\ (q47 = true -> (q3 /\ q31 /\ q8 ≠ q2 /\ inK IntKind.i64 q48 /\ True /\ q33 /\ True /\ q35 /\ True /\ (q42 /\ Sp.has q41) /\ True) /\ Sp.putM q41 (q17, q48, q2, q37, q45, q11) = Sp.instM x /\ q13) /\ (q47 = false -> q4 /\ (q49 = true -> (q3 /\ q31 /\ True /\ q44) /\ Sp.putM q43 ((4 : Int), q2, q2, Sp.regV (Sp.nxM x), q50, q45, q46, ()) = Sp.instM x /\ q13) /\ (q49 = false -> q4 /\ (q51 = true -> (q3 /\ q31 /\ q36) /\ Sp.putM q34 (q7, q2, q2, Sp.regV (Sp.nxM x), q50, q11) = Sp.instM x /\ q13) /\ (q51 = false -> q4 /\ (q52 = true -> (q3 /\ q31 /\ q5 ≠ q2 /\ q36) /\ Sp.putM q34 (q20, q2, (Sp.nxV (Sp.nxM x)).tmod q5, q38) = Sp.instM x /\ q13) /\ (q52 = false -> q4 /\ (q53 = true -> (q3 /\ q31 /\ q17 ≠ q2 /\ inK IntKind.i64 q54 /\ True /\ (q33 /\ Sp.has (Sp.nxM (Sp.nxM x))) /\ True) /\ Sp.putM (Sp.nxM (Sp.nxM x)) (q15, q54, q2, q9, q12) = Sp.instM x /\ q13) /\ (q53 = false -> q4 /\ (q55 = true -> q56 /\ q22 /\ q60 /\ (True /\ True /\ q60 /\ (q62 /\ (q26 /\ q65) /\ q75) /\ q16) /\ (q62 /\ (q26 /\ True) /\ (q24 /\ q58 /\ q59 /\ q24 /\ q76) /\ (True /\ q65 /\ q75) /\ (q72 /\ True /\ (q24 /\ q58 /\ q59 /\ q76) /\ (True /\ q65 /\ q74) /\ q3) /\ q3) /\ q16) /\ (q55 = false -> q56 /\ q4 /\ (q77 = true -> q21 /\ (q24 /\ q79 /\ q24 /\ q81) /\ (q83 /\ True /\ q84 /\ (True /\ True /\ q25 /\ (q86 /\ True /\ True /\ Sp.putM q85 (q6, q2, q78, Sp.regV q82, Sp.plD (Sp.nxM x), q11) = Sp.instM x /\ q13) /\ True) /\ True /\ True) /\ q3) /\ (q77 = false -> q21 /\ (q24 /\ q79 /\ q80 /\ q25) /\ (q83 /\ True /\ q84 /\ (True /\ True /\ q25 /\ (q86 /\ True /\ True /\ Sp.putM q85 (q18, q2, q78, q9, Sp.plD (Sp.nxM x), Sp.valV q82, q10) = Sp.instM x /\ q13) /\ True) /\ True /\ True) /\ q3)))))))))) := by kernel_rfl
theorem vc52 : (∀ q : Nat, funP (C52 q) (stpS (C52 q)) S52 (L52 q) Try.f52) = (
let q0 : Int := (5 : Int);
let q1 : Int := (0 : Int);
let q2 : Int := (1 : Int);
∀ (q : Nat) (x : Sp.Mk) (y : Unit),
 Sp.MkOK (4500 : Nat) x /\ Sp.has x ->
 dFact tMk x ->
 True ->
 ((True /\ True) /\ Sp.MkOK (5000 : Nat) x /\ q0 ≠ q1 /\ True /\ True) /\
 (∃ (x_1 : Nat × Sp.Mk), (x_1.1 <= (4 : Nat) /\ Sp.MkOK ((4700 : Nat) - (10 : Nat) * x_1.1) x_1.2 /\ Sp.has x_1.2 /\ Sp.instN x_1.1 x_1.2 = Sp.insM x) /\ Sp.nxM x = x_1.2 /\ (Sp.nxV x).tmod q0 = (↑x_1.1 : Int) /\ True) /\
 ∀ (x_1 : Nat × Sp.Mk),
 let q3 : Int := (↑x_1.1 : Int);
 let q4 : Bool := decide (q3 > q1);
 let q5 : Int := q3 - q2;
 x_1.1 <= (4 : Nat) /\ Sp.MkOK ((4700 : Nat) - (10 : Nat) * x_1.1) x_1.2 /\ Sp.has x_1.2 /\ Sp.instN x_1.1 x_1.2 = Sp.insM x -> dFact tMk x_1.2 /\ dFact tI q3 /\ True -> ((True /\ True /\ True) /\ True) /\ (q4 = true -> ((True /\ True) /\ (Sp.MkOK (4800 : Nat) x_1.2 /\ Sp.has x_1.2) /\ True) /\ ((True /\ inK IntKind.i64 q5 /\ True /\ True) /\ True) /\ ∃ (y : Nat × Sp.Mk), (y.1 <= (4 : Nat) /\ Sp.MkOK ((4700 : Nat) - (10 : Nat) * y.1) y.2 /\ Sp.has y.2 /\ Sp.instN y.1 y.2 = Sp.insM x) /\ y.1 < x_1.1 /\ Sp.instM x_1.2 = y.2 /\ q5 = (↑y.1 : Int) /\ True) /\ (q4 = false -> x_1.2 = Sp.insM x /\ (([] : List Go.ResultVar)).toArray.toList = ([] : List Go.ResultVar) /\ Ty.unit = Ty.unit)) := by kernel_rfl
end Go.User
namespace Sp
theorem tmod_bd {a k : Int} (h0 : 0 <= a) (hk : 0 < k) : 0 <= a.tmod k /\ a.tmod k < k := by
 rw [Int.tmod_eq_emod_of_nonneg h0]
 exact ⟨Int.emod_nonneg _ (by omega), Int.emod_lt_of_pos _ hk⟩
theorem MkOK.pl {n : Nat} {s : Mk} (h : MkOK n s) (p : Bool) : MkOK (n + 4) (plM s p) := h.nx.nx.nx.put _
theorem MkOK.inst {n : Nat} {s : Mk} (h : MkOK n s) : MkOK (n + 10) (instM s) := by
 unfold instM instF
 have h1 := h.nx
 split
 ·exact (h1.nx.nx.put _).mono (by omega)
 split
 ·exact (h1.nx.nx.nx.nx.put _).mono (by omega)
 split
 ·exact (h1.nx.nx.nx.put _).mono (by omega)
 split
 ·exact (h1.nx.nx.nx.nx.put _).mono (by omega)
 split
 ·exact (h1.nx.nx.put _).mono (by omega)
 split
 ·exact (h1.nx.nx.put _).mono (by omega)
 split
 ·exact (h1.nx.put _).mono (by omega)
 split
 ·exact ((h1.pl false).nx.nx.put _).mono (by omega)
 split
 ·exact ((h1.pl true).nx.put _).mono (by omega)
 ·exact ((h1.pl true).nx.put _).mono (by omega)
theorem has.inst {s : Mk} (h : has s) : has (instM s) := by
 unfold instM instF
 have hp : ∀ p, has (plM (nxM s) p) := fun p => has.put (s := nxM (nxM (nxM (nxM s)))) h _
 split
 ·exact has.put (s := nxM (nxM (nxM s))) h _
 split
 ·exact has.put (s := nxM (nxM (nxM (nxM (nxM s))))) h _
 split
 ·exact has.put (s := nxM (nxM (nxM (nxM s)))) h _
 split
 ·exact has.put (s := nxM (nxM (nxM (nxM (nxM s))))) h _
 split
 ·exact has.put (s := nxM (nxM (nxM s))) h _
 split
 ·exact has.put (s := nxM (nxM (nxM s))) h _
 split
 ·exact has.put (s := nxM (nxM s)) h _
 split
 ·exact has.put (s := nxM (nxM (plM (nxM s) false))) (hp false) _
 split
 ·exact has.put (s := nxM (plM (nxM s) true)) (hp true) _
 ·exact has.put (s := nxM (plM (nxM s) true)) (hp true) _
end Sp
namespace Go.User
open Go.Lf Go.Proofs
theorem inK_ct (s : Sp.Mk) (hb : ∀ v ∈ s.1, 0 <= v /\ v <= 255) (c k : Int) (hc : 0 <= c /\ c <= 1000) (hk : 0 < k /\ k <= 1000) : inK .i64 (c + (Sp.nxV s).tmod k) := by
 have := Sp.tmod_bd (Sp.nxV_bd s hb).1 hk.1
 exact inK_mid (by omega) (by omega)
theorem inN_t (s : Sp.Mk) (hb : ∀ v ∈ s.1, 0 <= v /\ v <= 255) (k : Nat) (hk : 0 < k) : inN ((Sp.nxV s).tmod k) k := by
 have := Sp.tmod_bd (Sp.nxV_bd s hb).1 (k := k) (by omega)
 exact ⟨this.1, this.2⟩
theorem arr_len {s : Sp.Mk} {n : Nat} (h : Sp.MkOK n s) : s.2.2.1.2.2.2.2.2.1 = Sp.arrs := h.arr
theorem arrs_len (n : Int) : inK .i64 ((Sp.arrs.getD n.toNat ([], 0, 0, 0, ())).2.2.2.1 - 1) := by
 have : ∀ k : Nat, 0 <= (Sp.arrs.getD k ([], 0, 0, 0, ())).2.2.2.1 /\ (Sp.arrs.getD k ([], 0, 0, 0, ())).2.2.2.1 <= 8 := by
  intro k
  match k with
  | 0 => decide
  | 1 => decide
  | 2 => decide
  | 3 => decide
  | 4 => decide
  | k + 5 => exact ⟨Int.le_refl _, by show (0 : Int) <= 8; decide⟩
 have := this n.toNat
 exact inK_mid (by omega) (by omega)
theorem pk72 : POk Try.prog 72 S72 := by
 have hC : ∀ q, CtxOK Try.prog (C72 q) := fun q => okM' q (fns_cons ok55 fns_nil) (ptr_cons pk45 (ptr_cons pk50 (ptr_cons pk51 (ptr_cons pk66 ptrs_nil)))) rfl rfl rfl rfl rfl rfl
 refine POk.intro hC (fun q => stpS_ok (hC q)) Try.call72 Try.func72 (fun q => rfl) (by kernel_rfl) L72 ?_
 rw [vc72]
 simp only [zz, zy]
 intro x y hM hx hy
 have hb := bytes_of hx.1
 have ha := arr_len hM.1
 have k0 : Sp.MkOK 5000 x := hM.1.mono (by decide)
 have k1 : Sp.MkOK 5000 (Sp.nxM x) := hM.1.nx.mono (by decide)
 have k2 : Sp.MkOK 5000 (Sp.nxM (Sp.nxM x)) := hM.1.nx.nx.mono (by decide)
 have k3 : Sp.MkOK 5000 (Sp.nxM (Sp.nxM (Sp.nxM x))) := hM.1.nx.nx.nx.mono (by decide)
 have hh : Sp.has (Sp.nxM (Sp.nxM (Sp.nxM x))) := hM.2
 simp only [ha]
 have i0 : inN 0 Sp.arrs.length := ⟨by decide, by decide⟩
 have i1 : inN ((Sp.nxV x).tmod 5) Sp.arrs.length := inN_t x hb 5 (by decide)
 refine ⟨⟨k0, by decide⟩, fun h => ?_, fun h => ?_⟩
 ·have e : Sp.plN x y.1 = 0 := by unfold Sp.plN; rw [if_pos h]
  have E : ∀ A, A = Sp.putM (Sp.nxM (Sp.nxM (Sp.nxM x))) (Sp.i3 3 17 0 (Sp.regV (Sp.nxM x)) (Sp.valV (Sp.nxM (Sp.nxM x))) (Sp.conO (IntKind.wrap .i32 ((Sp.arrs.getD (Int.toNat 0) ([], 0, 0, 0, ())).2.2.2.1 - 1)))) -> A = Sp.plM x y.1 := by
   rintro A rfl
   unfold Sp.plM Sp.plI;rw [e]; rfl
  have E2 : ((0 : Int), Sp.regV (Sp.nxM x), ()) = (Sp.plN x y.1, Sp.plD x, ()) := by rw [e]; rfl
  repeat' first | assumption | exact arrs_len _ | exact E _ rfl | constructor
 ·have e : Sp.plN x y.1 = (Sp.nxV x).tmod 5 := by
   unfold Sp.plN;rw [if_neg];rintro ⟨h1, h2⟩;rw [h1, h2] at h; cases h
  have E : ∀ A, A = Sp.putM (Sp.nxM (Sp.nxM (Sp.nxM x))) (Sp.i3 3 17 0 (Sp.regV (Sp.nxM x)) (Sp.valV (Sp.nxM (Sp.nxM x))) (Sp.conO (IntKind.wrap .i32 ((Sp.arrs.getD ((Sp.nxV x).tmod 5).toNat ([], 0, 0, 0, ())).2.2.2.1 - 1)))) -> A = Sp.plM x y.1 := by
   rintro A rfl
   unfold Sp.plM Sp.plI;rw [e]; rfl
  have E2 : ((Sp.nxV x).tmod 5, Sp.regV (Sp.nxM x), ()) = (Sp.plN x y.1, Sp.plD x, ()) := by rw [e]; rfl
  repeat' first | assumption | exact arrs_len _ | exact E _ rfl | constructor
theorem pk67 : POk Try.prog 67 S67 := by
 have hC : ∀ q, CtxOK Try.prog (C67 q) := fun q => okM' q fns_nil (ptr_cons pk45 (ptr_cons pk50 (ptr_cons pk51 (ptr_cons pk66 (ptr_cons pk72 ptrs_nil))))) rfl rfl rfl rfl rfl rfl
 refine POk.intro hC (fun q => stpS_ok (hC q)) Try.call67 Try.func67 (fun q => rfl) (by kernel_rfl) L67 ?_
 rw [vc67]
 simp only [zz, zy]
 intro x hM hx
 have hb := bytes_of hx.1
 obtain ⟨hM, hh⟩ := hM
 have k0 : Sp.MkOK 5000 x := hM.mono (by decide)
 have m1 := hM.nx
 have k1 : Sp.MkOK 5000 (Sp.nxM x) := m1.mono (by decide)
 have k1' : Sp.MkOK 4900 (Sp.nxM x) := m1.mono (by decide)
 have k2 : Sp.MkOK 5000 (Sp.nxM (Sp.nxM x)) := m1.nx.mono (by decide)
 have k3 : Sp.MkOK 5000 (Sp.nxM (Sp.nxM (Sp.nxM x))) := m1.nx.nx.mono (by decide)
 have k4 : Sp.MkOK 5000 (Sp.nxM (Sp.nxM (Sp.nxM (Sp.nxM x)))) := m1.nx.nx.nx.mono (by decide)
 have k5 : Sp.MkOK 5000 (Sp.nxM (Sp.nxM (Sp.nxM (Sp.nxM (Sp.nxM x))))) := m1.nx.nx.nx.nx.mono (by decide)
 have p0 : ∀ p, Sp.MkOK 5000 (Sp.plM (Sp.nxM x) p) := fun p => (m1.pl p).mono (by decide)
 have p1 : ∀ p, Sp.MkOK 5000 (Sp.nxM (Sp.plM (Sp.nxM x) p)) := fun p => (m1.pl p).nx.mono (by decide)
 have p2 : ∀ p, Sp.MkOK 5000 (Sp.nxM (Sp.nxM (Sp.plM (Sp.nxM x) p))) := fun p => (m1.pl p).nx.nx.mono (by decide)
 have hp : ∀ p, Sp.has (Sp.plM (Sp.nxM x) p) := fun p => Sp.has.put (s := Sp.nxM (Sp.nxM (Sp.nxM (Sp.nxM x)))) hh _
 have hp1 : ∀ p, Sp.has (Sp.nxM (Sp.plM (Sp.nxM x) p)) := hp
 have hp2 : ∀ p, Sp.has (Sp.nxM (Sp.nxM (Sp.plM (Sp.nxM x) p))) := hp
 have h1 : Sp.has (Sp.nxM x) := hh
 have h2 : Sp.has (Sp.nxM (Sp.nxM x)) := hh
 have h3 : Sp.has (Sp.nxM (Sp.nxM (Sp.nxM x))) := hh
 have h4 : Sp.has (Sp.nxM (Sp.nxM (Sp.nxM (Sp.nxM x)))) := hh
 have h5 : Sp.has (Sp.nxM (Sp.nxM (Sp.nxM (Sp.nxM (Sp.nxM x))))) := hh
 have b1 : ∀ v ∈ (Sp.nxM x).1, 0 <= v /\ v <= 255 := hb
 have b2 : ∀ v ∈ (Sp.plM (Sp.nxM x) false).1, 0 <= v /\ v <= 255 := hb
 have c7 := inK_ct (Sp.nxM x) b1 1 7 (by decide) (by decide)
 have c20 := inK_ct (Sp.nxM x) b1 10 20 (by decide) (by decide)
 have c5 := inK_ct (Sp.nxM x) b1 1 5 (by decide) (by decide)
 have c2 := inK_ct (Sp.nxM x) b1 1 2 (by decide) (by decide)
 have n6 : inN ((Sp.nxV (Sp.plM (Sp.nxM x) false)).tmod 6) 6 := inN_t _ b2 6 (by decide)
 refine ⟨⟨k0, by decide⟩, fun g3 => ?_, fun g3 => ⟨fun g7 => ?_, fun g7 => ⟨fun e7 => ?_, fun e7 => ⟨fun e8 => ?_, fun e8 => ⟨fun e9 => ?_, fun e9 => ⟨fun e10 => ?_, fun e10 => ⟨fun e11 => ?_, fun e11 => ⟨fun e12 => ?_, fun e12 => ⟨⟨k1', h1⟩, fun e13 => ?_, fun e13 => ?_⟩⟩⟩⟩⟩⟩⟩⟩⟩
 ·have e : Sp.instM x = Sp.in0 (Sp.nxM x) := by unfold Sp.instM Sp.instF Sp.inK; rw [if_pos g3]
  have E : ∀ A, A = Sp.in0 (Sp.nxM x) -> A = Sp.instM x := fun A h => h.trans e.symm
  clear e
  repeat' first | assumption | exact hp1 _ | exact hp2 _ | exact p0 _ | exact p1 _ | exact p2 _ | decide | exact E _ rfl | constructor
 ·have e : Sp.instM x = Sp.in3 (Sp.nxM x) := by unfold Sp.instM Sp.instF Sp.inK; rw [if_neg (Int.not_lt.mpr g3), if_pos g7]
  have E : ∀ A, A = Sp.in3 (Sp.nxM x) -> A = Sp.instM x := fun A h => h.trans e.symm
  clear e
  repeat' first | assumption | exact hp1 _ | exact hp2 _ | exact p0 _ | exact p1 _ | exact p2 _ | decide | exact E _ rfl | constructor
 ·have e : Sp.instM x = Sp.in7 (Sp.nxM x) := by unfold Sp.instM Sp.instF Sp.inK; rw [if_neg (Int.not_lt.mpr g3), if_neg (Int.not_lt.mpr g7), if_pos e7]
  have E : ∀ A, A = Sp.in7 (Sp.nxM x) -> A = Sp.instM x := fun A h => h.trans e.symm
  clear e
  repeat' first | assumption | exact hp1 _ | exact hp2 _ | exact p0 _ | exact p1 _ | exact p2 _ | decide | exact E _ rfl | constructor
 ·have e : Sp.instM x = Sp.in8 (Sp.nxM x) := by unfold Sp.instM Sp.instF Sp.inK; rw [if_neg (Int.not_lt.mpr g3), if_neg (Int.not_lt.mpr g7), if_neg e7, if_pos e8]
  have E : ∀ A, A = Sp.in8 (Sp.nxM x) -> A = Sp.instM x := fun A h => h.trans e.symm
  clear e
  repeat' first | assumption | exact hp1 _ | exact hp2 _ | exact p0 _ | exact p1 _ | exact p2 _ | decide | exact E _ rfl | constructor
 ·have e : Sp.instM x = Sp.in9 (Sp.nxM x) := by unfold Sp.instM Sp.instF Sp.inK; rw [if_neg (Int.not_lt.mpr g3), if_neg (Int.not_lt.mpr g7), if_neg e7, if_neg e8, if_pos e9]
  have E : ∀ A, A = Sp.in9 (Sp.nxM x) -> A = Sp.instM x := fun A h => h.trans e.symm
  clear e
  repeat' first | assumption | exact hp1 _ | exact hp2 _ | exact p0 _ | exact p1 _ | exact p2 _ | decide | exact E _ rfl | constructor
 ·have e : Sp.instM x = Sp.in10 (Sp.nxM x) := by unfold Sp.instM Sp.instF Sp.inK; rw [if_neg (Int.not_lt.mpr g3), if_neg (Int.not_lt.mpr g7), if_neg e7, if_neg e8, if_neg e9, if_pos e10]
  have E : ∀ A, A = Sp.in10 (Sp.nxM x) -> A = Sp.instM x := fun A h => h.trans e.symm
  clear e
  repeat' first | assumption | exact hp1 _ | exact hp2 _ | exact p0 _ | exact p1 _ | exact p2 _ | decide | exact E _ rfl | constructor
 ·have e : Sp.instM x = Sp.in11 (Sp.nxM x) := by unfold Sp.instM Sp.instF Sp.inK; rw [if_neg (Int.not_lt.mpr g3), if_neg (Int.not_lt.mpr g7), if_neg e7, if_neg e8, if_neg e9, if_neg e10, if_pos e11]
  have E : ∀ A, A = Sp.in11 (Sp.nxM x) -> A = Sp.instM x := fun A h => h.trans e.symm
  clear e
  repeat' first | assumption | exact hp1 _ | exact hp2 _ | exact p0 _ | exact p1 _ | exact p2 _ | decide | exact E _ rfl | constructor
 ·have e : Sp.instM x = Sp.in12 (Sp.nxM x) := by unfold Sp.instM Sp.instF Sp.inK; rw [if_neg (Int.not_lt.mpr g3), if_neg (Int.not_lt.mpr g7), if_neg e7, if_neg e8, if_neg e9, if_neg e10, if_neg e11, if_pos e12]
  have E : ∀ A, A = Sp.in12 (Sp.nxM x) -> A = Sp.instM x := fun A h => h.trans e.symm
  clear e
  repeat' first | assumption | exact hp1 _ | exact hp2 _ | exact p0 _ | exact p1 _ | exact p2 _ | decide | exact E _ rfl | constructor
 ·have e : Sp.instM x = Sp.in13 (Sp.nxM x) := by unfold Sp.instM Sp.instF Sp.inK; rw [if_neg (Int.not_lt.mpr g3), if_neg (Int.not_lt.mpr g7), if_neg e7, if_neg e8, if_neg e9, if_neg e10, if_neg e11, if_neg e12, if_pos e13]
  have E : ∀ A, A = Sp.in13 (Sp.nxM x) -> A = Sp.instM x := fun A h => h.trans e.symm
  clear e
  repeat' first | assumption | exact hp1 _ | exact hp2 _ | exact p0 _ | exact p1 _ | exact p2 _ | decide | exact E _ rfl | constructor
 ·have e : Sp.instM x = Sp.in14 (Sp.nxM x) := by unfold Sp.instM Sp.instF Sp.inK; rw [if_neg (Int.not_lt.mpr g3), if_neg (Int.not_lt.mpr g7), if_neg e7, if_neg e8, if_neg e9, if_neg e10, if_neg e11, if_neg e12, if_neg e13]
  have E : ∀ A, A = Sp.in14 (Sp.nxM x) -> A = Sp.instM x := fun A h => h.trans e.symm
  clear e
  repeat' first | assumption | exact hp1 _ | exact hp2 _ | exact p0 _ | exact p1 _ | exact p2 _ | decide | exact E _ rfl | constructor
theorem pk52 : POk Try.prog 52 S52 := by
 have hC : ∀ q, CtxOK Try.prog (C52 q) := fun q => okM' q fns_nil (ptr_cons pk45 (ptr_cons pk67 ptrs_nil)) rfl rfl rfl rfl rfl rfl
 refine POk.intro hC (fun q => stpS_ok (hC q)) Try.call52 Try.func52 (fun q => rfl) (by kernel_rfl) L52 ?_
 rw [vc52]
 simp only [zz, zy]
 intro x hM hx
 have hb := bytes_of hx.1
 obtain ⟨hM, hh⟩ := hM
 have hv := Sp.tmod_bd (Sp.nxV_bd x hb).1 (k := 5) (by decide)
 refine ⟨⟨hM.mono (by decide), by decide⟩, ⟨(((Sp.nxV x).tmod 5).toNat, Sp.nxM x), ⟨by show (Int.toNat _) <= 4; omega, hM.nx.mono (by show 4501 <= 4700 - 10 * (Int.toNat _); omega), hh, rfl⟩, rfl, by show _ = ((Int.toNat _ : Nat) : Int); omega⟩, ?_⟩
 rintro ⟨k, t⟩ ⟨h1, h2, h3, h4⟩ _
 have h1 : k <= 4 := h1
 have h2 : Sp.MkOK (4700 - 10 * k) t := h2
 have h3 : Sp.has t := h3
 have h4 : Sp.instN k t = Sp.insM x := h4
 refine ⟨fun h5 => ⟨⟨h2.mono (by omega), h3⟩, inK_mid (by show _ <= (k : Int) - 1; omega) (by show (k : Int) - 1 <= _; omega), ⟨(k - 1, Sp.instM t), ⟨by show k - 1 <= 4; omega, h2.inst.mono (by show _ <= 4700 - 10 * (k - 1); have : (0 : Int) < k := h5; omega), h3.inst, ?_⟩, ?_, rfl, ?_⟩⟩, fun h5 => ?_⟩
 ·have : (0 : Int) < k := h5
  obtain ⟨m, rfl⟩ : ∃ m, k = m + 1 := ⟨k - 1, by omega⟩
  exact h4
 ·have : (0 : Int) < k := h5
  show k - 1 < k
  omega
 ·have : (0 : Int) < k := h5
  show (k : Int) - 1 = ((k - 1 : Nat) : Int)
  omega
 ·have : (k : Int) <= 0 := h5
  have : k = 0 := by omega
  subst this;exact h4
end Go.User
namespace Go.User
open Go Go.Proofs Go.RowKit Go.Lib Go.Lf
theorem drewN2 (w : World) (a b : Nat) : (w.drewN a).drewN b = w.drewN (a + b) := by
 simp [World.drewN, Nat.add_assoc]
set_option maxHeartbeats 1000000 in
set_option maxRecDepth 100000 in
theorem nx_walk0 (w w1 : World) (b n cap : Nat) (at0 : Int) (lp : Option Addr) (h0 : 0 <= at0) (h1 : at0 <= 5000)
  (c1 : w.cell? ⟨b, 1, none⟩ = some (.int .i64 at0)) (hf : w.frozen? ⟨b, 1, none⟩ = false)
  (hw : w.setCell ⟨b, 1, none⟩ (.int .i64 (at0 + 1)) = w1) (d0 : w1.cell? ⟨b, 0, none⟩ = some (.slice lp n cap)) (d1 : w1.cell? ⟨b, 1, none⟩ = some (.int .i64 (at0 + 1)))
  (hlt : (n : Int) < at0 + 1) : Calls Try.prog 45 #[.pointer (some ⟨b, 0, none⟩)] w fun e w' => e = .returned (.int .i64 0) /\ ∃ k, w' = w1.drewN k := by
 have hk : IntKind.wrap .i64 (at0 + 1) = at0 + 1 := inK_wrap (inK_mid (by omega) (by omega))
 go_enter Try.func45, Try.ntmps45
 go_wp2
 go_quiet (fail)
 go_wp2
 go_ret
 exact ⟨rfl, _, rfl⟩
set_option maxHeartbeats 1000000 in
set_option maxRecDepth 100000 in
theorem nx_walk1 (w w1 : World) (b n cap c o v : Nat) (at0 : Int) (h0 : 0 <= at0) (h1 : at0 <= 5000) (hn : n <= 9223372036854775807)
  (c1 : w.cell? ⟨b, 1, none⟩ = some (.int .i64 at0)) (hf : w.frozen? ⟨b, 1, none⟩ = false)
  (hw : w.setCell ⟨b, 1, none⟩ (.int .i64 (at0 + 1)) = w1) (d0 : ∀ k, (w1.drewN k).cell? ⟨b, 0, none⟩ = some (.slice (some ⟨c, o, none⟩) n cap)) (d1 : ∀ k, (w1.drewN k).cell? ⟨b, 1, none⟩ = some (.int .i64 (at0 + 1)))
  (d0' : w1.cell? ⟨b, 0, none⟩ = some (.slice (some ⟨c, o, none⟩) n cap)) (d1' : w1.cell? ⟨b, 1, none⟩ = some (.int .i64 (at0 + 1)))
  (hv : v <= 255) (hlt : ¬ (n : Int) < at0 + 1) (he : ∀ k, (w1.drewN k).cell? ⟨c, o + at0.toNat, none⟩ = some (.int .u8 v)) :
  Calls Try.prog 45 #[.pointer (some ⟨b, 0, none⟩)] w fun e w' => e = .returned (.int .i64 v) /\ ∃ k, w' = w1.drewN k := by
 have hk : IntKind.wrap .i64 (at0 + 1) = at0 + 1 := inK_wrap (inK_mid (by omega) (by omega))
 have hk2 : IntKind.wrap .i64 (at0 + 1 - 1) = at0 := by rw [Int.add_sub_cancel]; exact inK_wrap (inK_mid (by omega) (by omega))
 go_enter Try.func45, Try.ntmps45
 go_wp2
 go_quiet (fail)
 go_wp2
 go_quiet (fail)
 go_wp2
 go_ret
 exact ⟨rfl, _, drewN2 _ _ _⟩
theorem setCell_same {w : World} {b k : Nat} {row : Array Value} {T : TypeId} {v : Value} (h : w.heap[b]? = some (.cells row T (0, 0))) :
  (w.setCell ⟨b, k, none⟩ v).heap[b]? = some (.cells (row.setIfInBounds k v) T (0, 0)) := by
 simp [World.setCell, Array.getElem?_modify, h]
theorem setCell_other {w : World} {b c k : Nat} {v : Value} (h : c ≠ b) : (w.setCell ⟨b, k, none⟩ v).heap[c]? = w.heap[c]? := by
 simp [World.setCell, Array.getElem?_modify, Ne.symm h]
theorem cell_of {w : World} {b k : Nat} {row : Array Value} {T : TypeId} {fr : Nat × Nat} (h : w.heap[b]? = some (.cells row T fr)) : w.cell? ⟨b, k, none⟩ = row[k]? := by
 simp [World.cell?, h]
theorem store_int {w : World} {b k : Nat} {row : Array Value} {T : TypeId} {v0 : Value} {n : Int} (h : w.heap[b]? = some (.cells row T (0, 0))) (hk : row[k]? = some v0) :
  (storeVar 3 ⟨b, k, none⟩ (.int .i64 n)).run Try.prog w = .ok () (w.setCell ⟨b, k, none⟩ (.int .i64 n)) := by
 have hc : w.cell? ⟨b, k, none⟩ = some v0 := by rw [cell_of h, hk]
 have hf : w.frozen? ⟨b, k, none⟩ = false := by simp [World.frozen?, h]
 simp only [storeVar, sizeOf, Sem.run_bind, Sem.run_pure, Result.andThen]
 simp
 rw [if_pos (by rfl)]
 simp [storeCells, Value.cells, Sem.run_bind, Sem.run_pure, Result.andThen, hc, hf]
 rw [show (⟨b, k, none⟩ : Addr).add 0 = ⟨b, k, none⟩ from rfl]
 simp [store, Sem.run, hc, hf]
theorem nx_calls (w : World) (F : NSet) (b cap : Nat) (ao : Option Addr) (row : Array Value) (T : TypeId) (L : List Int) (at0 : Int) (h0 : 0 <= at0) (h1 : at0 <= 5000) (hn : L.length <= lim) (hF : ¬ F b)
  (hrow : w.heap[b]? = some (.cells row T (0, 0))) (r0 : row[0]? = some (.slice ao L.length cap)) (r1 : row[1]? = some (.int .i64 at0)) (hL : ∀ v ∈ L, 0 <= v /\ v <= 255)
  (ho : L = [] ∨ ∃ (c o : Nat) (rc : Array Value) (Tc : TypeId) (fr : Nat × Nat), ao = some ⟨c, o, none⟩ /\ F c /\ w.heap[c]? = some (.cells rc Tc fr) /\ ∀ i v, L[i]? = some v -> rc[o + i]? = some (.int .u8 v)) (C : Sp.Code) :
  Calls Try.prog 45 #[.pointer (some ⟨b, 0, none⟩)] w fun e w' => e = .returned (.int .i64 (Sp.nxV (L, at0, C, ()))) /\ ∃ k, w' = (w.setCell ⟨b, 1, none⟩ (.int .i64 (at0 + 1))).drewN k := by
 have hlt : 1 < row.size := by
  rcases Nat.lt_or_ge 1 row.size with h | h
  ·exact h
  ·rw [Array.getElem?_eq_none h] at r1; cases r1
 have c1 : w.cell? ⟨b, 1, none⟩ = some (.int .i64 at0) := by rw [cell_of hrow, r1]
 have hf : w.frozen? ⟨b, 1, none⟩ = false := by simp [World.frozen?, hrow]
 have hrow1 := setCell_same (k := 1) (v := .int .i64 (at0 + 1)) hrow
 have d0 : (w.setCell ⟨b, 1, none⟩ (.int .i64 (at0 + 1))).cell? ⟨b, 0, none⟩ = some (.slice ao L.length cap) := by
  rw [cell_of hrow1, Array.getElem?_setIfInBounds, if_neg (by omega), r0]
 have d1 : (w.setCell ⟨b, 1, none⟩ (.int .i64 (at0 + 1))).cell? ⟨b, 1, none⟩ = some (.int .i64 (at0 + 1)) := by
  rw [cell_of hrow1, Array.getElem?_setIfInBounds, if_pos rfl, if_pos hlt]
 by_cases hc : (L.length : Int) < at0 + 1
 ·have e : Sp.nxV (L, at0, C, ()) = 0 := by unfold Sp.nxV; rw [if_pos hc]
  rw [e];exact nx_walk0 w _ b L.length cap at0 ao h0 h1 c1 hf rfl d0 d1 hc
 ·have hi : at0.toNat < L.length := by omega
  rcases ho with rfl | ⟨c, o, rc, Tc, fr, rfl, hFc, hrc, hel⟩
  ·simp at hi
  have hb := hL (L[at0.toNat]) (List.getElem_mem hi)
  have he := hel at0.toNat _ (List.getElem?_eq_getElem hi)
  have e : Sp.nxV (L, at0, C, ()) = L[at0.toNat] := by
   unfold Sp.nxV;rw [if_neg hc];show L.getD at0.toNat 0 = _;rw [List.getD_eq_getElem?_getD, List.getElem?_eq_getElem hi]; rfl
  rw [e];obtain ⟨v, hv⟩ := Int.eq_ofNat_of_zero_le hb.1;rw [hv] at he hb ⊢;have hcb : c ≠ b := fun e => hF (e ▸ hFc)
  have hcell : (w.setCell ⟨b, 1, none⟩ (.int .i64 (at0 + 1))).cell? ⟨c, o + at0.toNat, none⟩ = some (.int .u8 v) := by
   rw [cell_of ((setCell_other hcb).trans hrc), he]
  rw [lim_eq] at hn;obtain ⟨w1, hw1⟩ : ∃ w1, w1 = w.setCell ⟨b, 1, none⟩ (.int .i64 (at0 + 1)) := ⟨_, rfl⟩;rw [<- hw1] at d0 d1 hcell ⊢;exact nx_walk1 w w1 b L.length cap c o v at0 h0 h1 (by omega) c1 hf hw1.symm (fun _ => d0) (fun _ => d1) d0 d1 (by omega) hc (fun _ => hcell)
def N45 : NSpec := { τ := tMk, m := mMk, T := 3, p := [.snd, .fst], res := tI, pre := fun s => Sp.MkOK 5000 s, num := fun s => s.2.1 + 1, out := fun s => Sp.nxV s }
theorem mk_cells {w : World} {F S0 : NSet} {b off : Nat} {cs : List Value} {x : tMk.den} (hp : PlOk F S0 w (.mem b 0) tMk.size cs) (hown : Own F w tMk mMk S0 cs x) (hloc : loc w [.snd, .fst] tMk (.mem b 0) = some (.int .i64, .mem b off)) :
  off = 1 /\ ¬ F b /\ List.length x.1 <= lim /\ ∃ (ao : Option Addr) (cap : Nat) (row : Array Value) (T : TypeId), w.heap[b]? = some (.cells row T (0, 0)) /\ row[0]? = some (.slice ao (List.length x.1) cap) /\ row[1]? = some (.int .i64 x.2.1) /\
   (x.1 = [] ∨ ∃ (c o : Nat) (rc : Array Value) (Tc : TypeId) (fr : Nat × Nat), ao = some ⟨c, o, none⟩ /\ F c /\ w.heap[c]? = some (.cells rc Tc fr) /\ ∀ i v, x.1[i]? = some v -> rc[o + i]? = some (.int .u8 v)) := by
 obtain ⟨L, at0, C, u⟩ := x
 obtain ⟨c1, c2, S1, S2, rfl, _, _, _, hL, h2⟩ := hown
 obtain ⟨c3, c4, S3, S4, rfl, _, _, _, hAt, h4⟩ := h2
 obtain ⟨ao, cap, rfl, g1, g2, hsl⟩ := hL
 obtain ⟨rfl, a1, a2⟩ := hAt
 obtain ⟨nS, nF, row, T, hrow, hsz, hseg⟩ := hp
 have hget : ∀ k, k < 2 -> row[k]? = ([Value.slice ao (List.length L) cap] ++ ([.int .i64 at0] ++ c4))[k]? := by
  intro k hk;rw [<- hseg];simp only [seg, List.drop_zero];have h2m : 2 <= tMk.size := by decide
  rw [List.getElem?_take, if_pos (by omega)]
  simp
 refine ⟨?_, nF, g2, ao, cap, row, T, hrow, hget 0 (by decide), hget 1 (by decide), ?_⟩
 ·simp only [loc, Place.part, Option.some.injEq, Prod.mk.injEq, Place.mem.injEq] at hloc
  have := hloc.2.2
  simp [Ty.size] at this
  omega
 ·rcases hsl with h | ⟨c, o, rc, Tc, fr, q1, q2, q3, q4, q5⟩
  ·exact .inl h
  ·refine .inr ⟨c, o, rc, Tc, fr, q1, q2, q3, fun i v hv => ?_⟩
   obtain ⟨q6, _⟩ := q5 i v hv;have hs : seg rc.toList (o + i * Ty.size tU8) (Ty.size tU8) = [.int .u8 v] := q6;have h1 : Ty.size tU8 = 1 := rfl;rw [h1, Nat.mul_one] at hs;have : (seg rc.toList (o + i) 1)[0]? = some (.int .u8 v) := by rw [hs]; rfl
   simpa [seg] using this
theorem nk45 : NOk Try.prog 45 N45 := by
 refine ⟨Try.call45, ?_⟩
 intro w F S0 b off cs x hb hF hS0 hp hown hpre hloc
 obtain ⟨hoff, nF, hlim, ao, cap, row, T, hrow, r0, r1, hel⟩ := mk_cells hp hown hloc
 subst hoff
 have hbs := bytes_of (hown.fact).1
 have hpre : Sp.MkOK 5000 x := hpre
 have h0 := hpre.at0
 have h1 := hpre.at1
 obtain ⟨L, at0, C, u⟩ := x
 have hk : ∀ z : Int, 0 <= z -> z <= 5000 -> inK .i64 (z + 1) := fun z _ _ => inK_mid (by omega) (by omega)
 refine ⟨hk at0 h0 h1, (nx_calls w F b cap ao row T L at0 h0 h1 hlim nF hrow r0 r1 hbs hel C).mono ?_⟩
 rintro e w' ⟨rfl, k, rfl⟩
 refine ⟨_, _, store_int hrow r1, ⟨rfl, rfl, rfl, Nat.le_refl _, fun _ _ => rfl⟩, rfl, [_], rfl, rfl, ?_⟩
 have := Sp.nxV_bd (L, at0, C, ()) hbs
 have b1 : (-9223372036854775808 : Int) <= Sp.nxV (L, at0, C, ()) := by omega
 have b2 : Sp.nxV (L, at0, C, ()) <= 9223372036854775807 := by omega
 exact ⟨b1, b2⟩
end Go.User
namespace Go.User
open Go Go.Proofs Go.RowKit Go.Lib Go.Lf
set_option maxHeartbeats 1000000 in
set_option maxRecDepth 100000 in
theorem reg_calls (w : World) (n : Int) : Calls Try.prog 54 #[.int .i64 n] w fun e w' => e = .returned (.agg #[.int .i64 2, .int .i64 n, .int .i32 0]) /\ ∃ row T, w' = w.alloc (.cells row T) := by
 go_enter Try.func54, Try.ntmps54
 go_wp2

 go_returns

 exact ⟨rfl, _, _, rfl⟩
set_option maxHeartbeats 1000000 in
set_option maxRecDepth 100000 in
theorem con_calls (w : World) (n : Int) : Calls Try.prog 55 #[.int .i32 n] w fun e w' => e = .returned (.agg #[.int .i64 1, .int .i64 0, .int .i32 n]) /\ ∃ row T, w' = w.alloc (.cells row T) := by
 go_enter Try.func55, Try.ntmps55
 go_wp2
 go_returns
 exact ⟨rfl, _, _, rfl⟩
def After (w : World) (b : Nat) (n : Int) (g : Nat) (row : Array Value) (w' : World) : Prop :=
 RowKit.Below w.heap.size (w.setCell ⟨b, 1, none⟩ (.int .i64 n)) w' /\ w'.heap[g]? = some (.cells row 45 (0, 0))
theorem own3 {W : World} {g : Nat} {x y z : Value} (h : W.heap[g]? = some (.cells #[x, y, z] 45 (0, 0))) (a b c : Value) :
  W.cell? ⟨g, 0, none⟩ = some x /\ W.frozen? ⟨g, 0, none⟩ = false /\ (W.setCell ⟨g, 0, none⟩ a).cell? ⟨g, 1, none⟩ = some y /\ (W.setCell ⟨g, 0, none⟩ a).frozen? ⟨g, 1, none⟩ = false /\
   ((W.setCell ⟨g, 0, none⟩ a).setCell ⟨g, 1, none⟩ b).cell? ⟨g, 2, none⟩ = some z /\ ((W.setCell ⟨g, 0, none⟩ a).setCell ⟨g, 1, none⟩ b).frozen? ⟨g, 2, none⟩ = false /\
   (((W.setCell ⟨g, 0, none⟩ a).setCell ⟨g, 1, none⟩ b).setCell ⟨g, 2, none⟩ c).heap[g]? = some (.cells #[a, b, c] 45 (0, 0)) := by
 have h1 := setCell_same (k := 0) (v := a) h
 have h2 := setCell_same (k := 1) (v := b) h1
 have h3 := setCell_same (k := 2) (v := c) h2
 exact ⟨by rw [cell_of h]; rfl, by simp [World.frozen?, h], by rw [cell_of h1]; rfl, by simp [World.frozen?, h1], by rw [cell_of h2]; rfl, by simp [World.frozen?, h2], h3⟩
theorem below3 {w w0 W : World} {g : Nat} (h : RowKit.Below w.heap.size w0 W) (hg : w.heap.size <= g) (a b c : Value) : RowKit.Below w.heap.size w0 (((W.setCell ⟨g, 0, none⟩ a).setCell ⟨g, 1, none⟩ b).setCell ⟨g, 2, none⟩ c) := by
 refine ⟨h.os, h.tape, h.output, ?_, fun k hk => ?_⟩
 ·simpa [World.setCell] using h.size
 ·have hne : k ≠ g := by omega
  rw [setCell_other hne, setCell_other hne, setCell_other hne];exact h.block k hk
set_option maxHeartbeats 1000000 in
set_option maxRecDepth 100000 in
theorem reg_walk (w : World) (b : Nat) (n : Int) (v : Int) (h0 : 0 <= v) (h1 : v <= 255)
  (H : ∀ (o : Array Value), Calls Try.prog 45 #[.pointer (some ⟨b, 0, none⟩)] (w.alloc (.cells o 45)) fun e w' => e = .returned (.int .i64 v) /\ After w b n w.heap.size o w')
  (H2 : ∀ (m : Int) (W : World), W.heap[w.heap.size]? = some (.cells #[.int .i64 0, .int .i64 0, .int .i32 0] 45 (0, 0)) -> RowKit.Below w.heap.size (w.setCell ⟨b, 1, none⟩ (.int .i64 n)) W -> Calls Try.prog 54 #[.int .i64 m] W fun e W' => e = .returned (.agg #[.int .i64 2, .int .i64 m, .int .i32 0]) /\
   W'.heap[w.heap.size]? = some (.cells #[.int .i64 0, .int .i64 0, .int .i32 0] 45 (0, 0)) /\ RowKit.Below w.heap.size (w.setCell ⟨b, 1, none⟩ (.int .i64 n)) W') :
  Calls Try.prog 50 #[.pointer (some ⟨b, 0, none⟩)] w fun e w' => e = .returned (.agg #[.int .i64 2, .int .i64 (v % 6), .int .i32 0]) /\ RowKit.Below w.heap.size (w.setCell ⟨b, 1, none⟩ (.int .i64 n)) w' := by
 have hk : IntKind.wrap .i64 (v % 6) = v % 6 := inK_wrap (inK_mid (by omega) (by omega))
 go_enter Try.func50, Try.ntmps50
 go_wp2_with (first | (go_at_call 45; refine (H _).mono ?_; rintro e w' ⟨rfl, hA, hB⟩) | (go_at_call 54; refine (H2 _ _ hB hA).mono ?_; rintro e W ⟨rfl, hB2, hA2⟩; obtain ⟨q0, q1, q2, q3, q4, q5, q6⟩ := own3 hB2 (.int .i64 2) (.int .i64 (v % 6)) (.int .i32 0)))
 refine bodyPost_ret (results_cell_row rfl _ _ w.heap.size 45 #[.int .i64 2, .int .i64 (v % 6), .int .i32 0] (0, 0) _ rfl q6 Try.underlying45 rfl rfl) rfl ?_
 exact ⟨rfl, below3 hA2 (Nat.le_refl _) _ _ _⟩
theorem alloc_keep {w : World} {o : Obj} {k : Nat} (h : k < w.heap.size) : (w.alloc o).heap[k]? = w.heap[k]? := heap_alloc_old w o h
theorem lt_of_some {w : World} {k : Nat} {o : Obj} (h : w.heap[k]? = some o) : k < w.heap.size := by
 rcases Nat.lt_or_ge k w.heap.size with h' | h'
 ·exact h'
 ·rw [Array.getElem?_eq_none h'] at h; cases h
theorem alloc_size (w : World) (o : Obj) : (w.alloc o).heap.size = w.heap.size + 1 := by
 show (w.heap.push o).size = _
 simp
theorem after_next {w : World} {F : NSet} {b cap : Nat} {ao : Option Addr} {row : Array Value} {T : TypeId} {L : List Int} {at0 : Int} (h0 : 0 <= at0) (h1 : at0 <= 5000) (hn : L.length <= lim) (hF : ¬ F b) (hFb : ∀ k, F k -> k < w.heap.size)
  (hrow : w.heap[b]? = some (.cells row T (0, 0))) (r0 : row[0]? = some (.slice ao L.length cap)) (r1 : row[1]? = some (.int .i64 at0)) (hL : ∀ v ∈ L, 0 <= v /\ v <= 255)
  (ho : L = [] ∨ ∃ (c o : Nat) (rc : Array Value) (Tc : TypeId) (fr : Nat × Nat), ao = some ⟨c, o, none⟩ /\ F c /\ w.heap[c]? = some (.cells rc Tc fr) /\ ∀ i v, L[i]? = some v -> rc[o + i]? = some (.int .u8 v)) (C : Sp.Code) (o : Array Value) :
  Calls Try.prog 45 #[.pointer (some ⟨b, 0, none⟩)] (w.alloc (.cells o 45)) fun e w' => e = .returned (.int .i64 (Sp.nxV (L, at0, C, ()))) /\ After w b (at0 + 1) w.heap.size o w' := by
 have hb := lt_of_some hrow
 have hrow' : (w.alloc (.cells o 45)).heap[b]? = some (.cells row T (0, 0)) := (alloc_keep hb).trans hrow
 refine (nx_calls (w.alloc (.cells o 45)) F b cap ao row T L at0 h0 h1 hn hF hrow' r0 r1 hL ?_ C).mono ?_
 ·rcases ho with h | ⟨c, o2, rc, Tc, fr, g1, g2, g3, g4⟩
  ·exact .inl h
  ·exact .inr ⟨c, o2, rc, Tc, fr, g1, g2, (alloc_keep (hFb c g2)).trans g3, g4⟩
 ·rintro e w' ⟨rfl, k, rfl⟩
  refine ⟨rfl, ⟨rfl, rfl, rfl, ?_, fun j hj => ?_⟩, ?_⟩
  ·show (w.setCell _ _).heap.size <= ((w.alloc _).setCell _ _).heap.size
   simp only [World.setCell, Array.size_modify];rw [alloc_size]; omega
  ·show ((w.alloc _).setCell _ _).heap[j]? = (w.setCell _ _).heap[j]?
   by_cases hjb : j = b
   ·subst hjb
    rw [setCell_same hrow', setCell_same hrow]
   ·rw [setCell_other hjb, setCell_other hjb, alloc_keep hj]
  ·show ((w.alloc _).setCell _ _).heap[w.heap.size]? = _
   rw [setCell_other (by omega)];exact heap_alloc_new w _
theorem after_new {w w0 W : World} {g : Nat} {o : Obj} (row : Obj) (h : W.heap[g]? = some o) (hs : w0.heap.size = w.heap.size) (hA : RowKit.Below w.heap.size w0 W) : (W.alloc row).heap[g]? = some o /\ RowKit.Below w.heap.size w0 (W.alloc row) := by
 have hg := lt_of_some h
 refine ⟨(alloc_keep hg).trans h, hA.os, hA.tape, hA.output, by rw [alloc_size]; have := hA.size; omega, fun k hk => ?_⟩
 have := hA.size
 rw [alloc_keep (by omega)]; exact hA.block k hk
theorem own_opd (F : NSet) (w : World) {k n v : Int} (h1 : inK .i64 k) (h2 : inK .i64 n) (h3 : inK .i32 v) : Own F w tOpd .shr none' [.int .i64 k, .int .i64 n, .int .i32 v] (k, n, v, ()) :=
 ⟨[_], [_, _], none', none', rfl, fun _ h => h, fun _ h => h, fun _ h => h.elim, ⟨rfl, h1⟩, [_], [_], none', none', rfl, fun _ h => h, fun _ h => h, fun _ h => h.elim, ⟨rfl, h2⟩, [_], [], none', none', rfl, fun _ h => h, fun _ h => h, fun _ h => h.elim, ⟨rfl, h3⟩, rfl⟩
def N50 : NSpec := { τ := tMk, m := mMk, T := 3, p := [.snd, .fst], res := tOpd, pre := fun s => Sp.MkOK 5000 s, num := fun s => s.2.1 + 1, out := fun s => Sp.regV s }
theorem nk50 : NOk Try.prog 50 N50 := by
 refine ⟨Try.call50, ?_⟩
 intro w F S0 b off cs x hb hF hS0 hp hown hpre hloc
 obtain ⟨hoff, nF, hlim, ao, cap, row, T, hrow, r0, r1, hel⟩ := mk_cells hp hown hloc
 subst hoff
 have hbs := bytes_of (hown.fact).1
 have hpre : Sp.MkOK 5000 x := hpre
 have h0 := hpre.at0
 have h1 := hpre.at1
 obtain ⟨L, at0, C, u⟩ := x
 have hk : ∀ z : Int, 0 <= z -> z <= 5000 -> inK .i64 (z + 1) := fun z _ _ => inK_mid (by omega) (by omega)
 have hv := Sp.nxV_bd (L, at0, C, ()) hbs
 refine ⟨hk at0 h0 h1, (reg_walk w b (at0 + 1) _ hv.1 hv.2 (fun o => after_next h0 h1 hlim nF hF hrow r0 r1 hbs hel C o) (fun m W hW hA => (reg_calls W m).mono ?_)).mono ?_⟩
 ·rintro e w' ⟨rfl, r, T', rfl⟩
  exact ⟨rfl, after_new _ hW (by simp [World.setCell]) hA⟩
 ·rintro e w' ⟨rfl, hB⟩
  refine ⟨_, _, store_int hrow r1, ⟨hB.os, hB.tape, hB.output, hB.size, fun k hk => hB.block k (by simpa [World.setCell] using hk)⟩, rfl, [_, _, _], rfl, ?_⟩
  have e1 : (Sp.nxV (L, at0, C, ())).tmod 6 = Sp.nxV (L, at0, C, ()) % 6 := Int.tmod_eq_emod_of_nonneg hv.1
  have e2 : N50.out (L, at0, C, u) = (2, Sp.nxV (L, at0, C, ()) % 6, 0, ()) := by
   show Sp.regV (L, at0, C, ()) = _
   unfold Sp.regV Sp.regO;rw [e1]
  rw [e2];exact own_opd F _ ⟨by decide, by decide⟩ (inK_mid (by omega) (by omega)) ⟨by decide, by decide⟩
set_option maxHeartbeats 1000000 in
set_option maxRecDepth 100000 in
theorem val_walk0 (w : World) (b : Nat) (n : Int) (v : Int) (h0 : 0 <= v) (h1 : v <= 255) (hc : (v % 3 == 0) = true)
  (H : ∀ (o : Array Value), Calls Try.prog 45 #[.pointer (some ⟨b, 0, none⟩)] (w.alloc (.cells o 45)) fun e w' => e = .returned (.int .i64 v) /\ After w b n w.heap.size o w')
  (H2 : ∀ (m : Int) (W : World), W.heap[w.heap.size]? = some (.cells #[.int .i64 0, .int .i64 0, .int .i32 0] 45 (0, 0)) -> RowKit.Below w.heap.size (w.setCell ⟨b, 1, none⟩ (.int .i64 n)) W -> Calls Try.prog 54 #[.int .i64 m] W fun e W' => e = .returned (.agg #[.int .i64 2, .int .i64 m, .int .i32 0]) /\
   W'.heap[w.heap.size]? = some (.cells #[.int .i64 0, .int .i64 0, .int .i32 0] 45 (0, 0)) /\ RowKit.Below w.heap.size (w.setCell ⟨b, 1, none⟩ (.int .i64 n)) W')
  (H3 : ∀ (m : Int) (W : World), W.heap[w.heap.size]? = some (.cells #[.int .i64 0, .int .i64 0, .int .i32 0] 45 (0, 0)) -> RowKit.Below w.heap.size (w.setCell ⟨b, 1, none⟩ (.int .i64 n)) W -> Calls Try.prog 55 #[.int .i32 m] W fun e W' => e = .returned (.agg #[.int .i64 1, .int .i64 0, .int .i32 m]) /\
   W'.heap[w.heap.size]? = some (.cells #[.int .i64 0, .int .i64 0, .int .i32 0] 45 (0, 0)) /\ RowKit.Below w.heap.size (w.setCell ⟨b, 1, none⟩ (.int .i64 n)) W') :
  Calls Try.prog 51 #[.pointer (some ⟨b, 0, none⟩)] w fun e w' => e = .returned (.agg #[.int .i64 1, .int .i64 0, .int .i32 (v / 3 - 20)]) /\ RowKit.Below w.heap.size (w.setCell ⟨b, 1, none⟩ (.int .i64 n)) w' := by
 have hk1 : IntKind.wrap .i64 (v / 3) = v / 3 := inK_wrap (inK_mid (by omega) (by omega))
 have hk2 : IntKind.wrap .i64 (v % 3) = v % 3 := inK_wrap (inK_mid (by omega) (by omega))
 have hk3 : IntKind.wrap .i64 (v / 3 % 6) = v / 3 % 6 := inK_wrap (inK_mid (by omega) (by omega))
 have hk4 : IntKind.wrap .i32 (v / 3) = v / 3 := inK_wrap (k := .i32) ⟨by show (-2147483648 : Int) <= _; omega, by show _ <= (2147483647 : Int); omega⟩
 have hk5 : IntKind.wrap .i32 (v / 3 - 20) = v / 3 - 20 := inK_wrap (k := .i32) ⟨by show (-2147483648 : Int) <= _; omega, by show _ <= (2147483647 : Int); omega⟩
 go_enter Try.func51, Try.ntmps51
 go_wp2_with (first | (go_at_call 45; refine (H _).mono ?_; rintro e w' ⟨rfl, hA, hB⟩) | (go_at_call 55; refine (H3 _ _ hB hA).mono ?_; rintro e W ⟨rfl, hB2, hA2⟩; obtain ⟨q0, q1, q2, q3, q4, q5, q6⟩ := own3 hB2 (.int .i64 1) (.int .i64 0) (.int .i32 (v / 3 - 20))))
 refine bodyPost_ret (results_cell_row rfl _ _ w.heap.size 45 #[.int .i64 1, .int .i64 0, .int .i32 (v / 3 - 20)] (0, 0) _ rfl q6 Try.underlying45 rfl rfl) rfl ?_
 exact ⟨rfl, below3 hA2 (Nat.le_refl _) _ _ _⟩
set_option maxHeartbeats 1000000 in
set_option maxRecDepth 100000 in
theorem val_walk1 (w : World) (b : Nat) (n : Int) (v : Int) (h0 : 0 <= v) (h1 : v <= 255) (hc : (v % 3 == 0) = false)
  (H : ∀ (o : Array Value), Calls Try.prog 45 #[.pointer (some ⟨b, 0, none⟩)] (w.alloc (.cells o 45)) fun e w' => e = .returned (.int .i64 v) /\ After w b n w.heap.size o w')
  (H2 : ∀ (m : Int) (W : World), W.heap[w.heap.size]? = some (.cells #[.int .i64 0, .int .i64 0, .int .i32 0] 45 (0, 0)) -> RowKit.Below w.heap.size (w.setCell ⟨b, 1, none⟩ (.int .i64 n)) W -> Calls Try.prog 54 #[.int .i64 m] W fun e W' => e = .returned (.agg #[.int .i64 2, .int .i64 m, .int .i32 0]) /\
   W'.heap[w.heap.size]? = some (.cells #[.int .i64 0, .int .i64 0, .int .i32 0] 45 (0, 0)) /\ RowKit.Below w.heap.size (w.setCell ⟨b, 1, none⟩ (.int .i64 n)) W')
  (H3 : ∀ (m : Int) (W : World), W.heap[w.heap.size]? = some (.cells #[.int .i64 0, .int .i64 0, .int .i32 0] 45 (0, 0)) -> RowKit.Below w.heap.size (w.setCell ⟨b, 1, none⟩ (.int .i64 n)) W -> Calls Try.prog 55 #[.int .i32 m] W fun e W' => e = .returned (.agg #[.int .i64 1, .int .i64 0, .int .i32 m]) /\
   W'.heap[w.heap.size]? = some (.cells #[.int .i64 0, .int .i64 0, .int .i32 0] 45 (0, 0)) /\ RowKit.Below w.heap.size (w.setCell ⟨b, 1, none⟩ (.int .i64 n)) W') :
  Calls Try.prog 51 #[.pointer (some ⟨b, 0, none⟩)] w fun e w' => e = .returned (.agg #[.int .i64 2, .int .i64 (v / 3 % 6), .int .i32 0]) /\ RowKit.Below w.heap.size (w.setCell ⟨b, 1, none⟩ (.int .i64 n)) w' := by
 have hk1 : IntKind.wrap .i64 (v / 3) = v / 3 := inK_wrap (inK_mid (by omega) (by omega))
 have hk2 : IntKind.wrap .i64 (v % 3) = v % 3 := inK_wrap (inK_mid (by omega) (by omega))
 have hk3 : IntKind.wrap .i64 (v / 3 % 6) = v / 3 % 6 := inK_wrap (inK_mid (by omega) (by omega))
 have hk4 : IntKind.wrap .i32 (v / 3) = v / 3 := inK_wrap (k := .i32) ⟨by show (-2147483648 : Int) <= _; omega, by show _ <= (2147483647 : Int); omega⟩
 have hk5 : IntKind.wrap .i32 (v / 3 - 20) = v / 3 - 20 := inK_wrap (k := .i32) ⟨by show (-2147483648 : Int) <= _; omega, by show _ <= (2147483647 : Int); omega⟩
 go_enter Try.func51, Try.ntmps51
 go_wp2_with (first | (go_at_call 45; refine (H _).mono ?_; rintro e w' ⟨rfl, hA, hB⟩) | (go_at_call 54; refine (H2 _ _ hB hA).mono ?_; rintro e W ⟨rfl, hB2, hA2⟩; obtain ⟨q0, q1, q2, q3, q4, q5, q6⟩ := own3 hB2 (.int .i64 2) (.int .i64 (v / 3 % 6)) (.int .i32 0)))
 refine bodyPost_ret (results_cell_row rfl _ _ w.heap.size 45 #[.int .i64 2, .int .i64 (v / 3 % 6), .int .i32 0] (0, 0) _ rfl q6 Try.underlying45 rfl rfl) rfl ?_
 exact ⟨rfl, below3 hA2 (Nat.le_refl _) _ _ _⟩
def N51 : NSpec := { τ := tMk, m := mMk, T := 3, p := [.snd, .fst], res := tOpd, pre := fun s => Sp.MkOK 5000 s, num := fun s => s.2.1 + 1, out := fun s => Sp.valV s }
theorem nk51 : NOk Try.prog 51 N51 := by
 refine ⟨Try.call51, ?_⟩
 intro w F S0 b off cs x hb hF hS0 hp hown hpre hloc
 obtain ⟨hoff, nF, hlim, ao, cap, row, T, hrow, r0, r1, hel⟩ := mk_cells hp hown hloc
 subst hoff
 have hbs := bytes_of (hown.fact).1
 have hpre : Sp.MkOK 5000 x := hpre
 have h0 := hpre.at0
 have h1 := hpre.at1
 obtain ⟨L, at0, C, u⟩ := x
 have hk : ∀ z : Int, 0 <= z -> z <= 5000 -> inK .i64 (z + 1) := fun z _ _ => inK_mid (by omega) (by omega)
 have hv := Sp.nxV_bd (L, at0, C, ()) hbs
 have e1 : (Sp.nxV (L, at0, C, ())).tmod 3 = Sp.nxV (L, at0, C, ()) % 3 := Int.tmod_eq_emod_of_nonneg hv.1
 have e2 : (Sp.nxV (L, at0, C, ())).tdiv 3 = Sp.nxV (L, at0, C, ()) / 3 := Int.tdiv_eq_ediv_of_nonneg hv.1
 have e3 : (Sp.nxV (L, at0, C, ()) / 3).tmod 6 = Sp.nxV (L, at0, C, ()) / 3 % 6 := Int.tmod_eq_emod_of_nonneg (by omega)
 have hst : ∀ {w' : World}, RowKit.Below w.heap.size (w.setCell ⟨b, 1, none⟩ (.int .i64 (at0 + 1))) w' -> RowKit.Below (w.setCell ⟨b, 1, none⟩ (.int .i64 (at0 + 1))).heap.size (w.setCell ⟨b, 1, none⟩ (.int .i64 (at0 + 1))) w' :=
  fun hB => ⟨hB.os, hB.tape, hB.output, hB.size, fun k hk => hB.block k (by simpa [World.setCell] using hk)⟩
 refine ⟨hk at0 h0 h1, ?_⟩
 have hO : N51.out (L, at0, C, u) = Sp.valV (L, at0, C, ()) := rfl
 by_cases hc : Sp.nxV (L, at0, C, ()) % 3 = 0
 ·refine (val_walk0 w b (at0 + 1) _ hv.1 hv.2 (by rw [hc]; rfl) (fun o => after_next h0 h1 hlim nF hF hrow r0 r1 hbs hel C o) (fun m W hW hA => (reg_calls W m).mono ?_) (fun m W hW hA => (con_calls W m).mono ?_)).mono ?_
  ·rintro e w' ⟨rfl, r, T', rfl⟩
   exact ⟨rfl, after_new _ hW (by simp [World.setCell]) hA⟩
  ·rintro e w' ⟨rfl, r, T', rfl⟩
   exact ⟨rfl, after_new _ hW (by simp [World.setCell]) hA⟩
  ·rintro e w' ⟨rfl, hB⟩
   refine ⟨_, _, store_int hrow r1, hst hB, rfl, [_, _, _], rfl, ?_⟩
   have k4 : IntKind.wrap .i32 (Sp.nxV (L, at0, C, ()) / 3) = Sp.nxV (L, at0, C, ()) / 3 := inK_wrap (k := .i32) ⟨by show (-2147483648 : Int) <= _; omega, by show _ <= (2147483647 : Int); omega⟩
   have k5 : IntKind.wrap .i32 (Sp.nxV (L, at0, C, ()) / 3 - 20) = Sp.nxV (L, at0, C, ()) / 3 - 20 := inK_wrap (k := .i32) ⟨by show (-2147483648 : Int) <= _; omega, by show _ <= (2147483647 : Int); omega⟩
   have e4 : N51.out (L, at0, C, u) = (1, 0, Sp.nxV (L, at0, C, ()) / 3 - 20, ()) := by
    rw [hO];unfold Sp.valV Sp.conO;rw [e1, if_pos hc, e2, k4, k5]
   rw [e4];exact own_opd F _ ⟨by decide, by decide⟩ ⟨by decide, by decide⟩ ⟨by show (-2147483648 : Int) <= _; omega, by show _ <= (2147483647 : Int); omega⟩
 ·refine (val_walk1 w b (at0 + 1) _ hv.1 hv.2 (by simpa using hc) (fun o => after_next h0 h1 hlim nF hF hrow r0 r1 hbs hel C o) (fun m W hW hA => (reg_calls W m).mono ?_) (fun m W hW hA => (con_calls W m).mono ?_)).mono ?_
  ·rintro e w' ⟨rfl, r, T', rfl⟩
   exact ⟨rfl, after_new _ hW (by simp [World.setCell]) hA⟩
  ·rintro e w' ⟨rfl, r, T', rfl⟩
   exact ⟨rfl, after_new _ hW (by simp [World.setCell]) hA⟩
  ·rintro e w' ⟨rfl, hB⟩
   refine ⟨_, _, store_int hrow r1, hst hB, rfl, [_, _, _], rfl, ?_⟩
   have e4 : N51.out (L, at0, C, u) = (2, Sp.nxV (L, at0, C, ()) / 3 % 6, 0, ()) := by
    rw [hO];unfold Sp.valV Sp.regO;rw [e1, if_neg hc, e2, e3]
   rw [e4];exact own_opd F _ ⟨by decide, by decide⟩ (inK_mid (by omega) (by omega)) ⟨by decide, by decide⟩
def nums14 : List (FuncId × NSpec) := [(45, N45), (50, N50), (51, N51)]
theorem nums_ok : ∀ f s, Lf.look nums14 f = some s -> NOk Try.prog f s := by
 intro f s hs
 unfold nums14 at hs
 simp only [Lf.look] at hs
 cases h1 : Nat.beq 45 f
 ·rw [h1] at hs
  simp only [cond_false] at hs;cases h2 : Nat.beq 50 f
  ·rw [h2] at hs
   simp only [cond_false] at hs;cases h3 : Nat.beq 51 f
   ·rw [h3] at hs; cases hs
   ·rw [h3] at hs
    have := Nat.eq_of_beq_eq_true h3
    simp only [cond_true, Option.some.injEq] at hs;rw [<- this, <- hs]; exact nk51
  ·rw [h2] at hs
   have := Nat.eq_of_beq_eq_true h2
   simp only [cond_true, Option.some.injEq] at hs;rw [<- this, <- hs]; exact nk50
 ·rw [h1] at hs
  have := Nat.eq_of_beq_eq_true h1
  simp only [cond_true, Option.some.injEq] at hs;rw [<- this, <- hs]; exact nk45
end Go.User
namespace Go.Lf

def wpK (C : Ctx) (stp : St -> Oper -> Option (Prop × St)) (L : List LoopI) : List (Option LoopI) -> Code -> Nat -> St -> (St -> Prop) -> (Nat -> St -> Prop) -> (St -> Prop) -> Prop
 | some l :: fl, .seq a b, k, st, Qn, Qx, Qr => wpI C stp L a k st (fun st' => (∃ x, l.inv x /\ atX l (frzA st' l.frz) x (frzA st' l.frz)) /\ ∀ x, l.inv x -> factsL (l.ovr x) [] -> wpK C stp L fl b (k + nl a) (stx l (frzA st' l.frz) x) Qn Qx Qr) Qx Qr
 | none :: fl, .seq a b, k, st, Qn, Qx, Qr => wpI C stp L a k st (fun st' => wpK C stp L fl b (k + nl a) st' Qn Qx Qr) Qx Qr
 | [], c, k, st, Qn, Qx, Qr => wpI C stp L c k st Qn Qx Qr
 | _, _, _, _, _, _, _ => False

def funPK (C : Ctx) (stp : St -> Oper -> Option (Prop × St)) (s : PSpec) (L : s.τ.den -> kdens s.args -> List LoopI) (K : s.τ.den -> kdens s.args -> List (Option LoopI)) (fn : Func) : Prop :=
 match fn.body with
 | some c => ∀ x y, s.pre x y -> dFact s.τ x -> factsK s.args y -> wpK C stp (L x y) (K x y) c 0 (ofL ((0, .box s.τ s.m x) :: argsEnt s.args y 1)) (retPP C s fn.results.toList (s.fn x y) (s.out x y)) (fun _ _ => False) (retPP C s fn.results.toList (s.fn x y) (s.out x y))
 | none => False
section
variable {P : Program} {C : Ctx} {w0 : World} {F0 H : NSet}

theorem wpK_ok (hC : CtxOK P C) {stp : St -> Oper -> Option (Prop × St)} (hstp : StpOK P C stp) {L : List LoopI} :
  ∀ (fl : List (Option LoopI)) (c : Code) {k : Nat} {st : St} {Qn : St -> Prop} {Qx : Nat -> St -> Prop} {Qr : St -> Prop} {Q : Exit -> Act -> World -> Prop} {a : Act} {w : World}, wpK C stp L fl c k st Qn Qx Qr -> Inv P C.np w0 F0 H st a w ->
   (∀ st a w, Qn st -> Inv P C.np w0 F0 H st a w -> Q .normal a w) -> (∀ i st a w, Qx i st -> Inv P C.np w0 F0 H st a w -> Q (.exit i) a w) -> (∀ st a w, Qr st -> Inv P C.np w0 F0 H st a w -> Q .ret a w) -> c.wp P Q a w
 | [], c, k, st, Qn, Qx, Qr, Q, a, w, h, hi, hn, hx, hr => by
  simp only [wpK] at h;exact wpI_ok hC hstp c h hi hn hx hr
 | none :: fl, c, k, st, Qn, Qx, Qr, Q, a, w, h, hi, hn, hx, hr => by
  cases c with
  | seq x y =>
   simp only [wpK] at h;refine wp_seq (wpI_ok hC hstp x h hi ?_ ?_ ?_)
   ·intro st1 a1 w1 h1 hi1
    exact wpK_ok hC hstp fl y h1 hi1 hn hx hr
   ·exact hx
   ·exact hr
  | _ => simp [wpK] at h
 | some l :: fl, c, k, st, Qn, Qx, Qr, Q, a, w, h, hi, hn, hx, hr => by
  cases c with
  | seq x y =>
   simp only [wpK] at h;refine wp_seq (wpI_ok hC hstp x h hi ?_ ?_ ?_)
   ·intro st1 a1 w1 h1 hi1
    obtain ⟨⟨z, g1, g2⟩, h3⟩ := h1;have hi2 := atX_ok g2 (frzA_ok (l := l.frz) hi1);exact wpK_ok hC hstp fl y (h3 z g1 (factsL_ok hi2 (f := l.ovr z) (fun t e h => by simp only [stx, h]) (l.ovr z) [] (fun t e _ h => h))) hi2 hn hx hr
   ·exact hx
   ·exact hr
  | _ => simp [wpK] at h

theorem POk.introQK {q : Nat} (hC : CtxOK P C) {stp : St -> Oper -> Option (Prop × St)} (hstp : StpOK P C stp) {f : FuncId} {s : PSpec} {fn : Func} (hdef : FnDef P f) (hf : P.funcs[f]? = some fn)
  (hN : C.np = ⟨fn.ntmps, some 0, q, 0⟩) (hlen : Nat.ble (s.args.length + 1) fn.ntmps = true) (L : s.τ.den -> kdens s.args -> List LoopI) (K : s.τ.den -> kdens s.args -> List (Option LoopI)) (h : funPK C stp s L K fn) : POk P f s (some q) := by
 refine ⟨hdef, ?_⟩
 intro w F S0 b cs x vs y hq hb hF hS0 h1 h2 ha hpre
 have hq := hq q rfl
 subst hq
 unfold funPK at h
 split at h
 ·rename_i c hbd
  have hl := ArgsOK.len ha
  have hlen' : s.args.length + 1 <= fn.ntmps := Nat.le_of_ble_eq_true hlen
  have hst := Inv0.startP (P := P) (n := fn.ntmps) hb hF hS0 h1 h2 ha (by omega)
  rw [<- hN] at hst;refine calls_of_wp hf hbd ?_;have hend : ∀ st a w', retPP C s fn.results.toList (s.fn x y) (s.out x y) st -> Inv P C.np w F (fun k => S0 k ∨ k = b) st a w' -> bodyPost P fn (PPost F S0 w b s x y) .normal a w' := by
   intro st a w' hq hi;have hqq : C.np.q = b := by rw [hN]
   have := retPP_ok (N := C.np) hC (by rw [hN]) (x := x) (y := y) (S0 := S0) (by rw [hqq]) hq hi
   rwa [hqq] at this
  refine wpK_ok hC hstp (K x y) c (h x y hpre h2.fact (factsK_ok ha)) ⟨F, _, by simpa using hst⟩ ?_ (fun _ _ _ _ h => h.elim) ?_
  ·intro st a w' hq hi
   exact hend st a w' hq hi
  ·intro st a w' hq hi
   exact hend st a w' hq hi
 ·cases h
theorem POk.introK {C : Nat -> Ctx} (hC : ∀ q, CtxOK P (C q)) {stp : Nat -> St -> Oper -> Option (Prop × St)} (hstp : ∀ q, StpOK P (C q) (stp q)) {f : FuncId} {s : PSpec} {fn : Func} (hdef : FnDef P f) (hf : P.funcs[f]? = some fn)
  (hN : ∀ q, (C q).np = ⟨fn.ntmps, some 0, q, 0⟩) (hlen : Nat.ble (s.args.length + 1) fn.ntmps = true) (L : Nat -> s.τ.den -> kdens s.args -> List LoopI) (K : Nat -> s.τ.den -> kdens s.args -> List (Option LoopI)) (h : ∀ q, funPK (C q) (stp q) s (L q) (K q) fn) : POk P f s :=
 POk.all fun q => POk.introQK (hC q) (hstp q) hdef hf (hN q) hlen (L q) (K q) (h q)
end
end Go.Lf
namespace Sp
def setR (c : Code) (n : Int) : Code := (c.1, c.2.1, n, c.2.2.2)
def setL (c : Code) (l : List Loop) : Code := (c.1, c.2.1, c.2.2.1, c.2.2.2.1, c.2.2.2.2.1, c.2.2.2.2.2.1, l, c.2.2.2.2.2.2.2)
def wR (s : Mk) (n : Int) : Mk := (s.1, s.2.1, setR s.2.2.1 n, ())
def wL (s : Mk) (l : Loop) : Mk := (s.1, s.2.1, setL s.2.2.1 (cL s.2.2.1 ++ [l]), ())
def setT (B : List Block) (b : Int) (t : Term) : List Block := B.set b.toNat ((B.getD b.toNat blk0).1, t, (B.getD b.toNat blk0).2.2)
def wT (s : Mk) (b : Int) (t : Term) : Mk := wB s (setT (cB s.2.2.1) b t)
def nB (s : Mk) : Int := ((cB s.2.2.1).length : Int)
def tJ (k : Int) (a b : Int) : Term := (k, 0, opd0, opd0, opd0, [a, b], ())
def tB (o : Opd) (a b : Int) : Term := (2, 0, opd0, o, opd0, [a, b], ())
def lpN (s : Mk) : Int := 6 + 2 * ((cL s.2.2.1).length : Int)
def lpB (s : Mk) : Int := 1 + Int.tmod (nxV s) 3
def lp1 (s : Mk) : Mk := putM (wR (nxM s) (lpN s + 2)) (i3 1 0 0 (regO (lpN s)) (conO 0) opd0)
def lp2 (s : Mk) : Mk := blkM (wL (wT (lp1 s) (nB s - 1) (tJ 1 (nB s) 0)) (nB s, lpN s, lpB s, ()))
def lp3 (s : Mk) : Mk := putM (lp2 s) (i3 3 26 0 (regO (lpN s + 1)) (regO (lpN s)) (conO (Go.IntKind.wrap .i32 (lpB s))))
def lp4 (s : Mk) : Mk := blkM (wT (lp3 s) (nB s) (tB (regO (lpN s + 1)) (nB s + 1) (nB s + 2)))
def lp5 (s : Mk) : Mk := insM (putM (lp4 s) (i3 3 10 0 (regO (lpN s)) (regO (lpN s)) (conO 1)))
def lp6 (s : Mk) : Mk := wT (lp5 s) (nB s + 1) (tJ 1 (nB s) 0)
def lpM (s : Mk) : Mk := if Int.tmod (nxV (lp6 s)) 3 = 0 then wT (nxM (nxM (lp6 s))) (nB s + 1) (tB (regV (nxM (lp6 s))) (nB s) (nB s + 2)) else nxM (lp6 s)
end Sp
namespace Go.User
open Go.Lf
def S48 : PSpec := { τ := tMk, m := mMk, pre := fun s _ => Sp.MkOK 4000 s /\ Sp.has s, fn := fun s y => Sp.lpM s, out := fun _ _ => () }
def C48 (q : Nat) : Ctx := { mkM 136 q [(54, S54), (55, S55)] [(66, S66), (49, S49), (52, S52)] with mds := [(57, .own .shr)] }
def L48 (q : Nat) (x : S48.τ.den) (y : kdens S48.args) : List LoopI := []
def cut48 (keep : List Nat) (x : Sp.Mk) (o : List (Nat × Ent)) : Option LoopI := some { ι := Unit, inv := fun _ => True, dec := fun _ => 0, ovr := fun _ => (0, .box tMk mMk x) :: o, keep := keep }
def K48 (q : Nat) (x : S48.τ.den) (y : kdens S48.args) : List (Option LoopI) :=
 let n := Ent.shr tI (Sp.lpN x)
 let b := Ent.shr tI (Sp.lpB x)
 let h := Ent.shr tI (Sp.nB x)
 [none, cut48 [] (Sp.nxM x) [(2, n), (3, b)], cut48 [] (Sp.wR (Sp.nxM x) (Sp.lpN x + 2)) [(2, n), (3, b)], cut48 [] (Sp.wR (Sp.nxM x) (Sp.lpN x + 2)) [(2, n), (3, b), (4, h)], cut48 [] (Sp.lp1 x) [(2, n), (3, b), (4, h)],
  cut48 [] (Sp.wT (Sp.lp1 x) (Sp.nB x - 1) (Sp.tJ 1 (Sp.nB x) 0)) [(2, n), (3, b), (4, h)], none, cut48 [] (Sp.lp2 x) [(2, n), (3, b), (4, h)], cut48 [] (Sp.lp3 x) [(2, n), (3, b), (4, h)], none, cut48 [] (Sp.lp4 x) [(2, n), (3, b), (4, h)], none, cut48 [] (Sp.lp5 x) [(2, n), (3, b), (4, h)], cut48 [] (Sp.lp6 x) [(2, n), (3, b), (4, h)]]
end Go.User
