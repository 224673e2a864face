/- The types of the seat, and that the program has them. The laws of the segments: what all need. Strictly increasing lists of numbers; the segments of words. How many different (array, segment) pairs there are: array by array. How many ones a number has: the sums of fields twice as wide. Segments: the reference's small functions: what they compute. Segments: more of the reference: what it computes. Segments: the reference's bound and moves, words, the number of ones: what they compute. Segments: the program's functions: what they compute. Segments: the laws: what they compute. Written by gen.py: what is left to show of each function. Written by gen.py: what is left to show of each function. Written by gen.py: what is left to show of each function. Written by gen.py: what is left to show of each function. Plain facts about lists, places, numbers: free of any seat. Segments: the reference's small functions compute what they should. Segments: more of the reference computes what it should. How many ones a number has: fields without carry; the steps of the count. -/
import Derived.Test.YtghhmompjooecaaDoorLfh
import Derived.KernelRfl
import Derived.Test.YtghhmompjooecaaDoorProg
import Derived.Test.YtghhmompjooecaaDoorRows
import Derived.Test.YtghhmompjooecaaDoorTie
import Derived.Test.YtghhmompjooecaaDoorCards
import Derived.ProofKit
import Derived.LaidMore
import Derived.OpenShut
import Derived.Stop.Joined
set_option linter.unusedVariables false
set_option linter.unusedSimpArgs false
namespace Sp
abbrev Raw := Bool × Int × Int × Int × Int × Int × Int × Bool × Unit
abbrev Span := Int × Int × Int × Unit
abbrev Form := Bool × Int × Int × Int × Span × Unit
abbrev Arr := List UInt8 × Int × Int × Int × Unit
abbrev Ev := Int × Int × Int × Int × Int × Int × Int × Int × Int × Unit
end Sp
namespace Go.User
open Go.Lf Go.Proofs
abbrev tI : Ty := .int .i64
abbrev tSpan : Ty := .prod tI (.prod tI (.prod tI .unit))
abbrev tForm : Ty := .prod .bool (.prod tI (.prod tI (.prod tI (.prod tSpan .unit))))
abbrev tArr : Ty := .prod .str (.prod tI (.prod tI (.prod tI .unit)))
abbrev tEv : Ty := .prod tI (.prod tI (.prod tI (.prod tI (.prod tI (.prod tI (.prod tI (.prod tI (.prod (.int .i32) .unit))))))))
abbrev tRaw : Ty := .prod .bool (.prod (.int .i16) (.prod (.int .i16) (.prod (.int .i16) (.prod (.int .i32) (.prod (.int .u16) (.prod (.int .u16) (.prod .bool .unit)))))))
end Go.User
namespace Go.User
open Go.Lf Go.Proofs
def tysQ (q : Nat) : List (TypeId × Ty) := [(2, tI), (3, tI), (4, .bool), (5, .int .u8), (9, .str), (21, .int .i32), (22, .slice tI), (23, .slice tEv), (24, .int .i16), (25, .int .u16), (26, tRaw), (27, tRaw), (29, .slice tArr), (30, tArr), (31, tArr), (32, tSpan), (33, tSpan), (34, tForm), (35, tForm), (38, .int .u64), (44, .slice (.arr 3 (.int .u8))), (45, .slice (.slice tI)), (46, tEv), (47, tEv), (49, .arr 3 (.int .u8)), (51, .arr 3 tI), (52, .slice (.int .u16)), (53, .slice tI), (60, .int .u64), (74, .arr 2 tI), (93, .int .u32)]
def eqs : List TypeId := []

theorem rows_all {P : Program} {tys0 : List (TypeId × Ty)} : ∀ (l : List (TypeId × Ty)), (∀ x ∈ l, RowOK P tys0 x.1 x.2) -> ∀ T τ, Lf.look l T = some τ -> RowOK P tys0 T τ
 | [], _, T, τ, h => by cases h
 | x :: l, h, T, τ, hl => by
  simp only [Lf.look] at hl;cases hb : Nat.beq x.1 T
  ·rw [hb] at hl; exact rows_all l (fun y hy => h y (by simp [hy])) T τ hl
  ·rw [hb] at hl
   have := Nat.eq_of_beq_eq_true hb
   simp only [cond_true, Option.some.injEq] at hl;rw [<- this, <- hl]; exact h x (by simp)
theorem row2 (q : Nat) : RowOK Tryd.prog (tysQ q) 2 (tI) := ⟨Tryd.t2, _, by kernel_rfl, Tryd.underlying2, by kernel_rfl, by decide, by kernel_rfl, by kernel_rfl⟩
theorem row3 (q : Nat) : RowOK Tryd.prog (tysQ q) 3 (tI) := ⟨Tryd.t3, _, by kernel_rfl, Tryd.underlying3, by kernel_rfl, by decide, by kernel_rfl, by kernel_rfl⟩
theorem row4 (q : Nat) : RowOK Tryd.prog (tysQ q) 4 (.bool) := ⟨Tryd.t4, _, by kernel_rfl, Tryd.underlying4, by kernel_rfl, by decide, by kernel_rfl, by kernel_rfl⟩
theorem row5 (q : Nat) : RowOK Tryd.prog (tysQ q) 5 (.int .u8) := ⟨Tryd.t5, _, by kernel_rfl, Tryd.underlying5, by kernel_rfl, by decide, by kernel_rfl, by kernel_rfl⟩
theorem row9 (q : Nat) : RowOK Tryd.prog (tysQ q) 9 (.str) := ⟨Tryd.t9, _, by kernel_rfl, Tryd.underlying9, by kernel_rfl, by decide, by kernel_rfl, by kernel_rfl⟩
theorem row21 (q : Nat) : RowOK Tryd.prog (tysQ q) 21 (.int .i32) := ⟨Tryd.t21, _, by kernel_rfl, Tryd.underlying21, by kernel_rfl, by decide, by kernel_rfl, by kernel_rfl⟩
theorem row22 (q : Nat) : RowOK Tryd.prog (tysQ q) 22 (.slice tI) := ⟨Tryd.t22, _, by kernel_rfl, Tryd.underlying22, by kernel_rfl, by decide, by kernel_rfl, by kernel_rfl⟩
theorem row23 (q : Nat) : RowOK Tryd.prog (tysQ q) 23 (.slice tEv) := ⟨Tryd.t23, _, by kernel_rfl, Tryd.underlying23, by kernel_rfl, by decide, by kernel_rfl, by kernel_rfl⟩
theorem row24 (q : Nat) : RowOK Tryd.prog (tysQ q) 24 (.int .i16) := ⟨Tryd.t24, _, by kernel_rfl, Tryd.underlying24, by kernel_rfl, by decide, by kernel_rfl, by kernel_rfl⟩
theorem row25 (q : Nat) : RowOK Tryd.prog (tysQ q) 25 (.int .u16) := ⟨Tryd.t25, _, by kernel_rfl, Tryd.underlying25, by kernel_rfl, by decide, by kernel_rfl, by kernel_rfl⟩
theorem row26 (q : Nat) : RowOK Tryd.prog (tysQ q) 26 (tRaw) := ⟨Tryd.t26, _, by kernel_rfl, Tryd.underlying26, by kernel_rfl, by decide, by kernel_rfl, by kernel_rfl⟩
theorem row27 (q : Nat) : RowOK Tryd.prog (tysQ q) 27 (tRaw) := ⟨Tryd.t27, _, by kernel_rfl, Tryd.underlying27, by kernel_rfl, by decide, by kernel_rfl, by kernel_rfl⟩
theorem row29 (q : Nat) : RowOK Tryd.prog (tysQ q) 29 (.slice tArr) := ⟨Tryd.t29, _, by kernel_rfl, Tryd.underlying29, by kernel_rfl, by decide, by kernel_rfl, by kernel_rfl⟩
theorem row30 (q : Nat) : RowOK Tryd.prog (tysQ q) 30 (tArr) := ⟨Tryd.t30, _, by kernel_rfl, Tryd.underlying30, by kernel_rfl, by decide, by kernel_rfl, by kernel_rfl⟩
theorem row31 (q : Nat) : RowOK Tryd.prog (tysQ q) 31 (tArr) := ⟨Tryd.t31, _, by kernel_rfl, Tryd.underlying31, by kernel_rfl, by decide, by kernel_rfl, by kernel_rfl⟩
theorem row32 (q : Nat) : RowOK Tryd.prog (tysQ q) 32 (tSpan) := ⟨Tryd.t32, _, by kernel_rfl, Tryd.underlying32, by kernel_rfl, by decide, by kernel_rfl, by kernel_rfl⟩
theorem row33 (q : Nat) : RowOK Tryd.prog (tysQ q) 33 (tSpan) := ⟨Tryd.t33, _, by kernel_rfl, Tryd.underlying33, by kernel_rfl, by decide, by kernel_rfl, by kernel_rfl⟩
theorem row34 (q : Nat) : RowOK Tryd.prog (tysQ q) 34 (tForm) := ⟨Tryd.t34, _, by kernel_rfl, Tryd.underlying34, by kernel_rfl, by decide, by kernel_rfl, by kernel_rfl⟩
theorem row35 (q : Nat) : RowOK Tryd.prog (tysQ q) 35 (tForm) := ⟨Tryd.t35, _, by kernel_rfl, Tryd.underlying35, by kernel_rfl, by decide, by kernel_rfl, by kernel_rfl⟩
theorem row38 (q : Nat) : RowOK Tryd.prog (tysQ q) 38 (.int .u64) := ⟨Tryd.t38, _, by kernel_rfl, Tryd.underlying38, by kernel_rfl, by decide, by kernel_rfl, by kernel_rfl⟩
theorem row44 (q : Nat) : RowOK Tryd.prog (tysQ q) 44 (.slice (.arr 3 (.int .u8))) := ⟨Tryd.t44, _, by kernel_rfl, Tryd.underlying44, by kernel_rfl, by decide, by kernel_rfl, by kernel_rfl⟩
theorem row45 (q : Nat) : RowOK Tryd.prog (tysQ q) 45 (.slice (.slice tI)) := ⟨Tryd.t45, _, by kernel_rfl, Tryd.underlying45, by kernel_rfl, by decide, by kernel_rfl, by kernel_rfl⟩
theorem row46 (q : Nat) : RowOK Tryd.prog (tysQ q) 46 (tEv) := ⟨Tryd.t46, _, by kernel_rfl, Tryd.underlying46, by kernel_rfl, by decide, by kernel_rfl, by kernel_rfl⟩
theorem row47 (q : Nat) : RowOK Tryd.prog (tysQ q) 47 (tEv) := ⟨Tryd.t47, _, by kernel_rfl, Tryd.underlying47, by kernel_rfl, by decide, by kernel_rfl, by kernel_rfl⟩
theorem row49 (q : Nat) : RowOK Tryd.prog (tysQ q) 49 (.arr 3 (.int .u8)) := ⟨Tryd.t49, _, by kernel_rfl, Tryd.underlying49, by kernel_rfl, by decide, by kernel_rfl, by kernel_rfl⟩
theorem row51 (q : Nat) : RowOK Tryd.prog (tysQ q) 51 (.arr 3 tI) := ⟨Tryd.t51, _, by kernel_rfl, Tryd.underlying51, by kernel_rfl, by decide, by kernel_rfl, by kernel_rfl⟩
theorem row52 (q : Nat) : RowOK Tryd.prog (tysQ q) 52 (.slice (.int .u16)) := ⟨Tryd.t52, _, by kernel_rfl, Tryd.underlying52, by kernel_rfl, by decide, by kernel_rfl, by kernel_rfl⟩
theorem row53 (q : Nat) : RowOK Tryd.prog (tysQ q) 53 (.slice tI) := ⟨Tryd.t53, _, by kernel_rfl, Tryd.underlying53, by kernel_rfl, by decide, by kernel_rfl, by kernel_rfl⟩
theorem row60 (q : Nat) : RowOK Tryd.prog (tysQ q) 60 (.int .u64) := ⟨Tryd.t60, _, by kernel_rfl, Tryd.underlying60, by kernel_rfl, by decide, by kernel_rfl, by kernel_rfl⟩
theorem row74 (q : Nat) : RowOK Tryd.prog (tysQ q) 74 (.arr 2 tI) := ⟨Tryd.t74, _, by kernel_rfl, Tryd.underlying74, by kernel_rfl, by decide, by kernel_rfl, by kernel_rfl⟩
theorem row93 (q : Nat) : RowOK Tryd.prog (tysQ q) 93 (.int .u32) := ⟨Tryd.t93, _, by kernel_rfl, Tryd.underlying93, by kernel_rfl, by decide, by kernel_rfl, by kernel_rfl⟩
theorem tysQ_ok (q : Nat) : ∀ T τ, Lf.look (tysQ q) T = some τ -> RowOK Tryd.prog (tysQ q) T τ := by
 refine rows_all (tysQ q) ?_
 intro x hx
 simp only [tysQ, List.mem_cons, List.not_mem_nil, or_false] at hx
 rcases hx with rfl | rfl | rfl | rfl | rfl | rfl | rfl | rfl | rfl | rfl | rfl | rfl | rfl | rfl | rfl | rfl | rfl | rfl | rfl | rfl | rfl | rfl | rfl | rfl | rfl | rfl | rfl | rfl | rfl | rfl | rfl
 ·exact row2 q
 ·exact row3 q
 ·exact row4 q
 ·exact row5 q
 ·exact row9 q
 ·exact row21 q
 ·exact row22 q
 ·exact row23 q
 ·exact row24 q
 ·exact row25 q
 ·exact row26 q
 ·exact row27 q
 ·exact row29 q
 ·exact row30 q
 ·exact row31 q
 ·exact row32 q
 ·exact row33 q
 ·exact row34 q
 ·exact row35 q
 ·exact row38 q
 ·exact row44 q
 ·exact row45 q
 ·exact row46 q
 ·exact row47 q
 ·exact row49 q
 ·exact row51 q
 ·exact row52 q
 ·exact row53 q
 ·exact row60 q
 ·exact row74 q
 ·exact row93 q
theorem look_flat (q : Nat) {T : TypeId} {τ : Ty} (h : Lf.look (tysQ q) T = some τ) (h3 : T = 3) : τ.isAgg = false := by
 rcases h3 with rfl
 ·have e : Lf.look (tysQ q) 3 = some (tI) := by kernel_rfl
  rw [e] at h;injection h with h;rw [<- h]; rfl
theorem eqs_ok (q : Nat) : ∀ T, T ∈ eqs -> EqRow Tryd.prog (tysQ q) eqs T := by
 have key : ∀ fs : List Field, (∀ f ∈ fs, f.name ≠ "_" /\ ((f.type = 3) ∨ f.type ∈ eqs)) -> ∀ f ∈ fs, f.name ≠ "_" /\ ∀ τ, Lf.look (tysQ q) f.type = some τ -> τ.isAgg = true -> f.type ∈ eqs := by
  intro fs h f hf;refine ⟨(h f hf).1, fun τ h1 h2 => ?_⟩
  rcases (h f hf).2 with h3 | h3
  ·rw [look_flat q h1 h3] at h2; cases h2
  ·exact h3
 intro T hT
 simp only [eqs, List.mem_cons, List.not_mem_nil, or_false] at hT
theorem mixed_ok : Tryd.prog.follows .mixedOrders = true := by kernel_rfl
theorem ctx_okQ {C : Ctx} (q : Nat) (h1 : C.tys = tysQ q) (h2 : C.eqs = eqs) (h3 : ∀ f s, Lf.look C.fns f = some s -> FOk Tryd.prog f s)
  (h4 : ∀ f s, Lf.look C.ptrs f = some s -> ∃ o, POk Tryd.prog f s o /\ ∀ q, o = some q -> C.pin.isSome = true /\ q = C.q) (h5 : ∀ t, C.thk = some t -> TOk Tryd.prog C.q t) (h6 : ∀ t, C.clo = some t -> ClOk Tryd.prog t)
  (h7 : ∀ f s, Lf.look C.ins f = some s -> IOk Tryd.prog f s) (h8 : ∀ t, C.kno = some t -> KnOK Tryd.prog C.q t) : CtxOK Tryd.prog C :=
 ⟨by rw [h1]; exact tysQ_ok q, h3, mixed_ok, by rw [h1, h2]; exact eqs_ok q, h4, h5, h6, h7, h8⟩
theorem ins_nil {P : Program} : ∀ f s, Lf.look ([] : List (FuncId × ISpec)) f = some s -> IOk P f s := fun _ _ h => by cases h
theorem ptrs_nil {P : Program} {C : Ctx} : ∀ f s, Lf.look ([] : List (FuncId × PSpec)) f = some s -> ∃ o, POk P f s o /\ ∀ q, o = some q -> C.pin.isSome = true /\ q = C.q := fun _ _ h => by cases h
theorem fns_nil {P : Program} : ∀ f s, Lf.look ([] : List (FuncId × FSpec)) f = some s -> FOk P f s := fun _ _ h => by cases h
theorem fns_cons {P : Program} {g : FuncId} {t : FSpec} {l : List (FuncId × FSpec)} (h : FOk P g t) (hl : ∀ f s, Lf.look l f = some s -> FOk P f s) : ∀ f s, Lf.look ((g, t) :: l) f = some s -> FOk P f s := by
 intro f s hs
 simp only [Lf.look] at hs
 cases hb : Nat.beq g f
 ·rw [hb] at hs; exact hl f s hs
 ·rw [hb] at hs
  have := Nat.eq_of_beq_eq_true hb
  simp only [cond_true, Option.some.injEq] at hs;rw [<- this, <- hs]; exact h
theorem ptr_cons {P : Program} {C : Ctx} {g : FuncId} {t : PSpec} {l : List (FuncId × PSpec)} (h : POk P g t) (hl : ∀ f s, Lf.look l f = some s -> ∃ o, POk P f s o /\ ∀ q, o = some q -> C.pin.isSome = true /\ q = C.q) :
  ∀ f s, Lf.look ((g, t) :: l) f = some s -> ∃ o, POk P f s o /\ ∀ q, o = some q -> C.pin.isSome = true /\ q = C.q := by
 intro f s hs
 simp only [Lf.look] at hs
 cases hb : Nat.beq g f
 ·rw [hb] at hs; exact hl f s hs
 ·rw [hb] at hs
  have := Nat.eq_of_beq_eq_true hb
  simp only [cond_true, Option.some.injEq] at hs;rw [<- this, <- hs]; exact ⟨none, h, fun q hq => by cases hq⟩
theorem okC {C : Ctx} (h : ∀ f s, Lf.look C.fns f = some s -> FOk Tryd.prog f s) (h1 : C.tys = tysQ 0) (h2 : C.eqs = eqs) (h3 : C.ptrs = []) (h4 : C.thk = none) (h5 : C.clo = none) (h6 : C.ins = []) (h7 : C.kno = none) : CtxOK Tryd.prog C :=
 ctx_okQ 0 h1 h2 h (by rw [h3]; exact ptrs_nil) (fun _ h => by rw [h4] at h; cases h) (fun _ h => by rw [h5] at h; cases h) (by rw [h6]; exact ins_nil) (fun _ h => by rw [h7] at h; cases h)
def mkC (n : Nat) (fns : List (FuncId × FSpec)) (g : Nat := 0) : Ctx := { N := n, tys := tysQ 0, fns := fns, eqs := eqs, glb := g }
theorem okA {n g : Nat} {fns : List (FuncId × FSpec)} (h : ∀ f s, Lf.look fns f = some s -> FOk Tryd.prog f s) : CtxOK Tryd.prog (mkC n fns g) := okC h rfl rfl rfl rfl rfl rfl rfl
theorem lim_eq : lim = 140737488355328 := rfl
theorem maxNew_eq : maxNew = 2147483648 := rfl
theorem inK_of {z : Int} (h1 : -9223372036854775808 <= z) (h2 : z <= 9223372036854775807) : inK .i64 z := ⟨h1, h2⟩
theorem inK_mid {z : Int} (h0 : -1000000000 <= z) (h1 : z <= 1000000000) : inK .i64 z := inK_of (by omega) (by omega)
theorem inK_succ {i n : Nat} (h : (i : Int) < (n : Int)) (hn : n <= lim) : inK .i64 ((i : Int) + 1) := by rw [lim_eq] at hn; exact inK_of (by omega) (by omega)
theorem inN_of {i n : Nat} (h : (i : Int) < (n : Int)) : inN (i : Int) n := ⟨by omega, h⟩
end Go.User
namespace Go.Proofs.YtghhmompjooecaaDoor
open Go.ChangeShapes Go.WideShapes Go.ChangeAt Go.RowKit Go.Proofs Go.Lf
theorem Tryd.own : ownKnob Tryd.prog.godebug = none := by kernel_rfl
theorem Tryd.laidOut : laidOutB Tryd.prog = true := by kernel_rfl
def Tryd.laid : List (String × DataW Unit) := [("math/bits.deBruijn64tab", Rows.laid_math_bits_deBruijn64tab)]
def tabN : List Int := [0, 1, 56, 2, 57, 49, 28, 3, 61, 58, 42, 50, 38, 29, 17, 4, 62, 47, 59, 36, 45, 43, 51, 22, 53, 39, 33, 30, 24, 18, 12, 5, 63, 55, 48, 27, 60, 41, 37, 16, 46, 35, 44, 21, 52, 32, 23, 11, 54, 26, 40, 15, 34, 20, 31, 10, 25, 14, 19, 9, 13, 8, 7, 6]
theorem laid_tab {H : Type} : (Rows.laid_math_bits_deBruijn64tab : DataW H) = .agg (tabN.map fun n => .lit (.int .u8 n)) := rfl
theorem Tryd.glb {W : World} (h : laidMetH Tryd.prog Tryd.laid W) : GlbOK 1 (fun b => b < W.heap.size) W := by
 have hg : Tryd.prog.globalNamed "math/bits.deBruijn64tab" = some 0 := by kernel_rfl
 have ht : (Tryd.prog.globals[0]?).map (·.type) = some 77 := by kernel_rfl
 have hu : Tryd.prog.underlying 77 = some (.array 64 5) := by kernel_rfl
 have h5 : Tryd.prog.underlying 5 = some (.int .u8) := Tryd.underlying5
 have c5 : Tryd.prog.cellsOf 5 = 1 := by kernel_rfl
 rw [MakeChecks.laidMetH_plain _ _ _ (by kernel_rfl)] at h
 obtain ⟨ps, ⟨g0, t0, cs0, f0, p0, q0, hg0, ht0, hv0, hd0, _, _⟩, _⟩ := h
 obtain rfl := Option.some.inj (hg.symm.trans hg0)
 obtain rfl := Option.some.inj (ht.symm.trans ht0)
 obtain ⟨xs, m1, rfl, hx1, hlen, hn3, hel⟩ := DataW.trod_array hu hd0
 simp only [Prod.mk.injEq] at hx1
 have hx1 := hx1.1
 rw [c5] at hel
 rw [laid_tab] at hx1
 injection hx1 with hx1
 have hcell : ∀ (i : Nat) (n : Int), tabN[i]? = some n -> cs0[i]? = some (.int .u8 n) := by
  intro i n hi;have hi64 : i < 64 := (List.getElem?_eq_some_iff.1 hi).1;have h1 := hel i hi64;have hxi : i < xs.length := by omega
  rw [List.getElem?_eq_getElem hxi] at h1;obtain ⟨k, e1, e2, _⟩ := DataW.trod_int h5 h1;have e3 : (xs.map (·.1))[i]? = some (.lit (.int .u8 k)) := by rw [List.getElem?_map, List.getElem?_eq_getElem hxi, e2]; rfl
  rw [<- hx1, List.getElem?_map, hi] at e3;simp at e3;subst e3;have e4 : (List.drop (i * 1) cs0.toList)[0]? = some (.int .u8 n) := by
   have : (List.take 1 (List.drop (i * 1) cs0.toList))[0]? = some (.int .u8 n) := by rw [e1]; rfl
   rw [List.getElem?_take_of_lt (by omega)] at this;exact this
  rw [List.getElem?_drop] at e4
  simpa using e4
 have hblk : ∃ t fr, W.heap[0]? = some (.cells cs0 t fr) := by
  simp only [World.var?, hg, Option.bind_some] at hv0;split at hv0
  ·rename_i cs t fr he
   cases hv0
   exact ⟨t, fr, he⟩
  ·cases hv0
 obtain ⟨T, fr, hb0⟩ := hblk
 intro b o hb
 match b, hb with
 | 0, hb =>
  have ho : o = tabN.map (Value.int .u8) := (Option.some.inj hb).symm
  subst ho;refine ⟨(Array.getElem?_eq_some_iff.1 hb0).1, cs0, T, fr, hb0, fun i v hi => ?_⟩
  rw [List.getElem?_map] at hi;cases hn : tabN[i]? with
  | none => rw [hn] at hi; cases hi
  | some n =>
   rw [hn] at hi;cases hi;exact hcell i n hn
theorem Tryd.door_met (os : Os) (args : Array Value) : laidMetH Tryd.prog Tryd.laid ((World.doorLaid Tryd.prog 400 os).forCall (fun _ _ => 0) ⟨#[], args, []⟩).memory :=
 laidMetH_of_parts3 (fuel := 8) (laidMet_of_run' 8 (by kernel_rfl) (by kernel_rfl)) (by kernel_rfl) (by kernel_rfl)
end Go.Proofs.YtghhmompjooecaaDoor
namespace Go.User

def Strict (l : List Int) : Prop := l.Pairwise (· < ·)

theorem strict_ext : ∀ {l m : List Int}, Strict l -> Strict m -> (∀ x, x ∈ l ↔ x ∈ m) -> l = m
 | [], [], _, _, _ => rfl
 | [], y :: m, _, _, h => by have := (h y).2 (by simp); simp at this
 | x :: l, [], _, _, h => by have := (h x).1 (by simp); simp at this
 | x :: l, y :: m, hl, hm, h => by
  obtain ⟨h1, h2⟩ := List.pairwise_cons.1 hl;obtain ⟨k1, k2⟩ := List.pairwise_cons.1 hm;have hxy : x = y := by
   have a := (h x).1 (by simp)
   have b := (h y).2 (by simp)
   rcases List.mem_cons.1 a with rfl | a
   ·rfl
   ·rcases List.mem_cons.1 b with rfl | b
    ·rfl
    ·have := h1 _ b; have := k1 _ a; omega
  subst hxy
  congr 1
  refine strict_ext h2 k2 fun z => ?_
  constructor
  ·intro hz
   have := h1 z hz
   rcases List.mem_cons.1 ((h z).1 (List.mem_cons_of_mem _ hz)) with rfl | h'
   ·omega
   ·exact h'
  ·intro hz
   have := k1 z hz
   rcases List.mem_cons.1 ((h z).2 (List.mem_cons_of_mem _ hz)) with rfl | h'
   ·omega
   ·exact h'

def insS : List Int -> Int -> List Int
 | [], n => [n]
 | x :: r, n => if x < n then x :: insS r n else if x = n then x :: r else n :: x :: r

theorem mem_insS (n y : Int) : ∀ (l : List Int), y ∈ insS l n ↔ y ∈ l ∨ y = n
 | [] => by simp [insS]
 | x :: r => by
  unfold insS;split
  ·simp only [List.mem_cons, mem_insS n y r]; constructor
   ·rintro (h | h | h) <;> simp [h]
   ·rintro ((h | h) | h) <;> simp [h]
  ·split
   ·rename_i h; subst h; simp only [List.mem_cons]; constructor
    ·intro h; exact .inl h
    ·rintro (h | h)
     ·exact h
     ·exact .inl h
   ·simp only [List.mem_cons]; constructor
    ·rintro (h | h | h) <;> simp [h]
    ·rintro ((h | h) | h) <;> simp [h]

theorem strict_insS (n : Int) : ∀ {l : List Int}, Strict l -> Strict (insS l n)
 | [], _ => by simp [insS, Strict]
 | x :: r, h => by
  obtain ⟨h1, h2⟩ := List.pairwise_cons.1 h;unfold insS;split
  ·rename_i hx
   refine List.pairwise_cons.2 ⟨fun y hy => ?_, strict_insS n h2⟩
   rcases (mem_insS n y r).1 hy with hy | rfl
   ·exact h1 y hy
   ·exact hx
  ·split
   ·exact h
   ·refine List.pairwise_cons.2 ⟨fun y hy => ?_, h⟩
    rcases List.mem_cons.1 hy with rfl | hy
    ·omega
    ·have := h1 y hy; omega


def segs (l : List Int) : List Int := l.foldl (fun acc a => insS acc (a / 16)) []

theorem foldS_mem (y : Int) : ∀ (l acc : List Int), y ∈ l.foldl (fun acc a => insS acc (a / 16)) acc ↔ y ∈ acc ∨ ∃ a, a ∈ l /\ y = a / 16
 | [], acc => by simp
 | a :: l, acc => by
  rw [List.foldl_cons, foldS_mem y l, mem_insS];constructor
  ·rintro ((h | h) | ⟨b, hb, rfl⟩)
   ·exact .inl h
   ·exact .inr ⟨a, by simp, h⟩
   ·exact .inr ⟨b, by simp [hb], rfl⟩
  ·rintro (h | ⟨b, hb, rfl⟩)
   ·exact .inl (.inl h)
   ·rcases List.mem_cons.1 hb with rfl | hb
    ·exact .inl (.inr rfl)
    ·exact .inr ⟨b, hb, rfl⟩

theorem mem_segs (l : List Int) (y : Int) : y ∈ segs l ↔ ∃ a, a ∈ l /\ y = a / 16 := by
 unfold segs
 rw [foldS_mem]
 simp

theorem foldS_strict : ∀ (l : List Int) {acc : List Int}, Strict acc -> Strict (l.foldl (fun acc a => insS acc (a / 16)) acc)
 | [], _, h => h
 | a :: l, _, h => foldS_strict l (strict_insS _ h)

theorem segs_strict (l : List Int) : Strict (segs l) := foldS_strict l (by simp [Strict])

theorem segs_snoc (l : List Int) (a : Int) : segs (l ++ [a]) = insS (segs l) (a / 16) := by
 unfold segs
 rw [List.foldl_append]
 rfl

theorem segs_eq {l m : List Int} (hm : Strict m) (h : ∀ y, y ∈ m ↔ ∃ a, a ∈ l /\ y = a / 16) : m = segs l :=
 strict_ext hm (segs_strict l) fun y => (h y).trans (mem_segs l y).symm

theorem segs_congr {l m : List Int} (h : ∀ a, a ∈ l ↔ a ∈ m) : segs l = segs m :=
 segs_eq (segs_strict l) fun y => by
  rw [mem_segs];constructor <;> rintro ⟨a, ha, rfl⟩
  ·exact ⟨a, (h a).1 ha, rfl⟩
  ·exact ⟨a, (h a).2 ha, rfl⟩

theorem segs_shift (l : List Int) (k : Int) : segs (l.map (· + 16 * k)) = (segs l).map (· + k) := by
 symm
 refine segs_eq ?_ fun y => ?_
 ·unfold Strict
  rw [List.pairwise_map];exact (segs_strict l).imp fun h => by omega
 ·simp only [List.mem_map, mem_segs]
  constructor
  ·rintro ⟨_, ⟨a, ha, rfl⟩, rfl⟩
   exact ⟨_, ⟨a, ha, rfl⟩, by omega⟩
  ·rintro ⟨_, ⟨a, ha, rfl⟩, rfl⟩
   exact ⟨_, ⟨a, ha, rfl⟩, by omega⟩

theorem strict_nodup {l : List Int} (h : Strict l) : l.Nodup := h.imp fun h => by omega

theorem insS_len_le (n : Int) : ∀ (l : List Int), l.length <= (insS l n).length /\ (insS l n).length <= l.length + 1
 | [] => by simp [insS]
 | x :: r => by
  have := insS_len_le n r
  unfold insS;split
  ·simp; omega
  ·split <;> simp

theorem segs_len_le (l : List Int) : (segs l).length <= l.length := by
 have : ∀ (l acc : List Int), (l.foldl (fun acc a => insS acc (a / 16)) acc).length <= acc.length + l.length := by
  intro l
  induction l with
  | nil => simp
  | cons a l ih =>
   intro acc;have h1 := ih (insS acc (a / 16));have h2 := (insS_len_le (a / 16) acc).2;simp only [List.foldl_cons, List.length_cons];omega
 simpa [segs] using this l []

theorem nodup_len {A : Type} [DecidableEq A] : ∀ {l m : List A}, l.Nodup -> (∀ x, x ∈ l -> x ∈ m) -> l.length <= m.length
 | [], _, _, _ => by simp
 | x :: l, m, h, hm => by
  obtain ⟨h1, h2⟩ := List.nodup_cons.1 h;have hx := hm x (by simp);have := nodup_len (l := l) (m := m.erase x) h2 fun y hy => (List.mem_erase_of_ne (by rintro rfl; exact h1 hy)).2 (hm y (by simp [hy]))
  have := List.length_erase_of_mem hx
  have := List.length_pos_of_mem hx
  simp only [List.length_cons];omega

theorem segs_mono {l m : List Int} (h : ∀ a, a ∈ l -> a ∈ m) : (segs l).length <= (segs m).length := by
 refine nodup_len (strict_nodup (segs_strict l)) fun y hy => ?_
 rw [mem_segs] at hy ⊢
 obtain ⟨a, ha, rfl⟩ := hy
 exact ⟨a, h a ha, rfl⟩

theorem strict_len : ∀ {l : List Int} {a b : Int}, Strict l -> (∀ y, y ∈ l -> a <= y /\ y <= b) -> a <= b + 1 -> (l.length : Int) <= b - a + 1
 | [], a, b, _, _, h => by simp; omega
 | x :: r, a, b, h, hb, _ => by
  obtain ⟨h1, h2⟩ := List.pairwise_cons.1 h;have hx := hb x (by simp);have := strict_len (a := x + 1) (b := b) h2 (fun y hy => ⟨by have := h1 y hy; omega, (hb y (by simp [hy])).2⟩) (by omega)
  simp only [List.length_cons]
  push_cast
  omega

end Go.User
namespace Go.User

def dd : List (Int × Int) -> List (Int × Int)
 | [] => []
 | p :: l => if p ∈ l then dd l else p :: dd l

theorem mem_dd (q : Int × Int) : ∀ (l : List (Int × Int)), q ∈ dd l ↔ q ∈ l
 | [] => by simp [dd]
 | p :: l => by
  have := mem_dd q l
  unfold dd;split
  ·rename_i h
   rw [this, List.mem_cons];constructor
   ·exact .inr
   ·rintro (rfl | h')
    ·exact h
    ·exact h'
  ·simp [this]

theorem nodup_dd : ∀ (l : List (Int × Int)), (dd l).Nodup
 | [] => by simp [dd]
 | p :: l => by
  unfold dd;split
  ·exact nodup_dd l
  ·rename_i h
   exact List.nodup_cons.2 ⟨fun h' => h ((mem_dd p l).1 h'), nodup_dd l⟩

def segp (p : Int × Int) : Int × Int := (p.1, p.2 / 16)

def nmoves (ps : List (Int × Int)) : Nat := (dd (ps.map segp)).length

def wordsOf (ps : List (Int × Int)) (a : Int) : List Int := (ps.filter (fun p => p.1 == a)).map (·.2)

theorem same_len {A : Type} [DecidableEq A] {l m : List A} (hl : l.Nodup) (hm : m.Nodup) (h : ∀ x, x ∈ l ↔ x ∈ m) : l.length = m.length :=
 Nat.le_antisymm (nodup_len hl fun x hx => (h x).1 hx) (nodup_len hm fun x hx => (h x).2 hx)

theorem nmoves_of {ps L : List (Int × Int)} (hL : L.Nodup) (h : ∀ q, q ∈ L ↔ ∃ p, p ∈ ps /\ q = segp p) : nmoves ps = L.length :=
 same_len (nodup_dd _) hL fun q => by
  rw [mem_dd, h, List.mem_map];constructor <;> rintro ⟨p, hp, e⟩ <;> exact ⟨p, hp, e.symm⟩

theorem sum_step (ps : List (Int × Int)) (n : Nat) :
  nmoves (ps.filter (fun p => decide (p.1 < (n + 1 : Nat)) && decide (0 <= p.1))) = nmoves (ps.filter (fun p => decide (p.1 < (n : Nat)) && decide (0 <= p.1))) + (segs (wordsOf ps n)).length := by
 have e : (segs (wordsOf ps n)).length = ((segs (wordsOf ps n)).map fun y => ((n : Int), y)).length := by simp
 rw [e]
 unfold nmoves
 rw [<- List.length_append]
 refine same_len (nodup_dd _) ?_ fun q => ?_
 ·refine List.nodup_append.2 ⟨nodup_dd _, ?_, ?_⟩
  ·exact (segs_strict _).imp (R := (· < ·)) (S := (· ≠ ·)) (fun h => by omega) |>.map _ (fun a b h e => h (by simpa using e))
  ·rintro a ha b hb rfl
   rw [mem_dd, List.mem_map] at ha;obtain ⟨p, hp, rfl⟩ := ha;obtain ⟨y, hy, e⟩ := List.mem_map.1 hb;have := (List.mem_filter.1 hp).2;simp [segp] at e this;omega
 ·rw [mem_dd, List.mem_append, mem_dd, List.mem_map, List.mem_map, List.mem_map]
  constructor
  ·rintro ⟨p, hp, rfl⟩
   obtain ⟨h1, h2⟩ := List.mem_filter.1 hp;simp at h2;by_cases hn : p.1 < n
   ·exact .inl ⟨p, List.mem_filter.2 ⟨h1, by simp; omega⟩, rfl⟩
   ·have hpn : p.1 = n := by omega
    refine .inr ⟨p.2 / 16, (mem_segs _ _).2 ⟨p.2, ?_, rfl⟩, by simp [segp, hpn]⟩
    exact List.mem_map.2 ⟨p, List.mem_filter.2 ⟨h1, by simp [hpn]⟩, rfl⟩
  ·rintro (⟨p, hp, rfl⟩ | ⟨y, hy, rfl⟩)
   ·obtain ⟨h1, h2⟩ := List.mem_filter.1 hp
    simp at h2
    exact ⟨p, List.mem_filter.2 ⟨h1, by simp; omega⟩, rfl⟩
   ·obtain ⟨a, ha, rfl⟩ := (mem_segs _ _).1 hy
    obtain ⟨p, hp, rfl⟩ := List.mem_map.1 ha;obtain ⟨h1, h2⟩ := List.mem_filter.1 hp;simp at h2;exact ⟨p, List.mem_filter.2 ⟨h1, by simp; omega⟩, by simp [segp, h2]⟩

def sumTo (f : Nat -> Nat) : Nat -> Nat
 | 0 => 0
 | n + 1 => sumTo f n + f n

theorem nmoves_sum (ps : List (Int × Int)) (n : Nat) (h : ∀ p, p ∈ ps -> 0 <= p.1 /\ p.1 < n) : nmoves ps = sumTo (fun a => (segs (wordsOf ps a)).length) n := by
 have key : ∀ m, nmoves (ps.filter (fun p => decide (p.1 < (m : Nat)) && decide (0 <= p.1))) = sumTo (fun a => (segs (wordsOf ps a)).length) m := by
  intro m
  induction m with
  | zero =>
   have : ps.filter (fun p => decide (p.1 < ((0 : Nat) : Int)) && decide (0 <= p.1)) = [] := by
    rw [List.filter_eq_nil_iff];intro p _
    simp
   rw [this]
   rfl
  | succ m ih => rw [sum_step, ih]; rfl
 have hf : ps.filter (fun (p : Int × Int) => decide (p.1 < ((n : Nat) : Int)) && decide (0 <= p.1)) = ps := by
  rw [List.filter_eq_self];intro p hp;have := h p hp
  simp
  omega
 rw [<- key n, hf]

theorem nmoves_snoc (ps : List (Int × Int)) (p : Int × Int) : nmoves (ps ++ [p]) = if segp p ∈ ps.map segp then nmoves ps else nmoves ps + 1 := by
 split
 ·rename_i h
  refine nmoves_of (nodup_dd _) fun q => ?_
  rw [mem_dd, List.mem_map];constructor
  ·rintro ⟨x, hx, rfl⟩
   exact ⟨x, by simp [hx], rfl⟩
  ·rintro ⟨x, hx, rfl⟩
   rcases List.mem_append.1 hx with hx | hx
   ·exact ⟨x, hx, rfl⟩
   ·obtain rfl : x = p := by simpa using hx
    obtain ⟨z, hz, e⟩ := List.mem_map.1 h;exact ⟨z, hz, e⟩
 ·rename_i h
  rw [nmoves_of (L := dd (ps.map segp) ++ [segp p])]
  ·simp [nmoves]
  ·refine List.nodup_append.2 ⟨nodup_dd _, by simp, ?_⟩
   rintro a ha b hb rfl
   rw [mem_dd] at ha;simp at hb;exact h (hb ▸ ha)
  ·intro q
   rw [List.mem_append, mem_dd, List.mem_map];constructor
   ·rintro (⟨x, hx, rfl⟩ | hq)
    ·exact ⟨x, by simp [hx], rfl⟩
    ·exact ⟨p, by simp, by simpa using hq⟩
   ·rintro ⟨x, hx, rfl⟩
    rcases List.mem_append.1 hx with hx | hx
    ·exact .inl ⟨x, hx, rfl⟩
    ·exact .inr (by simpa using congrArg segp (by simpa using hx))

end Go.User
namespace Go.User

def fsum (k : Nat) : Nat -> Nat -> Nat
 | 0, _ => 0
 | n + 1, x => x % 2 ^ k + fsum k n (x / 2 ^ k)
def fmask (k : Nat) : Nat -> Nat
 | 0 => 0
 | n + 1 => (2 ^ k - 1) + 2 ^ (2 * k) * fmask k n

theorem and_fmask (k n x : Nat) : x &&& fmask k (n + 1) = x % 2 ^ k + 2 ^ (2 * k) * ((x / 2 ^ (2 * k)) &&& fmask k n) := by
 have hp : 0 < 2 ^ k := Nat.two_pow_pos k
 have hB : 2 ^ (2 * k) = 2 ^ k * 2 ^ k := by rw [Nat.two_mul, Nat.pow_add]
 have hle : 2 ^ k <= 2 ^ (2 * k) := Nat.pow_le_pow_right (by omega) (by omega)
 have hm1 : fmask k (n + 1) % 2 ^ (2 * k) = 2 ^ k - 1 := by
  show ((2 ^ k - 1) + 2 ^ (2 * k) * fmask k n) % 2 ^ (2 * k) = _
  rw [Nat.add_mul_mod_self_left, Nat.mod_eq_of_lt (by omega)]
 have hm2 : fmask k (n + 1) / 2 ^ (2 * k) = fmask k n := by
  show ((2 ^ k - 1) + 2 ^ (2 * k) * fmask k n) / 2 ^ (2 * k) = _
  rw [Nat.add_mul_div_left _ _ (Nat.two_pow_pos _), Nat.div_eq_of_lt (by omega), Nat.zero_add]
 have h1 : (x &&& fmask k (n + 1)) % 2 ^ (2 * k) = x % 2 ^ k := by
  rw [Nat.and_mod_two_pow, hm1, Nat.and_two_pow_sub_one_eq_mod, Nat.mod_mod_of_dvd];exact ⟨2 ^ k, hB⟩
 have h2 : (x &&& fmask k (n + 1)) / 2 ^ (2 * k) = (x / 2 ^ (2 * k)) &&& fmask k n := by
  rw [Nat.and_div_two_pow, hm2]
 rw [<- h1, <- h2, Nat.mod_add_div]

theorem fsum_pair (k : Nat) (hk : 1 <= k) : ∀ (n x : Nat), fsum (2 * k) n (((x / 2 ^ k) &&& fmask k n) + (x &&& fmask k n)) = fsum k (2 * n) x
 | 0, x => rfl
 | n + 1, x => by
  have hp : 2 <= 2 ^ k := by
   have := Nat.pow_le_pow_right (n := 2) (by omega) hk
   simpa using this
  have hB : 2 ^ (2 * k) = 2 ^ k * 2 ^ k := by rw [Nat.two_mul, Nat.pow_add]
  have hlt : x / 2 ^ k % 2 ^ k + x % 2 ^ k < 2 ^ (2 * k) := by
   have h1 := Nat.mod_lt (x / 2 ^ k) (show 0 < 2 ^ k by omega)
   have h2 := Nat.mod_lt x (show 0 < 2 ^ k by omega)
   have h3 : 2 ^ k * 2 <= 2 ^ k * 2 ^ k := Nat.mul_le_mul_left _ hp
   omega
  rw [and_fmask, and_fmask];obtain ⟨u, hu⟩ : ∃ u, u = (x / 2 ^ k / 2 ^ (2 * k)) &&& fmask k n := ⟨_, rfl⟩;obtain ⟨v, hv⟩ : ∃ v, v = (x / 2 ^ (2 * k)) &&& fmask k n := ⟨_, rfl⟩;rw [<- hu, <- hv];have e : x / 2 ^ k % 2 ^ k + 2 ^ (2 * k) * u + (x % 2 ^ k + 2 ^ (2 * k) * v) = (x / 2 ^ k % 2 ^ k + x % 2 ^ k) + 2 ^ (2 * k) * (u + v) := by rw [Nat.mul_add]; omega
  rw [e];show (_ + 2 ^ (2 * k) * (u + v)) % 2 ^ (2 * k) + fsum (2 * k) n ((_ + 2 ^ (2 * k) * (u + v)) / 2 ^ (2 * k)) = x % 2 ^ k + fsum k (2 * n + 1) (x / 2 ^ k);rw [Nat.add_mul_mod_self_left, Nat.mod_eq_of_lt hlt, Nat.add_mul_div_left _ _ (Nat.two_pow_pos _), Nat.div_eq_of_lt hlt, Nat.zero_add];show _ = x % 2 ^ k + (x / 2 ^ k % 2 ^ k + fsum k (2 * n) (x / 2 ^ k / 2 ^ k));have e2 : x / 2 ^ k / 2 ^ k = x / 2 ^ (2 * k) := by rw [Nat.div_div_eq_div_mul, hB]
  have e3 : x / 2 ^ k / 2 ^ (2 * k) = x / 2 ^ (2 * k) / 2 ^ k := by rw [Nat.div_div_eq_div_mul, Nat.div_div_eq_div_mul, Nat.mul_comm]
  rw [e2, <- fsum_pair k hk n (x / 2 ^ (2 * k)), hu, hv, e3];omega

def onesN (n x : Nat) : List Nat := (List.range n).filter (fun i => x.testBit i)

theorem fsum_ones : ∀ (n x : Nat), fsum 1 n x = (onesN n x).length
 | 0, x => rfl
 | n + 1, x => by
  unfold onesN;rw [List.range_succ_eq_map, List.filter_cons, List.filter_map];show x % 2 ^ 1 + fsum 1 n (x / 2 ^ 1) = _;rw [fsum_ones n (x / 2 ^ 1)];have e : (fun i => x.testBit i) ∘ Nat.succ = fun i => (x / 2 ^ 1).testBit i := by
   funext i
   simp [Nat.testBit_succ]
  rw [e];unfold onesN;have h0 : x.testBit 0 = decide (x % 2 = 1) := Nat.testBit_zero x;rw [h0];by_cases h : x % 2 = 1
  ·simp [h]; omega
  ·simp [h]; omega
end Go.User
namespace Sp
def sameI (a b : List Int) : Bool := decide (a = b)
def incr (l : List Int) : Prop := Go.User.Strict l
def added (l : List Int) (n : Int) : List Int := Go.User.insS l n
def segs (l : List Int) : List Int := Go.User.segs l
def form0 (n : Int) : Form := (false, 0, n, 0, (0, 0, 0, ()), ())
end Sp
namespace Go.User
open Go.Lf
def S13 : FSpec := { args := [.val (.slice tI), .val (.slice tI)], multi := false, res := .bool, mode := .shr, pre := fun _ => True, fn := fun x => Sp.sameI x.1 x.2.1 }
def C13 : Ctx := mkC 26 []
def L13 (x : kdens S13.args) : List LoopI := [
 {ι := Nat, inv := fun i => i <= List.length x.1 /\ List.length x.1 = List.length x.2.1 /\ List.take i x.1 = List.take i x.2.1, dec := fun i => List.length x.1 - i, ovr := fun i => [(5, .shr tI (i : Int))], keep := [0, 1] }]
def S27 : FSpec := { args := [.val tI], multi := false, res := tI, mode := .shr, pre := fun _ => True, fn := fun x => x.1 / 16 }
def C27 : Ctx := mkC 12 []
def L27 (x : kdens S27.args) : List LoopI := []
def S26 : FSpec := { args := [.val (.slice tI), .val tI], multi := false, res := .slice tI, mode := .shr, pre := fun x => List.length x.1 <= 1000000 /\ Sp.incr x.1, fn := fun x => Sp.added x.1 x.2.1 }
def C26 : Ctx := { mkC 45 [] with frz := [44] }
def L26 (x : kdens S26.args) : List LoopI := [
 {ι := Nat, inv := fun i => i <= List.length x.1 /\ ∀ y ∈ List.take i x.1, y < x.2.1, dec := fun i => List.length x.1 - i, ovr := fun i => [(5, .shr tI (i : Int))], keep := [0, 1] }]
def S21 : FSpec := { args := [.val tI], multi := false, res := tForm, mode := .shr, pre := fun _ => True, fn := fun x => Sp.form0 x.1 }
def L21 (x : kdens S21.args) : List LoopI := []
end Go.User
namespace Sp
def lanes (n : Int) (set : Int) : List Int := ((List.range 64).filter (fun (i : Nat) => decide ((i : Int) < n) && Nat.testBit set.toNat i)).map Int.ofNat
def fItem (x : Raw) : Int := if x.2.2.2.2.2.2.2.1 then x.2.1 * 16777216 else x.2.1
def fSt (x : Raw) : Int := if 0 < x.2.2.2.2.2.2.1 % 8 then x.2.2.2.2.2.1 % 64 + 1 else 0
def fHi (x : Raw) : Int := if 0 < x.2.2.2.2.2.2.1 % 8 then x.2.2.2.2.1 + fSt x * (x.2.2.2.2.2.2.1 % 8) else x.2.2.2.2.1
def form (x : Raw) : Form := (x.1, fItem x, x.2.2.1, x.2.2.2.1, (x.2.2.2.2.1, fHi x, fSt x, ()), ())
def ev (k a i : Int) : Ev := (k, 0, 0, 0, 0, 0, a, i, 0, ())
def arr0 : Arr := ([], 0, 0, 0, ())
def counts (e : Ev) (l : List Arr) : Bool :=
 decide (1 <= e.1) && decide (e.1 <= 3) && decide (0 <= e.2.2.2.2.2.2.1) && decide (e.2.2.2.2.2.2.1 < (l.length : Int)) && decide ((l.getD e.2.2.2.2.2.2.1.toNat arr0).2.1 = 1)
end Sp
namespace Go.User
open Go.Lf
def S10 : FSpec := { args := [.val tRaw], multi := false, res := tForm, mode := .shr, pre := fun _ => True, fn := fun x => (x.1.1, Sp.fItem x.1, x.1.2.2.1, x.1.2.2.2.1, (x.1.2.2.2.2.1, Sp.fHi x.1, Sp.fSt x.1, ()), ()) }
def C10 : Ctx := mkC 58 []
def L10 (x : kdens S10.args) : List LoopI := []
def S18 : FSpec := { args := [.val tI, .val tI, .val tI], multi := false, res := tEv, mode := .shr, pre := fun _ => True, fn := fun x => Sp.ev x.1 x.2.1 x.2.2.1 }
def C18 : Ctx := mkC 11 []
def L18 (x : kdens S18.args) : List LoopI := []
def C21 : Ctx := mkC 5 []
def S30 : FSpec := { args := [.val tEv, .val (.slice tArr)], multi := false, res := .bool, mode := .shr, pre := fun _ => True, fn := fun x => Sp.counts x.1 x.2.1 }
def C30 : Ctx := mkC 34 []
def L30 (x : kdens S30.args) : List LoopI := []
def S15 : FSpec := { args := [.val (.slice tI)], multi := false, res := .slice tI, mode := .own .shr, pre := fun x => List.length x.1 <= 1000000, fn := fun x => Sp.segs x.1 }
def C15 : Ctx := { mkC 36 [(27, S27), (26, S26)] with frz := [7] }
def L15 (x : kdens S15.args) : List LoopI := [
 {ι := Nat, inv := fun i => i <= List.length x.1, dec := fun i => List.length x.1 - i, ovr := fun i => [(3, .shr (.slice tI) (Sp.segs (List.take i x.1))), (4, .shr tI (i : Int))], keep := [0] },
 {ι := Nat, inv := fun i => i <= List.length (Sp.segs x.1), dec := fun i => List.length (Sp.segs x.1) - i, ovr := fun i => [(5, .own (.slice tI) (.own .shr) (List.take i (Sp.segs x.1))), (6, .shr tI (i : Int))], keep := [0, 3] }]
def S19 : FSpec := { args := [.val tI, .val (.int .u64)], multi := false, res := .slice tI, mode := .own .shr, pre := fun _ => True, fn := fun x => Sp.lanes x.1 x.2.1 }
def C19 : Ctx := mkC 28 []
def L19 (x : kdens S19.args) : List LoopI := [
 {ι := Nat, inv := fun i => i <= 64, dec := fun i => 64 - i, ovr := fun i => [(5, .own (.slice tI) (.own .shr) (Sp.lanes (min x.1 (i : Int)) x.2.1)), (6, .shr tI (i : Int))], keep := [0, 1] }]
end Go.User
namespace Sp
def segsAt (s c : Int) (l : List Int) : List Int := segs (l.map fun i => c + s * i)
def maxSegs (s : Int) (l : List Int) : Nat -> Nat
 | 0 => 0
 | k + 1 => max (maxSegs s l k) (segsAt s k l).length
def absI (s : Int) : Int := if s < 0 then -s else s
def sOf (f : Form) : Int := f.2.1 + f.2.2.1
def loOf (f : Form) : Int := f.2.2.2.2.1.1
def hiOf (f : Form) : Int := f.2.2.2.2.1.2.1
def stOf (f : Form) : Int := f.2.2.2.2.1.2.2.1
def lastI (l : List Int) : Int := l.getD (l.length - 1) 0
def usable (f : Form) : Prop := (-2199023255552 <= f.2.1 /\ f.2.1 <= 2199023255552) /\ (-2199023255552 <= f.2.2.1 /\ f.2.2.1 <= 2199023255552) /\ (-2199023255552 <= loOf f /\ loOf f <= 2199023255552) /\
 (-2199023255552 <= hiOf f /\ hiOf f <= 2199023255552) /\ loOf f <= hiOf f /\ (stOf f = 0 ↔ loOf f = hiOf f) /\ 0 <= stOf f
def wide (f : Form) (l : List Int) : Int := absI (sOf f) * (lastI l - l.getD 0 0) + hiOf f - loOf f
def static (f : Form) (l : List Int) : Int :=
 if l.length = 0 ∨ f.1 = true then (l.length : Int)
 else if loOf f = hiOf f then (maxSegs (sOf f) l 16 : Int)
 else min (l.length : Int) ((wide f l - 1) / 16 + 2)
def pairs (e : List Ev) (l : List Arr) : List (Int × Int) := (e.filter fun x => counts x l).map fun x => (x.2.2.2.2.2.2.1, x.2.2.2.2.2.2.2.1)
def wordsAt (e : List Ev) (l : List Arr) (a : Int) : List Int := Go.User.wordsOf (pairs e l) a
def movesTo (e : List Ev) (l : List Arr) (n : Nat) : Nat := Go.User.sumTo (fun a => (segs (wordsAt e l a)).length) n
def moves (e : List Ev) (l : List Arr) : Int := (Go.User.nmoves (pairs e l) : Int)
def restAt (f : Form) (pick : List Int) (i : Nat) : Int :=
 if 0 < stOf f /\ 0 < pick.length then loOf f + stOf f * ((pick.getD (i % pick.length) 0).tmod ((hiOf f - loOf f).tdiv (stOf f) + 1)) else loOf f
def words (f : Form) (l : List Int) (c : Int) (pick : List Int) : List Int := (List.range l.length).map fun i => c + sOf f * l.getD i 0 + restAt f pick i
def lanesOk (l : List Int) : Prop := l.length <= 64 /\ ∀ x ∈ l, 0 <= x /\ x < 64
def ones (n : Int) : Int := ((Go.User.onesN 64 n.toNat).length : Int)
end Sp
namespace Go.User
open Go.Lf
def S12 : FSpec := { args := [.val tForm, .val tI, .val (.int .u64)], multi := false, res := tI, mode := .shr, pre := fun x => Sp.usable x.1, fn := fun x => Sp.static x.1 (Sp.lanes x.2.1 x.2.2.1) }
def C12 : Ctx := { mkC 96 [(19, S19), (26, S26), (27, S27)] with frz := [16, 42] }
def L12 (x : kdens S12.args) : List LoopI :=
 let l := Sp.lanes x.2.1 x.2.2.1
 let s := Sp.sOf x.1
 [{ ι := Nat, inv := fun c => c <= 16, dec := fun c => 16 - c, ovr := fun c => [(9, .shr tI (Sp.maxSegs s l c : Nat)), (10, .shr tI (c : Int))], keep := [3, 7, 8], sub := fun c => [
  {ι := Nat, inv := fun i => i <= List.length l, dec := fun i => List.length l - i, ovr := fun i => [(11, .shr (.slice tI) (Sp.segsAt s c (List.take i l))), (12, .shr tI (i : Int))], keep := [3, 7, 8, 9, 10] }] }]
def S17 : FSpec := { args := [.val (.slice tEv), .val (.slice tArr)], multi := false, res := tI, mode := .shr, pre := fun x => List.length x.1 <= 1000 /\ List.length x.2.1 <= 1000, fn := fun x => Sp.moves x.1 x.2.1 }
def C17 : Ctx := { mkC 50 [(30, S30), (26, S26), (27, S27)] with frz := [15] }
def L17 (x : kdens S17.args) : List LoopI := [
 {ι := Nat, inv := fun a => a <= List.length x.2.1, dec := fun a => List.length x.2.1 - a, ovr := fun a => [(5, .shr tI (Sp.movesTo x.1 x.2.1 a : Nat)), (6, .shr tI (a : Int))], keep := [0, 1], sub := fun a => [
  {ι := Nat, inv := fun i => i <= List.length x.1, dec := fun i => List.length x.1 - i, ovr := fun i => [(7, .shr (.slice tI) (Sp.segs (Sp.wordsAt (List.take i x.1) x.2.1 (a : Int)))), (8, .shr tI (i : Int))], keep := [0, 1, 5, 6] }] }]
def S20 : FSpec := { args := [.val tForm, .val (.slice tI), .val tI, .val (.slice (.int .u16))], multi := false, res := .slice tI, mode := .own .shr, pre := fun x => Sp.usable x.1 /\ Sp.lanesOk x.2.1 /\ -2199023255552 <= x.2.2.1 /\ x.2.2.1 <= 2199023255552, fn := fun x => Sp.words x.1 x.2.1 x.2.2.1 x.2.2.2.1 }
def C20 : Ctx := mkC 78 []
def L20 (x : kdens S20.args) : List LoopI := [
 {ι := Nat, inv := fun i => i <= List.length x.2.1, dec := fun i => List.length x.2.1 - i, ovr := fun i => [(9, .own (.slice tI) (.own .shr) (List.take i (Sp.words x.1 x.2.1 x.2.2.1 x.2.2.2.1))), (10, .shr tI (i : Int))], keep := [1, 2, 3, 4] }]
def S22 : FSpec := { args := [.val (.int .u64)], multi := false, res := tI, mode := .shr, pre := fun _ => True, fn := fun x => Sp.ones x.1 }
def C22 : Ctx := mkC 35 []
def L22 (x : kdens S22.args) : List LoopI := []
end Go.User
namespace Go.User
open Go.Lf
def S14 : FSpec := { args := [.val (.slice tI)], multi := false, res := .slice tI, mode := .own .shr, pre := fun x => List.length x.1 <= 1000000, fn := fun x => Sp.segs x.1 }
def S11 : FSpec := { args := [.val tForm, .val tI, .val (.int .u64)], multi := false, res := tI, mode := .shr, pre := fun x => Sp.usable x.1, fn := fun x => Sp.static x.1 (Sp.lanes x.2.1 x.2.2.1), glb := 1 }
def S16 : FSpec := { args := [.val (.slice tEv), .val (.slice tArr)], multi := false, res := tI, mode := .shr, pre := fun x => List.length x.1 <= 1000 /\ List.length x.2.1 <= 1000, fn := fun x => Sp.moves x.1 x.2.1 }
end Go.User
namespace Sp
def u64of (n : Int) : Int := Go.IntKind.wrap .u64 n
def and3 (n : Int) : Int := Go.IntKind.wrap .i64 ((BitVec.ofInt 64 n &&& BitVec.ofInt 64 3).toNat : Int)
def arrs (l : List Int) : List Arr := (l.take 12).map fun n => ([], and3 n, 0, 64, ())
end Sp
namespace Go.User
open Go.Lf
def S9 : FSpec := { args := [], multi := false, res := .bool, mode := .shr, pre := fun _ => True, fn := fun _ => true, glb := 1 }
def C9 : Ctx := { mkC 51 [(14, S14), (13, S13), (16, S16), (21, S21), (11, S11)] 1 with frz := [9, 12, 13, 14, 15] }
def L9 (x : kdens S9.args) : List LoopI := []
def S3 : FSpec := { args := [.val (.slice tI), .val (.slice tEv), .val tRaw], multi := false, res := .bool, mode := .shr, pre := fun _ => True, fn := fun _ => true, glb := 1 }
def C3 : Ctx := { mkC 127 [(9, S9), (10, S10), (11, S11), (12, S12), (13, S13), (14, S14), (15, S15), (16, S16), (17, S17)] 1 with frz := [111, 113] }
def L3 (x : kdens S3.args) : List LoopI := [
 {ι := Nat, inv := fun i => i <= 12 /\ i <= List.length x.1, dec := fun i => 12 - i, ovr := fun i => [(8, .own (.slice tArr) (.own .shr) (List.take i (Sp.arrs x.1))), (9, .shr tI (i : Int))], keep := [0, 1, 5, 7] },
 {ι := Nat, inv := fun i => i <= 8, dec := fun i => 8 - i, ovr := fun i => [(11, .shr tI (i : Int))], keep := [0, 1, 5, 7, 8, 10] }]
def S6 : FSpec := { args := [.val tRaw, .val (.arr 3 tI), .val (.slice (.int .u16))], multi := false, res := .bool, mode := .shr, pre := fun _ => True, fn := fun _ => true, glb := 1 }
def C6 : Ctx := { mkC 66 [(9, S9), (10, S10), (11, S11), (14, S14), (19, S19), (20, S20)] 1 with frz := [30, 41, 44] }
def L6 (x : kdens S6.args) : List LoopI := []
def S8 : FSpec := { args := [.val tRaw, .val (.int .u64), .val (.int .u64)], multi := false, res := .bool, mode := .shr, pre := fun _ => True, fn := fun _ => true, glb := 1 }
def C8 : Ctx := { mkC 95 [(9, S9), (10, S10), (11, S11)] 1 with frz := [] }
def L8 (x : kdens S8.args) : List LoopI := []
def S7 : FSpec := { args := [.val tI, .val (.int .u8), .val (.int .u64)], multi := false, res := .bool, mode := .shr, pre := fun _ => True, fn := fun _ => true, glb := 1 }
def C7 : Ctx := { mkC 101 [(9, S9), (21, S21), (11, S11), (14, S14), (19, S19), (20, S20)] 1 with frz := [25, 52, 53] }
def L7 (x : kdens S7.args) : List LoopI :=
 let s := x.1.tmod 1099511627776
 let l := Sp.lanes (1 + x.2.1 % 64) x.2.2.1
 [{ ι := Nat, inv := fun c => c <= 16, dec := fun c => 16 - c, ovr := fun c => [(11, .shr tI (Sp.maxSegs s l c : Nat)), (12, .shr tI (c : Int))], keep := [0, 2, 7, 8, 9, 10] }]
end Go.User
namespace Go.User
open Go.Proofs Go.Lf
set_option maxRecDepth 100000
theorem vc9 : (funI C9 (stpS C9) S9 L9 Tryd.f9) = (
let q0 : Prop := (True /\ True) /\ True;
let q1 : Prop := True /\ True /\ True;
let q2 : Prop := True /\ True /\ q1;
let q3 : Int := (0 : Int);
let q4 : Int := (15 : Int);
let q5 : Int := (16 : Int);
let q6 : Int := (1 : Int);
let q7 : Int := -q6;
let q8 : List Int := q3 :: q4 :: q5 :: q7 :: (40 : Int) :: ([] : List tI.den);
let q9 : Prop := (true && true) = true;
let q10 : Prop := q9 -> True;
let q11 : Int := (3 : Int);
let q12 : Int × Unit := (q3, ());
let q13 : Int × Int × Unit := (q11, q12);
let q14 : Int := (2 : Int);
let q15 : Int := (4 : Int);
let q16 : List (Int × Int × Int × Int × Int × Int × Int × Int × Int × Unit) := (q6, q3, q3, q3, q3, q3, q3, q13) :: (q14, q3, q3, q3, q3, q3, q3, q4, q12) :: (q6, q3, q3, q3, q3, q3, q6, q13) :: (q11, q3, q3, q3, q3, q3, q3, q5, q12) :: (q15, q3, q3, q3, q3, q3, q3, q3, q12) :: ([] : List tEv.den);
let q17 : Nat := (1000 : Nat);
let q18 : Int := (32 : Int);
let q19 : List (List UInt8 × Int × Int × Int × Unit) := (([] : List UInt8), q6, q3, q18, ()) :: (([] : List UInt8), q14, q3, q15, ()) :: ([] : List tArr.den);
let q20 : Bool := bif !Sp.sameI (Sp.segs q8) (q7 :: q3 :: q6 :: q14 :: ([] : List tI.den)) then true else Sp.moves q16 q19 != q14;
let q21 : Bool × Int × Int × Int × (Int × Int × Int × Unit) × Unit := Sp.form0 q6;
let q22 : Prop := Sp.usable q21;
let q23 : Bool × Int × Int × Int × (Int × Int × Int × Unit) × Unit := Sp.form0 q14;
let q24 : Bool × Int × Int × Int × (Int × Int × Int × Unit) × Unit := Sp.form0 q3;
let q25 : Bool × Int × Int × Int × (Int × Int × Int × Unit) × Unit := Sp.form0 q5;
let q26 : List Int := Sp.lanes q18 (18446744073709551615 : Int);
∀ (x : Unit), True -> True -> q0 /\ q0 /\ ((True /\ True /\ True /\ q2) /\ True) /\ (q2 /\ True) /\ ((True /\ q8.length <= (1000000 : Nat) /\ True /\ True /\ True /\ True /\ q10 /\ q10 /\ (q9 -> q16.length <= q17 /\ q19.length <= q17) /\ q10 /\ True /\ True) /\ True) /\ (q20 = true -> q0 /\ false = true) /\ (q20 = false -> ((True /\ True /\ q22 /\ True /\ True /\ q10 /\ q10 /\ (q9 -> Sp.usable q23) /\ q10 /\ True /\ True /\ q10 /\ q10 /\ (q9 -> Sp.usable q24) /\ q10 /\ True /\ True /\ q10 /\ q10 /\ (q9 -> Sp.usable q25) /\ q10 /\ True /\ True /\ q10 /\ (q9 -> q22) /\ q10 /\ q1) /\ True) /\ (bif bif bif bif Sp.static q21 q26 == q11 then Sp.static q23 q26 == (5 : Int) else false then Sp.static q24 q26 == q6 else false then Sp.static q25 q26 == q18 else false then Sp.static q21 (Sp.lanes q18 q3) == q3 else false) = true)) := by kernel_rfl
theorem vc3 : (funI C3 (stpS C3) S3 L3 Tryd.f3) = (
let q0 : Prop := True /\ True /\ True;
let q1 : Prop := q0 /\ True;
let q2 : Prop := (True /\ True) /\ True;
let q3 : Prop := q2 /\ false = true;
let q4 : Int := (100 : Int);
let q5 : Nat := (12 : Nat);
let q6 : Int := (0 : Int);
let q7 : Prop := true = true;
let q8 : Prop := q7 /\ True;
let q9 : Prop := True /\ q0;
let q10 : Nat := (64 : Nat);
let q11 : Int × Int × Unit := (q6, (64 : Int), ());
let q12 : Int := (1 : Int);
let q13 : Nat := (8 : Nat);
let q14 : Nat := (1000 : Nat);
∀ (x : List Int × List (Int × Int × Int × Int × Int × Int × Int × Int × Int × Unit) × (Bool × Int × Int × Int × Int × Int × Int × Bool × Unit) × Unit),
 let q15 : Nat := x.1.length;
 let q16 : Int := (↑q15 : Int);
 let q17 : Bool := decide (q16 > q4);
 let q18 : Prop := (true && bif q17 then false else true) = true -> True;
 let q19 : Nat := x.2.1.length;
 let q20 : Bool := bif q17 then true else decide ((↑q19 : Int) > q4);
 let q21 : Prop := x.1 = x.1;
 let q22 : Prop := x.2.1 = x.2.1;
 let q23 : Prop := x.2.2.1 = x.2.2.1;
 let q24 : Prop := q21 /\ q22 /\ q23 /\ q8;
 let q25 : Int × Int × Int × Int × Int × Bool × Unit := x.2.2.1.2.2;
 let q26 : Int × Int × Int × Int × Bool × Unit := q25.2;
 let q27 : Bool × Int × Int × Int × (Int × Int × Int × Unit) × Unit := (x.2.2.1.1, Sp.fItem x.2.2.1, q25.1, q26.1, (q26.2.1, Sp.fHi x.2.2.1, Sp.fSt x.2.2.1, ()), ());
 let q28 : Prop := q27 = q27 /\ True;
 let q29 : Prop := Sp.usable q27;
 let q30 : Prop := q15 <= (1000000 : Nat);
 let q31 : Bool := Sp.sameI (Sp.segs x.1) (Sp.segs x.1);
 let q32 : Prop := (true && bif q31 then true else false) = true;
 let q33 : Prop := q32 -> True;
 True ->
 dFact (Ty.int IntKind.i64).slice x.1 /\ dFact ((Ty.int IntKind.i64).prod ((Ty.int IntKind.i64).prod ((Ty.int IntKind.i64).prod ((Ty.int IntKind.i64).prod ((Ty.int IntKind.i64).prod ((Ty.int IntKind.i64).prod ((Ty.int IntKind.i64).prod ((Ty.int IntKind.i64).prod ((Ty.int IntKind.i32).prod Ty.unit))))))))).slice x.2.1 /\ dFact (Ty.bool.prod ((Ty.int IntKind.i16).prod ((Ty.int IntKind.i16).prod ((Ty.int IntKind.i16).prod ((Ty.int IntKind.i32).prod ((Ty.int IntKind.u16).prod ((Ty.int IntKind.u16).prod (Ty.bool.prod Ty.unit)))))))) x.2.2.1 /\ True ->
 q1 /\
 q1 /\
 q1 /\
 ((!true) = true -> q3) /\
 ((!true) = false ->
 ((True /\ True /\ True /\ True /\ q18 /\ q18 /\ q18 /\ True /\ True) /\ True) /\
 (q20 = true -> q1 /\ true = true) /\
 (q20 = false ->
 ((True /\ True) /\ True /\ True) /\
 q2 /\
 (∃ (x_1 : Nat), (x_1 <= q5 /\ x_1 <= q15) /\ ([] : List tArr.den) = List.take x_1 (Sp.arrs x.1) /\ q6 = (↑x_1 : Int) /\ q24) /\
 ∀ (x_1 : Nat),
 let q34 : List (List UInt8 × Int × Int × Int × Unit) := List.take x_1 (Sp.arrs x.1);
 let q35 : Bool := decide ((↑x_1 : Int) < q16);
 let q36 : Prop := (true && bif q35 then true else false) = true -> True;
 let q37 : Bool := bif q35 then decide ((↑x_1 : Int) < (12 : Int)) else false;
 let q38 : Nat := q34.length;
 let q39 : List (List UInt8 × Int × Int × Int × Unit) := (([] : List UInt8), IntKind.i64.wrap (↑(BitVec.ofInt q10 (x.1.getD (↑x_1 : Int).toNat q6) &&& BitVec.ofInt q10 (3 : Int)).toNat : Int), q11) :: ([] : List tArr.den);
 let q40 : Int := (↑x_1 : Int) + q12;
 let q41 : Prop := q21 /\ q22 /\ q23 /\ q7 /\ q34 = q34 /\ q28;
 let q42 : Prop := q32 -> q19 <= q14 /\ q38 <= q14;
 let q43 : Int := Sp.moves x.2.1 q34;
 let q44 : Bool := bif q31 then q43 == q43 else false;
 x_1 <= q5 /\ x_1 <= q15 ->
 dFact (Ty.str.prod ((Ty.int IntKind.i64).prod ((Ty.int IntKind.i64).prod ((Ty.int IntKind.i64).prod Ty.unit)))).slice q34 /\ dFact (Ty.int IntKind.i64) (↑x_1 : Int) /\ True ->
 ((True /\ True /\ True /\ True /\ True /\ q36 /\ q36 /\ True /\ True) /\ True) /\
 (q37 = true -> ((True /\ True /\ True /\ inN (↑x_1 : Int) q15 /\ True /\ q9) /\ (↑(q38 + q39.length) : Int) <= maxNew /\ True /\ True) /\ ((True /\ inK IntKind.i64 q40 /\ True /\ True) /\ True) /\ ∃ (y : Nat), (y <= q5 /\ y <= q15) /\ q5 - y < q5 - x_1 /\ q34 ++ q39 = List.take y (Sp.arrs x.1) /\ q40 = (↑y : Int) /\ q24) /\
 (q37 = false ->
 (q9 /\ True /\ True) /\
 q2 /\
 (∃ (x : Nat), x <= q13 /\ q6 = (↑x : Int) /\ q41) /\
 ∀ (x_2 : Nat),
 let q45 : Bool := decide ((↑x_2 : Int) < q16);
 let q46 : Prop := (true && bif q45 then true else false) = true -> True;
 let q47 : Bool := bif q45 then decide ((↑x_2 : Int) < (8 : Int)) else false;
 let q48 : Prop := inN (↑x_2 : Int) q15;
 let q49 : Int := x.1.getD (↑x_2 : Int).toNat q6;
 let q50 : Int := IntKind.u64.wrap q49;
 let q51 : Int := Sp.static q27 (Sp.lanes q49 q50);
 let q52 : Bool := q51 != q51;
 let q53 : Prop := (true && bif q52 then false else true) = true;
 let q54 : Prop := q53 -> True;
 let q55 : Prop := q53 -> q48;
 let q56 : Int := q12 + IntKind.i64.wrap (↑(BitVec.ofInt q10 q49 &&& BitVec.ofInt q10 (63 : Int)).toNat : Int);
 let q57 : Prop := q53 -> inK IntKind.i64 q56;
 let q58 : Prop := q53 -> q29;
 let q59 : Int := Sp.static q27 (Sp.lanes q56 (IntKind.u64.wrap (↑(BitVec.ofInt q10 ((2 : Int) ^ q10 - q12) ^^^ BitVec.ofInt q10 q50).toNat : Int)));
 let q60 : Bool := bif q52 then true else q59 != q59;
 let q61 : Int := (↑x_2 : Int) + q12;
 x_2 <= q13 -> dFact (Ty.int IntKind.i64) (↑x_2 : Int) /\ True -> ((True /\ True /\ True /\ True /\ True /\ q46 /\ q46 /\ True /\ True) /\ True) /\ (q47 = true -> ((True /\ True /\ True /\ q48 /\ True /\ True /\ True /\ q48 /\ True /\ True /\ q29 /\ True /\ True /\ True /\ q48 /\ True /\ True /\ True /\ q48 /\ True /\ True /\ q29 /\ True /\ True /\ q54 /\ q54 /\ q54 /\ q55 /\ q54 /\ q54 /\ q57 /\ q54 /\ q54 /\ q55 /\ q54 /\ q54 /\ q54 /\ q58 /\ q54 /\ q54 /\ q54 /\ q55 /\ q54 /\ q54 /\ q57 /\ q54 /\ q54 /\ q55 /\ q54 /\ q54 /\ q54 /\ q58 /\ q54 /\ True /\ True) /\ True) /\ (q60 = true -> q3) /\ (q60 = false -> ((True /\ inK IntKind.i64 q61 /\ True /\ True) /\ True) /\ ∃ (y : Nat), y <= q13 /\ q13 - y < q13 - x_2 /\ q61 = (↑y : Int) /\ q41)) /\ (q47 = false -> ((True /\ q30 /\ True /\ q30 /\ True /\ True /\ q33 /\ q33 /\ q42 /\ q33 /\ q33 /\ q42 /\ q33 /\ True /\ True /\ ((true && bif q44 then true else false) = true -> True) /\ q0) /\ True) /\ (bif q44 then true else false) = true))))) := by kernel_rfl
theorem vc6 : (funI C6 (stpS C6) S6 L6 Tryd.f6) = (
let q0 : Nat := (3 : Nat);
let q1 : Prop := True /\ True /\ True;
let q2 : Prop := True /\ q1;
let q3 : Prop := q1 /\ True;
let q4 : Int := (1 : Int);
let q5 : Nat := (64 : Nat);
let q6 : Int := (0 : Int);
let q7 : Int := (2 : Int);
let q8 : Prop := True /\ q2;
let q9 : Int := (1073741824 : Int);
let q10 : Int := (2199023255552 : (AK.val tI).den);
let q11 : Bool × Int × Int × Int × (Int × Int × Int × Unit) × Unit := (true, q6, q6, q6, (q6, q6, q6, ()), ());
∀ (x : (Bool × Int × Int × Int × Int × Int × Int × Bool × Unit) × List Int × List Int × Unit),
 let q12 : Int := q4 + IntKind.i64.wrap (↑(BitVec.ofInt q5 (x.2.1.getD q4.toNat q6) &&& BitVec.ofInt q5 (63 : Int)).toNat : Int);
 let q13 : Bool × Int × Int × Int × Int × Int × Int × Bool × Unit := (false, x.1.2);
 let q14 : Bool × Int × Int × Int × (Int × Int × Int × Unit) × Unit := (false, Sp.fItem q13, x.1.2.2.1, x.1.2.2.2.1, (x.1.2.2.2.2.1, Sp.fHi q13, Sp.fSt q13, ()), ());
 let q15 : Prop := Sp.usable q14;
 let q16 : List Int := Sp.lanes q12 (IntKind.u64.wrap (x.2.1.getD q7.toNat q6));
 let q17 : Int := Int.tmod (x.2.1.getD q6.toNat q6) q9;
 let q18 : List Int := Sp.words q14 q16 q17 x.2.2.1;
 let q19 : Int := Sp.static q14 q16;
 let q20 : Bool := decide ((↑(Sp.segs q18).length : Int) <= q19);
 let q21 : Prop := (true && bif q20 then true else false) = true -> True;
 let q22 : Int := (↑q16.length : Int);
 let q23 : Bool := bif q20 then decide (q19 <= q22) else false;
 let q24 : Prop := (true && bif q23 then true else false) = true;
 let q25 : Prop := q24 -> True;
 let q26 : Bool := bif q23 then Sp.static q11 q16 == q22 else false;
 True -> dFact (Ty.bool.prod ((Ty.int IntKind.i16).prod ((Ty.int IntKind.i16).prod ((Ty.int IntKind.i16).prod ((Ty.int IntKind.i32).prod ((Ty.int IntKind.u16).prod ((Ty.int IntKind.u16).prod (Ty.bool.prod Ty.unit)))))))) x.1 /\ dFact (Ty.arr q0 (Ty.int IntKind.i64)) x.2.1 /\ dFact (Ty.int IntKind.u16).slice x.2.2.1 /\ True -> (q2 /\ True) /\ q3 /\ q3 /\ ((!true) = true -> ((True /\ True) /\ True) /\ false = true) /\ ((!true) = false -> ((True /\ True) /\ True /\ True) /\ (True /\ True /\ inN q4 q0 /\ True /\ True /\ inK IntKind.i64 q12 /\ inN q7 q0 /\ True /\ q8) /\ (q8 /\ True) /\ ((True /\ True /\ True /\ q15 /\ True /\ True) /\ True) /\ ((True /\ True /\ inN q6 q0 /\ True /\ q9 ≠ q6 /\ True /\ (q15 /\ Sp.lanesOk q16 /\ -q10 <= q17 /\ q17 <= q10) /\ True /\ True) /\ True) /\ (q1 /\ True /\ True) /\ ((True /\ q18.length <= (1000000 : Nat) /\ True /\ True /\ True /\ True /\ q21 /\ q21 /\ q21 /\ q21 /\ True /\ True /\ q25 /\ q25 /\ q25 /\ (q24 -> Sp.usable q11) /\ q25 /\ q25 /\ q25 /\ True /\ True /\ ((true && bif q26 then true else false) = true -> True) /\ q1) /\ True) /\ (bif q26 then true else false) = true)) := by kernel_rfl
theorem vc8 : (funI C8 (stpS C8) S8 L8 Tryd.f8) = (
let q0 : Prop := True /\ True /\ True;
let q1 : Prop := q0 /\ True;
let q2 : Prop := q0 /\ True /\ True;
let q3 : Int := (7 : Int);
let q4 : Int := (5 : Int);
let q5 : Int := (64 : Int);
let q6 : Nat := (64 : Nat);
∀ (x : (Bool × Int × Int × Int × Int × Int × Int × Bool × Unit) × Int × Int × Unit),
 let q7 : Int := x.1.2.2.2.1;
 let q8 : Int := x.1.2.2.2.2.1;
 let q9 : Int × Unit := (Sp.fSt x.1, ());
 let q10 : Bool × Int × Int × Int × (Int × Int × Int × Unit) × Unit := (x.1.1, Sp.fItem x.1, x.1.2.2.1, q7, (q8, Sp.fHi x.1, q9), ());
 let q11 : Prop := Sp.usable q10;
 let q12 : Int := q3 - q7;
 let q13 : Int := q8 + q4;
 let q14 : Int := Sp.fHi x.1 + q4;
 let q15 : Bool := decide (Sp.fSt x.1 > (0 : Int));
 let q16 : Prop := (true && bif q15 then true else false) = true;
 let q17 : Prop := q16 -> True;
 let q18 : Int := Sp.fHi x.1 - Sp.fSt x.1;
 let q19 : Prop := inK IntKind.i64 q18;
 let q20 : Bool := bif q15 then decide (q18 > q8) else false;
 let q21 : List Int := Sp.lanes q5 x.2.1;
 let q22 : Int := Sp.static q10 q21;
 let q23 : Bool := decide (Sp.static q10 (Sp.lanes q5 (IntKind.u64.wrap (↑(BitVec.ofInt q6 x.2.1 &&& BitVec.ofInt q6 x.2.2.1).toNat : Int))) <= q22);
 let q24 : Prop := (true && bif q23 then true else false) = true;
 let q25 : Prop := q24 -> True;
 let q26 : Bool × Int × Int × Int × (Int × Int × Int × Unit) × Unit := (x.1.1, Sp.fItem x.1, x.1.2.2.1, q12, (q13, q14, q9), ());
 let q27 : Prop := q24 -> Sp.usable q26;
 let q28 : Bool := bif q23 then Sp.static q26 q21 == q22 else false;
 let q29 : Prop := (true && bif q28 then true else false) = true;
 let q30 : Prop := q29 -> True;
 let q31 : Bool × Int × Int × Int × (Int × Int × Int × Unit) × Unit := (x.1.1, Sp.fItem x.1, x.1.2.2.1, q7, (q8, q18, q9), ());
 let q32 : Bool := bif q28 then decide (Sp.static q31 q21 <= q22) else false;
 let q33 : Prop := (true && bif q32 then true else false) = true;
 let q34 : Prop := q33 -> True;
 let q35 : Bool := decide (Sp.static q10 (Sp.lanes (20 : Int) x.2.1) <= q22);
 let q36 : Bool := bif q32 then q35 else false;
 let q37 : Bool := bif q28 then decide (q22 <= q22) else false;
 let q38 : Prop := (true && bif q37 then true else false) = true;
 let q39 : Prop := q38 -> True;
 let q40 : Bool := bif q37 then q35 else false;
 True -> dFact (Ty.bool.prod ((Ty.int IntKind.i16).prod ((Ty.int IntKind.i16).prod ((Ty.int IntKind.i16).prod ((Ty.int IntKind.i32).prod ((Ty.int IntKind.u16).prod ((Ty.int IntKind.u16).prod (Ty.bool.prod Ty.unit)))))))) x.1 /\ dFact (Ty.int IntKind.u64) x.2.1 /\ dFact (Ty.int IntKind.u64) x.2.2.1 /\ True -> q1 /\ q1 /\ q1 /\ ((!true) = true -> ((True /\ True) /\ True) /\ false = true) /\ ((!true) = false -> ((True /\ q0) /\ True /\ True) /\ ((True /\ True /\ q11 /\ True /\ True) /\ True) /\ q2 /\ ((True /\ True /\ inK IntKind.i64 q12 /\ True /\ True) /\ True /\ True) /\ ((True /\ True /\ True /\ inK IntKind.i64 q13 /\ q0) /\ True /\ True) /\ ((True /\ True /\ True /\ inK IntKind.i64 q14 /\ q0) /\ True /\ True) /\ q2 /\ ((True /\ True /\ True /\ True /\ True /\ q17 /\ q17 /\ q17 /\ q17 /\ q17 /\ q17 /\ (q16 -> q19) /\ q17 /\ q17 /\ q17 /\ q17 /\ True /\ True) /\ True) /\ (q20 = true -> ((True /\ True /\ True /\ True /\ True /\ True /\ q19 /\ q0) /\ True /\ True) /\ ((True /\ True /\ True /\ True /\ q11 /\ True /\ True /\ True /\ q25 /\ q25 /\ q27 /\ q25 /\ q25 /\ True /\ True /\ q30 /\ q30 /\ (q29 -> Sp.usable q31) /\ q30 /\ q30 /\ True /\ True /\ q34 /\ q34 /\ (q33 -> q11) /\ q34 /\ q34 /\ True /\ True /\ ((true && bif q36 then true else false) = true -> True) /\ q0) /\ True) /\ (bif q36 then true else false) = true) /\ (q20 = false -> ((True /\ True /\ True /\ True /\ q11 /\ True /\ True /\ True /\ q25 /\ q25 /\ q27 /\ q25 /\ q25 /\ True /\ True /\ q30 /\ q30 /\ (q29 -> q11) /\ q30 /\ q30 /\ True /\ True /\ q39 /\ q39 /\ (q38 -> q11) /\ q39 /\ q39 /\ True /\ True /\ ((true && bif q40 then true else false) = true -> True) /\ q0) /\ True) /\ (bif q40 then true else false) = true))) := by kernel_rfl
theorem vc7 : (funI C7 (stpS C7) S7 L7 Tryd.f7) = (
let q0 : Prop := (True /\ True) /\ True;
let q1 : Prop := True /\ True /\ True;
let q2 : Prop := q1 /\ True;
let q3 : Prop := q0 /\ false = true;
let q4 : Int := (1099511627776 : Int);
let q5 : Int := (0 : Int);
let q6 : Int := (64 : Int);
let q7 : Int := (1 : Int);
let q8 : Prop := True /\ q1;
let q9 : Nat := (16 : Nat);
let q10 : Int := (1099511627776 : Int);
let q11 : Prop := true = true;
let q12 : Int := (16 : Int);
let q13 : Int := (2199023255552 : (AK.val tI).den);
let q14 : List Int := ([] : List (Ty.int IntKind.u16).den);
let q15 : Bool × Int × Int × Int × (Int × Int × Int × Unit) × Unit := Sp.form0 q5;
let q16 : Bool × Int × Int × Int × (Int × Int × Int × Unit) × Unit := Sp.form0 q7;
let q17 : Int := (30 : Int);
let q18 : Bool × Int × Int × Int × (Int × Int × Int × Unit) × Unit := Sp.form0 (-q7);
∀ (x : Int × Int × Int × Unit),
 let q19 : Int := q7 + x.2.1 % q6;
 let q20 : List Int := Sp.lanes q19 x.2.2.1;
 let q21 : Int := (↑q20.length : Int);
 let q22 : Bool := q21 == q5;
 let q23 : Bool × Int × Int × Int × (Int × Int × Int × Unit) × Unit := Sp.form0 (x.1.tmod q4);
 let q24 : Prop := Sp.usable q23;
 let q25 : Int := Sp.static q23 q20;
 let q26 : Bool := q25 == q5;
 let q27 : List Int := Sp.lanes (q7 + x.2.1 % q6) x.2.2.1;
 let q28 : Prop := x.1.tmod q4 = x.1.tmod q4 /\ x.2.2.1 = x.2.2.1 /\ q11 /\ q19 = q19 /\ q20 = q20 /\ q25 = q25 /\ True;
 let q29 : Bool := decide (x.1.tmod q4 ≥ q12);
 let q30 : Bool := bif q29 then true else decide (x.1.tmod q4 <= -q12);
 let q31 : Bool := Sp.static q15 q20 == q7;
 let q32 : Prop := (true && bif q31 then true else false) = true;
 let q33 : Prop := q32 -> True;
 let q34 : Int := q19 + q17;
 let q35 : Prop := inK IntKind.i64 q34;
 let q36 : Int := q34.tdiv q12;
 let q37 : Prop := q12 ≠ q5 /\ inK IntKind.i64 q36;
 let q38 : List Int := Sp.lanes q19 (18446744073709551615 : Int);
 let q39 : Bool := bif q31 then Sp.static q16 q38 == q36 else false;
 let q40 : Prop := (true && bif q39 then true else false) = true;
 let q41 : Prop := q40 -> True;
 let q42 : Bool := bif q39 then Sp.static q18 q38 == q36 else false;
 True ->
 dFact (Ty.int IntKind.i64) x.1 /\ dFact (Ty.int IntKind.u8) x.2.1 /\ dFact (Ty.int IntKind.u64) x.2.2.1 /\ True ->
 q0 /\
 q2 /\
 q2 /\
 ((!true) = true -> q3) /\
 ((!true) = false ->
 ((True /\ q4 ≠ q5 /\ True /\ True) /\ True) /\
 ((True /\ q6 ≠ q5 /\ True /\ inK IntKind.i64 q19 /\ True /\ True) /\ True) /\
 ((True /\ q8) /\ True) /\
 (q8 /\ True) /\
 (q22 = true -> ((True /\ True /\ True /\ True /\ q24 /\ True /\ True /\ ((true && bif q26 then true else false) = true -> True) /\ q1) /\ True) /\ (bif q26 then true else false) = true) /\
 (q22 = false ->
 ((True /\ True /\ True /\ True /\ q24 /\ q1) /\ True) /\
 q0 /\
 (∃ (x_1 : Nat), x_1 <= q9 /\ q5 = (↑(Sp.maxSegs (x.1.tmod q10) q27 x_1) : tI.den) /\ q5 = (↑x_1 : Int) /\ q28) /\
 ∀ (x_1 : Nat),
 let q43 : Int := (↑(Sp.maxSegs (x.1.tmod q10) q27 x_1) : tI.den);
 let q44 : Bool := decide ((↑x_1 : Int) < q12);
 let q45 : List Int := Sp.words q23 q20 (↑x_1 : Int) q14;
 let q46 : Int := (↑x_1 : Int) + q7;
 let q47 : Bool := q43 != q25;
 let q48 : Bool := true && bif q47 then false else true;
 let q49 : Prop := q48 = true -> True;
 let q50 : Prop := (q48 && bif q29 then false else true) = true -> True;
 let q51 : Prop := (q48 && bif q30 then true else false) = true -> True;
 let q52 : Bool := bif q47 then true else bif q30 then q25 != q21 else false;
 x_1 <= q9 -> dFact (Ty.int IntKind.i64) q43 /\ dFact (Ty.int IntKind.i64) (↑x_1 : Int) /\ True -> q2 /\ (q44 = true -> ((True /\ True /\ True /\ True /\ True /\ (q24 /\ Sp.lanesOk q20 /\ -q13 <= (↑x_1 : Int) /\ (↑x_1 : Int) <= q13) /\ q45.length <= (1000000 : Nat) /\ q8) /\ True) /\ ((True /\ inK IntKind.i64 q46 /\ True /\ True) /\ True) /\ ∃ (y : Nat), y <= q9 /\ q9 - y < q9 - x_1 /\ Max.max q43 (↑(Sp.segs q45).length : Int) = (↑(Sp.maxSegs (x.1.tmod q10) q27 y) : tI.den) /\ q46 = (↑y : Int) /\ q28) /\ (q44 = false -> ((True /\ True /\ True /\ True /\ q49 /\ q49 /\ q49 /\ q50 /\ q50 /\ q49 /\ q49 /\ q51 /\ q51 /\ q51 /\ q51 /\ q49 /\ True /\ True) /\ True) /\ (q52 = true -> q3) /\ (q52 = false -> q0 /\ ((True /\ True /\ True /\ Sp.usable q15 /\ True /\ True /\ q33 /\ q33 /\ q33 /\ (q32 -> Sp.usable q16) /\ q33 /\ (q32 -> q35) /\ (q32 -> q37) /\ q33 /\ True /\ True /\ q41 /\ q41 /\ q41 /\ (q40 -> Sp.usable q18) /\ q41 /\ (q40 -> q35) /\ (q40 -> q37) /\ q41 /\ True /\ True /\ ((true && bif q42 then true else false) = true -> True) /\ q1) /\ True) /\ (bif q42 then true else false) = true))))) := by kernel_rfl
end Go.User
namespace Go.User
open Go.Proofs Go.Lf
set_option maxRecDepth 100000
theorem vc12 : (funI C12 (stpS C12) S12 L12 Tryd.f12) = (
let q0 : Prop := True /\ True /\ True;
let q1 : Prop := q0 /\ True;
let q2 : Prop := True /\ q0;
let q3 : Prop := True /\ q2;
let q4 : Prop := q3 /\ True;
let q5 : Int := (0 : Int);
let q6 : Prop := True /\ q3;
let q7 : Prop := (True /\ True) /\ True;
let q8 : Nat := (16 : Nat);
let q9 : Int := (16 : Int);
let q10 : Int := (1 : Int);
let q11 : Prop := q9 ≠ q5;
let q12 : Int := (2 : Int);
∀ (x : (Bool × Int × Int × Int × (Int × Int × Int × Unit) × Unit) × Int × Int × Unit),
 let q13 : List Int := Sp.lanes x.2.1 x.2.2.1;
 let q14 : Nat := q13.length;
 let q15 : Int := (↑q14 : Int);
 let q16 : Bool := q15 == q5;
 let q17 : Prop := (true && bif q16 then false else true) = true -> True;
 let q18 : Bool := bif q16 then true else x.1.1;
 let q19 : Int := Sp.static x.1 q13;
 let q20 : Int := x.1.2.1 + x.1.2.2.1;
 let q21 : Int × Int × Int × Unit := x.1.2.2.2.2.1;
 let q22 : Int := q21.1;
 let q23 : Int := q21.2.1;
 let q24 : Bool := q22 == q23;
 let q25 : Prop := x.1 = x.1;
 let q26 : Prop := q13 = q13;
 let q27 : Prop := q20 = q20;
 let q28 : Prop := q25 /\ q26 /\ q27 /\ True;
 let q29 : Nat := q13.length;
 let q30 : Bool := decide (q20 < q5);
 let q31 : Int := q5 - q20;
 let q32 : Int := q15 - q10;
 let q33 : Prop := inK IntKind.i64 q32;
 let q34 : Prop := inN q32 q14;
 let q35 : Prop := inN q5 q14;
 let q36 : Int := q13.getD q32.toNat q5 - q13.getD q5.toNat q5;
 let q37 : Prop := inK IntKind.i64 q36;
 let q38 : Int := q31 * q36;
 let q39 : Int := q38 + q23;
 let q40 : Int := q39 - q22;
 let q41 : Int := q40 - q10;
 let q42 : Int := q41.tdiv q9;
 let q43 : Int := q42 + q12;
 let q44 : Int := q20 * q36;
 let q45 : Int := q44 + q23;
 let q46 : Int := q45 - q22;
 let q47 : Int := q46 - q10;
 let q48 : Int := q47.tdiv q9;
 let q49 : Int := q48 + q12;
 Sp.usable x.1 ->
 dFact (Ty.bool.prod ((Ty.int IntKind.i64).prod ((Ty.int IntKind.i64).prod ((Ty.int IntKind.i64).prod (((Ty.int IntKind.i64).prod ((Ty.int IntKind.i64).prod ((Ty.int IntKind.i64).prod Ty.unit))).prod Ty.unit))))) x.1 /\ dFact (Ty.int IntKind.i64) x.2.1 /\ dFact (Ty.int IntKind.u64) x.2.2.1 /\ True ->
 q1 /\
 q4 /\
 ((True /\ True /\ True /\ True /\ q17 /\ q17 /\ True /\ True) /\ True) /\
 (q18 = true -> (q2 /\ True) /\ q15 = q19) /\
 (q18 = false ->
 ((True /\ True /\ True /\ True /\ inK IntKind.i64 q20 /\ True /\ True) /\ True) /\
 ((True /\ True /\ q6) /\ True) /\
 (q24 = true ->
 q7 /\
 q7 /\
 (∃ (x_1 : Nat), x_1 <= q8 /\ q5 = (↑(Sp.maxSegs (Sp.sOf x.1) q13 x_1) : tI.den) /\ q5 = (↑x_1 : Int) /\ q28) /\
 ∀ (x_1 : Nat),
 let q50 : Int := (↑(Sp.maxSegs (Sp.sOf x.1) q13 x_1) : tI.den);
 let q51 : Bool := decide ((↑x_1 : Int) < q9);
 let q52 : Prop := q25 /\ q26 /\ q27 /\ q50 = q50 /\ (↑x_1 : Int) = (↑x_1 : Int) /\ True;
 let q53 : Int := (↑x_1 : Int) + q10;
 x_1 <= q8 ->
 dFact (Ty.int IntKind.i64) q50 /\ dFact (Ty.int IntKind.i64) (↑x_1 : Int) /\ True ->
 q1 /\
 (q51 = true ->
 q1 /\
 q7 /\
 (∃ (x_2 : Nat), x_2 <= q29 /\ ([] : List tI.den) = Sp.segsAt (Sp.sOf x.1) (↑x_1 : Int) (List.take x_2 q13) /\ q5 = (↑x_2 : Int) /\ q52) /\
 ∀ (x_2 : Nat),
 let q54 : List Int := Sp.segsAt (Sp.sOf x.1) (↑x_1 : Int) (List.take x_2 q13);
 let q55 : Bool := decide ((↑x_2 : Int) < q15);
 let q56 : Int := q20 * q13.getD (↑x_2 : Int).toNat q5;
 let q57 : Int := (↑x_1 : Int) + q56;
 let q58 : Nat := q54.length;
 let q59 : Int := (↑x_2 : Int) + q10;
 x_2 <= q29 -> dFact (Ty.int IntKind.i64).slice q54 /\ dFact (Ty.int IntKind.i64) (↑x_2 : Int) /\ True -> q4 /\ (q55 = true -> ((True /\ True /\ True /\ True /\ True /\ inN (↑x_2 : Int) q14 /\ True /\ inK IntKind.i64 q56 /\ inK IntKind.i64 q57 /\ True /\ (q58 <= (1000000 : Nat) /\ Sp.incr q54) /\ True /\ True) /\ True) /\ ((True /\ inK IntKind.i64 q59 /\ True /\ True) /\ True) /\ ∃ (y : Nat), y <= q29 /\ q29 - y < q29 - x_2 /\ Sp.added q54 (q57 / (16 : tI.den)) = Sp.segsAt (Sp.sOf x.1) (↑x_1 : Int) (List.take y q13) /\ q59 = (↑y : Int) /\ q52) /\ (q55 = false -> (q6 /\ True) /\ ((True /\ inK IntKind.i64 q53 /\ True /\ True) /\ True) /\ ∃ (y : Nat), y <= q8 /\ q8 - y < q8 - x_1 /\ Max.max q50 (↑q58 : Int) = (↑(Sp.maxSegs (Sp.sOf x.1) q13 y) : tI.den) /\ q53 = (↑y : Int) /\ q28)) /\
 (q51 = false -> q1 /\ q50 = q19)) /\
 (q24 = false -> q1 /\ (q30 = true -> ((True /\ inK IntKind.i64 q31 /\ True /\ True) /\ True) /\ ((True /\ True /\ True /\ True /\ q33 /\ q34 /\ True /\ True /\ q35 /\ True /\ q37 /\ inK IntKind.i64 q38 /\ True /\ True /\ True /\ inK IntKind.i64 q39 /\ True /\ True /\ True /\ inK IntKind.i64 q40 /\ True /\ True) /\ True) /\ ((True /\ True /\ True /\ inK IntKind.i64 q41 /\ (q11 /\ inK IntKind.i64 q42) /\ inK IntKind.i64 q43 /\ q0) /\ True) /\ Min.min q15 q43 = q19) /\ (q30 = false -> ((True /\ True /\ True /\ True /\ q33 /\ q34 /\ True /\ True /\ q35 /\ True /\ q37 /\ inK IntKind.i64 q44 /\ True /\ True /\ True /\ inK IntKind.i64 q45 /\ True /\ True /\ True /\ inK IntKind.i64 q46 /\ True /\ True) /\ True) /\ ((True /\ True /\ True /\ inK IntKind.i64 q47 /\ (q11 /\ inK IntKind.i64 q48) /\ inK IntKind.i64 q49 /\ q0) /\ True) /\ Min.min q15 q49 = q19)))) := by kernel_rfl
theorem vc17 : (funI C17 (stpS C17) S17 L17 Tryd.f17) = (
let q0 : Nat := (1000 : Nat);
let q1 : Prop := (True /\ True) /\ True;
let q2 : Int := (0 : Int);
let q3 : Prop := True /\ True /\ True;
let q4 : Prop := (True /\ True /\ q3) /\ True;
let q5 : Prop := q3 /\ True;
let q6 : Int × Int × Int × Int × Int × Int × Int × Int × Int × Unit := (q2, q2, q2, q2, q2, q2, q2, q2, q2, ());
let q7 : Int := (1 : Int);
∀ (x : List (Int × Int × Int × Int × Int × Int × Int × Int × Int × Unit) × List (List UInt8 × Int × Int × Int × Unit) × Unit),
 let q8 : Nat := x.1.length;
 let q9 : Nat := x.2.1.length;
 let q10 : Prop := x.1 = x.1;
 let q11 : Prop := x.2.1 = x.2.1;
 let q12 : Prop := q10 /\ q11 /\ True;
 q8 <= q0 /\ q9 <= q0 ->
 dFact ((Ty.int IntKind.i64).prod ((Ty.int IntKind.i64).prod ((Ty.int IntKind.i64).prod ((Ty.int IntKind.i64).prod ((Ty.int IntKind.i64).prod ((Ty.int IntKind.i64).prod ((Ty.int IntKind.i64).prod ((Ty.int IntKind.i64).prod ((Ty.int IntKind.i32).prod Ty.unit))))))))).slice x.1 /\ dFact (Ty.str.prod ((Ty.int IntKind.i64).prod ((Ty.int IntKind.i64).prod ((Ty.int IntKind.i64).prod Ty.unit)))).slice x.2.1 /\ True ->
 q1 /\
 q1 /\
 q1 /\
 (∃ (x_1 : Nat), x_1 <= q9 /\ q2 = (↑(Sp.movesTo x.1 x.2.1 x_1) : tI.den) /\ q2 = (↑x_1 : Int) /\ q12) /\
 ∀ (x_1 : Nat),
 let q13 : Int := (↑(Sp.movesTo x.1 x.2.1 x_1) : tI.den);
 let q14 : Bool := decide ((↑x_1 : Int) < (↑q9 : Int));
 let q15 : Prop := q10 /\ q11 /\ q13 = q13 /\ (↑x_1 : Int) = (↑x_1 : Int) /\ True;
 let q16 : Int := (↑x_1 : Int) + q7;
 x_1 <= q9 ->
 dFact (Ty.int IntKind.i64) q13 /\ dFact (Ty.int IntKind.i64) (↑x_1 : Int) /\ True ->
 q4 /\
 (q14 = true ->
 q5 /\
 q1 /\
 (∃ (x_2 : Nat), x_2 <= q8 /\ ([] : List tI.den) = Sp.segs (Sp.wordsAt (List.take x_2 x.1) x.2.1 (↑x_1 : Int)) /\ q2 = (↑x_2 : Int) /\ q15) /\
 ∀ (x_2 : Nat),
 let q17 : List Int := Sp.segs (Sp.wordsAt (List.take x_2 x.1) x.2.1 (↑x_1 : Int));
 let q18 : Bool := decide ((↑x_2 : Int) < (↑q8 : Int));
 let q19 : Prop := inN (↑x_2 : Int) q8;
 let q20 : Int × Int × Int × Int × Int × Int × Int × Int × Int × Unit := x.1.getD (↑x_2 : Int).toNat q6;
 let q21 : Int × Int × Int × Unit := q20.2.2.2.2.2.2;
 let q22 : Bool := q21.1 == (↑x_1 : Int);
 let q23 : Prop := (true && bif q22 then true else false) = true;
 let q24 : Prop := q23 -> True;
 let q25 : Bool := bif q22 then Sp.counts q20 x.2.1 else false;
 let q26 : Nat := q17.length;
 let q27 : Int := (↑x_2 : Int) + q7;
 let q28 : Prop := (True /\ inK IntKind.i64 q27 /\ True /\ True) /\ True;
 let q29 : Int := q13 + (↑q26 : Int);
 x_2 <= q8 -> dFact (Ty.int IntKind.i64).slice q17 /\ dFact (Ty.int IntKind.i64) (↑x_2 : Int) /\ True -> q4 /\ (q18 = true -> ((True /\ True /\ q19 /\ True /\ True /\ True /\ True /\ True /\ q24 /\ q24 /\ (q23 -> q19) /\ q24 /\ q24 /\ q24 /\ True /\ True) /\ True) /\ (q25 = true -> ((True /\ True /\ True /\ q19 /\ True /\ True /\ True /\ (q26 <= (1000000 : Nat) /\ Sp.incr q17) /\ True /\ True) /\ True) /\ q28 /\ ∃ (y : Nat), y <= q8 /\ q8 - y < q8 - x_2 /\ Sp.added q17 (q21.2.1 / (16 : tI.den)) = Sp.segs (Sp.wordsAt (List.take y x.1) x.2.1 (↑x_1 : Int)) /\ q27 = (↑y : Int) /\ q15) /\ (q25 = false -> q28 /\ ∃ (y : Nat), y <= q8 /\ q8 - y < q8 - x_2 /\ q17 = Sp.segs (Sp.wordsAt (List.take y x.1) x.2.1 (↑x_1 : Int)) /\ q27 = (↑y : Int) /\ q15)) /\ (q18 = false -> ((True /\ True /\ True /\ inK IntKind.i64 q29 /\ True /\ True) /\ True) /\ ((True /\ inK IntKind.i64 q16 /\ True /\ True) /\ True) /\ ∃ (y : Nat), y <= q9 /\ q9 - y < q9 - x_1 /\ q29 = (↑(Sp.movesTo x.1 x.2.1 y) : tI.den) /\ q16 = (↑y : Int) /\ q12)) /\
 (q14 = false -> q5 /\ q13 = Sp.moves x.1 x.2.1)) := by kernel_rfl
theorem vc20 : (funI C20 (stpS C20) S20 L20 Tryd.f20) = (
let q0 : Int := (2199023255552 : (AK.val tI).den);
let q1 : Prop := True /\ True /\ True;
let q2 : Prop := q1 /\ True;
let q3 : Int := (0 : Int);
let q4 : Prop := (True /\ True /\ q1) /\ True;
let q5 : Int := (1 : Int);
∀ (x : (Bool × Int × Int × Int × (Int × Int × Int × Unit) × Unit) × List Int × Int × List Int × Unit),
 let q6 : Nat := x.2.1.length;
 let q7 : List Int := Sp.words x.1 x.2.1 x.2.2.1 x.2.2.2.1;
 let q8 : Prop := x.2.1 = x.2.1 /\ x.2.2.1 = x.2.2.1 /\ x.2.2.2.1 = x.2.2.2.1 /\ x.1 = x.1 /\ True;
 let q9 : Int × Int × Int × Unit := x.1.2.2.2.2.1;
 let q10 : Int × Int × Unit := q9.2;
 let q11 : Int := q10.2.1;
 let q12 : Bool := decide (q11 > q3);
 let q13 : Prop := (true && bif q12 then true else false) = true -> True;
 let q14 : Nat := x.2.2.2.1.length;
 let q15 : Int := (↑q14 : Int);
 let q16 : Bool := bif q12 then decide (q15 > q3) else false;
 let q17 : Int := q9.1;
 let q18 : Int := q10.1 - q17;
 let q19 : Int := q18.tdiv q11;
 let q20 : Int := q19 + q5;
 let q21 : Int := x.1.2.1 + x.1.2.2.1;
 let q22 : Prop := inK IntKind.i64 q21;
 Sp.usable x.1 /\ Sp.lanesOk x.2.1 /\ -q0 <= x.2.2.1 /\ x.2.2.1 <= q0 ->
 dFact (Ty.bool.prod ((Ty.int IntKind.i64).prod ((Ty.int IntKind.i64).prod ((Ty.int IntKind.i64).prod (((Ty.int IntKind.i64).prod ((Ty.int IntKind.i64).prod ((Ty.int IntKind.i64).prod Ty.unit))).prod Ty.unit))))) x.1 /\ dFact (Ty.int IntKind.i64).slice x.2.1 /\ dFact (Ty.int IntKind.i64) x.2.2.1 /\ dFact (Ty.int IntKind.u16).slice x.2.2.2.1 /\ True ->
 q2 /\
 ((True /\ True) /\ True /\ True) /\
 ((True /\ True) /\ True) /\
 (∃ (x : Nat), x <= q6 /\ ([] : List tI.den) = List.take x q7 /\ q3 = (↑x : Int) /\ q8) /\
 ∀ (x_1 : Nat),
 let q23 : List Int := List.take x_1 q7;
 let q24 : Bool := decide ((↑x_1 : Int) < (↑q6 : Int));
 let q25 : Int := (↑x_1 : Int).tmod q15;
 let q26 : Int := q11 * Int.tmod (x.2.2.2.1.getD q25.toNat q3) q20;
 let q27 : Int := q17 + q26;
 let q28 : Prop := inN (↑x_1 : Int) q6;
 let q29 : Int := q21 * x.2.1.getD (↑x_1 : Int).toNat q3;
 let q30 : Prop := inK IntKind.i64 q29;
 let q31 : Int := x.2.2.1 + q29;
 let q32 : Prop := inK IntKind.i64 q31;
 let q33 : Int := q31 + q27;
 let q34 : Nat := q23.length;
 let q35 : List Int := q33 :: ([] : List tI.den);
 let q36 : Int := (↑x_1 : Int) + q5;
 let q37 : Prop := (True /\ inK IntKind.i64 q36 /\ True /\ True) /\ True;
 let q38 : Int := q31 + q17;
 let q39 : List Int := q38 :: ([] : List tI.den);
 x_1 <= q6 -> dFact (Ty.int IntKind.i64).slice q23 /\ dFact (Ty.int IntKind.i64) (↑x_1 : Int) /\ True -> q4 /\ (q24 = true -> q4 /\ ((True /\ True /\ True /\ True /\ True /\ q13 /\ q13 /\ q13 /\ True /\ True) /\ True) /\ (q16 = true -> ((True /\ True /\ True /\ True /\ True /\ True /\ inK IntKind.i64 q18 /\ True /\ True /\ True /\ (q11 ≠ q3 /\ inK IntKind.i64 q19) /\ inK IntKind.i64 q20 /\ True /\ True) /\ True) /\ ((True /\ True /\ True /\ True /\ True /\ True /\ True /\ True /\ q15 ≠ q3 /\ inN q25 q14 /\ True /\ True /\ True /\ q20 ≠ q3 /\ inK IntKind.i64 q26 /\ inK IntKind.i64 q27 /\ True /\ True) /\ True) /\ ((True /\ True /\ True /\ True /\ True /\ True /\ q22 /\ True /\ True /\ q28 /\ True /\ q30 /\ q32 /\ True /\ inK IntKind.i64 q33 /\ True /\ True) /\ (↑(q34 + q35.length) : Int) <= maxNew /\ True /\ True) /\ q37 /\ ∃ (y : Nat), y <= q6 /\ q6 - y < q6 - x_1 /\ q23 ++ q35 = List.take y q7 /\ q36 = (↑y : Int) /\ q8) /\ (q16 = false -> ((True /\ True /\ True /\ True /\ True /\ True /\ q22 /\ True /\ True /\ q28 /\ True /\ q30 /\ q32 /\ True /\ inK IntKind.i64 q38 /\ True /\ True) /\ (↑(q34 + q39.length) : Int) <= maxNew /\ True /\ True) /\ q37 /\ ∃ (y : Nat), y <= q6 /\ q6 - y < q6 - x_1 /\ q23 ++ q39 = List.take y q7 /\ q36 = (↑y : Int) /\ q8)) /\ (q24 = false -> q2 /\ q23 = q7)) := by kernel_rfl
theorem vc22 : (funI C22 (stpS C22) S22 L22 Tryd.f22) = (
let q0 : Int := (0 : Int);
let q1 : Int := (1 : Int);
let q2 : Prop := True /\ True /\ True;
let q3 : Prop := True /\ True /\ q2;
let q4 : Prop := True /\ q3;
let q5 : Int := (2 : Int);
let q6 : Int := (4 : Int);
let q7 : Int := (8 : Int);
let q8 : Int := (16 : Int);
let q9 : Int := (32 : Int);
let q10 : Nat := (64 : Nat);
let q11 : Int := (2 : (Ty.int IntKind.u64).den);
∀ (x : Int × Unit),
 let q12 : Int := IntKind.u64.wrap (IntKind.u64.wrap (↑(BitVec.ofInt q10 (x.1 / q11 ^ shiftN IntKind.u64 q1) &&& BitVec.ofInt q10 (6148914691236517205 : Int)).toNat : Int) + IntKind.u64.wrap (↑(BitVec.ofInt q10 x.1 &&& BitVec.ofInt q10 (6148914691236517205 : Int)).toNat : Int));
 let q13 : Int := IntKind.u64.wrap (IntKind.u64.wrap (↑(BitVec.ofInt q10 (q12 / q11 ^ shiftN IntKind.u64 q5) &&& BitVec.ofInt q10 (3689348814741910323 : Int)).toNat : Int) + IntKind.u64.wrap (↑(BitVec.ofInt q10 q12 &&& BitVec.ofInt q10 (3689348814741910323 : Int)).toNat : Int));
 let q14 : Int := IntKind.u64.wrap (↑(BitVec.ofInt q10 (IntKind.u64.wrap (q13 / q11 ^ shiftN IntKind.u64 q6 + q13)) &&& BitVec.ofInt q10 (1085102592571150095 : Int)).toNat : Int);
 let q15 : Int := IntKind.u64.wrap (q14 + q14 / q11 ^ shiftN IntKind.u64 q7);
 let q16 : Int := IntKind.u64.wrap (q15 + q15 / q11 ^ shiftN IntKind.u64 q8);
 True -> dFact (Ty.int IntKind.u64) x.1 /\ True -> ((True /\ True) /\ True) /\ ((True /\ q0 <= q1 /\ q4) /\ True) /\ ((True /\ q0 <= q5 /\ q4) /\ True) /\ ((True /\ q0 <= q6 /\ q3) /\ True) /\ ((True /\ True /\ q0 <= q7 /\ q2) /\ True) /\ ((True /\ True /\ q0 <= q8 /\ q2) /\ True) /\ ((True /\ True /\ q0 <= q9 /\ q2) /\ True) /\ (q3 /\ True) /\ IntKind.i64.wrap (↑(BitVec.ofInt q10 (IntKind.i64.wrap (IntKind.u64.wrap (q16 + q16 / q11 ^ shiftN IntKind.u64 q9))) &&& BitVec.ofInt q10 (127 : Int)).toNat : Int) = Sp.ones x.1) := by kernel_rfl
end Go.User
namespace Go.User
open Go.Proofs Go.Lf
set_option maxRecDepth 100000
theorem vc10 : (funI C10 (stpS C10) S10 L10 Tryd.f10) = (
let q0 : Prop := True /\ True /\ True;
let q1 : Prop := q0 /\ True;
let q2 : Prop := True /\ True /\ True /\ q0;
let q3 : Int := (0 : Int);
let q4 : Int := (24 : Int);
let q5 : Prop := q2 /\ True /\ True;
let q6 : Int := (8 : Int);
let q7 : Prop := q6 ≠ q3;
let q8 : Prop := (True /\ True /\ q7 /\ True /\ True) /\ True;
let q9 : Int := (64 : Int);
let q10 : Prop := (True /\ True) /\ True /\ True;
∀ (x : (Bool × Int × Int × Int × Int × Int × Int × Bool × Unit) × Unit),
 let q11 : Int × Int × Int × Bool × Unit := x.1.2.2.2.2;
 let q12 : Int × Int × Bool × Unit := q11.2;
 let q13 : Int × Bool × Unit := q12.2;
 let q14 : Bool := q13.2.1;
 let q15 : Int := q13.1 % q6;
 let q16 : Bool := decide (q15 > q3);
 let q17 : Prop := q16 = true;
 let q18 : Int := q12.1 % q9 + (1 : Int);
 let q19 : Prop := (True /\ True /\ q9 ≠ q3 /\ True /\ inK IntKind.i64 q18 /\ q0) /\ True /\ True;
 let q20 : Int := q18 * q15;
 let q21 : Int := q11.1;
 let q22 : Int := q21 + q20;
 let q23 : Prop := (True /\ True /\ True /\ True /\ True /\ True /\ True /\ True /\ q7 /\ True /\ inK IntKind.i64 q20 /\ inK IntKind.i64 q22 /\ q0) /\ True /\ True;
 let q24 : Int := IntKind.i64.wrap (x.1.2.1 * (2 : Int) ^ shiftN IntKind.i64 q4);
 let q25 : Int := x.1.2.2.2.1;
 let q26 : Int × Int × (Int × Int × Int × Unit) × Unit := (x.1.2.2.1, q25, (q21, q22, q18, ()), ());
 let q27 : Bool × Int × Int × Int × (Int × Int × Int × Unit) × Unit := (x.1.1, Sp.fItem x.1, x.1.2.2.1, q25, (q21, Sp.fHi x.1, Sp.fSt x.1, ()), ());
 let q28 : Prop := q16 = false;
 let q29 : Int × Int × (Int × Int × Int × Unit) × Unit := (x.1.2.2.1, q25, (q21, q21, q3, ()), ());
 True -> dFact (Ty.bool.prod ((Ty.int IntKind.i16).prod ((Ty.int IntKind.i16).prod ((Ty.int IntKind.i16).prod ((Ty.int IntKind.i32).prod ((Ty.int IntKind.u16).prod ((Ty.int IntKind.u16).prod (Ty.bool.prod Ty.unit)))))))) x.1 /\ True -> q1 /\ ((True /\ True /\ True /\ True /\ True /\ True /\ True /\ True /\ q2) /\ True /\ True) /\ q1 /\ (q14 = true -> ((True /\ True /\ q3 <= q4 /\ True /\ True) /\ True /\ True) /\ q5 /\ q5 /\ q8 /\ (q17 -> q19 /\ q23 /\ q10 /\ (x.1.1, q24, q26) = q27) /\ (q28 -> q10 /\ (x.1.1, q24, q29) = q27)) /\ (q14 = false -> q5 /\ q5 /\ q8 /\ (q17 -> q19 /\ q23 /\ q10 /\ (x.1.1, x.1.2.1, q26) = q27) /\ (q28 -> q10 /\ (x.1.1, x.1.2.1, q29) = q27))) := by kernel_rfl
theorem vc18 : (funI C18 (stpS C18) S18 L18 Tryd.f18) = (
let q0 : Int := (0 : Int);
∀ (x : Int × Int × Int × Unit), True -> dFact (Ty.int IntKind.i64) x.1 /\ dFact (Ty.int IntKind.i64) x.2.1 /\ dFact (Ty.int IntKind.i64) x.2.2.1 /\ True -> ((True /\ True) /\ True) /\ ((True /\ True /\ True /\ True /\ True) /\ True /\ True) /\ (x.1, q0, q0, q0, q0, q0, x.2.1, x.2.2.1, q0, ()) = Sp.ev x.1 x.2.1 x.2.2.1) := by kernel_rfl
theorem vc21 : (funI C21 (stpS C21) S21 L21 Tryd.f21) = (
let q0 : Int := (0 : Int);
∀ (x : Int × Unit), True -> dFact (Ty.int IntKind.i64) x.1 /\ True -> ((True /\ True) /\ True) /\ ((True /\ True /\ True) /\ True /\ True) /\ (false, q0, x.1, q0, (q0, q0, q0, ()), ()) = Sp.form0 x.1) := by kernel_rfl
theorem vc30 : (funI C30 (stpS C30) S30 L30 Tryd.f30) = (
let q0 : Prop := True /\ True /\ True;
let q1 : Int := (1 : Int);
let q2 : Int := (0 : Int);
∀ (x : (Int × Int × Int × Int × Int × Int × Int × Int × Int × Unit) × List (List UInt8 × Int × Int × Int × Unit) × Unit),
 let q3 : Bool := decide (x.1.1 ≥ q1);
 let q4 : Prop := (true && bif q3 then true else false) = true -> True;
 let q5 : Bool := bif q3 then decide (x.1.1 <= (3 : Int)) else false;
 let q6 : Prop := (true && bif q5 then true else false) = true -> True;
 let q7 : Int := x.1.2.2.2.2.2.2.1;
 let q8 : Bool := bif q5 then decide (q7 ≥ q2) else false;
 let q9 : Prop := (true && bif q8 then true else false) = true -> True;
 let q10 : Nat := x.2.1.length;
 let q11 : Bool := bif q8 then decide (q7 < (↑q10 : Int)) else false;
 let q12 : Prop := (true && bif q11 then true else false) = true;
 let q13 : Prop := q12 -> True;
 True -> dFact ((Ty.int IntKind.i64).prod ((Ty.int IntKind.i64).prod ((Ty.int IntKind.i64).prod ((Ty.int IntKind.i64).prod ((Ty.int IntKind.i64).prod ((Ty.int IntKind.i64).prod ((Ty.int IntKind.i64).prod ((Ty.int IntKind.i64).prod ((Ty.int IntKind.i32).prod Ty.unit))))))))) x.1 /\ dFact (Ty.str.prod ((Ty.int IntKind.i64).prod ((Ty.int IntKind.i64).prod ((Ty.int IntKind.i64).prod Ty.unit)))).slice x.2.1 /\ True -> (q0 /\ True) /\ ((True /\ True /\ True /\ True /\ q4 /\ q4 /\ q4 /\ True /\ True /\ q6 /\ q6 /\ q6 /\ True /\ True /\ q9 /\ q9 /\ q9 /\ q9 /\ q9 /\ True /\ True /\ q13 /\ q13 /\ q13 /\ (q12 -> inN q7 q10) /\ q13 /\ q13 /\ q13 /\ q0) /\ True) /\ (bif q11 then (x.2.1.getD q7.toNat (([] : List UInt8), q2, q2, q2, ())).2.1 == q1 else false) = Sp.counts x.1 x.2.1) := by kernel_rfl
theorem vc15 : (funI C15 (stpS C15) S15 L15 Tryd.f15) = (
let q0 : Nat := (1000000 : Nat);
let q1 : Prop := (True /\ True) /\ True;
let q2 : Prop := True /\ True /\ True;
let q3 : Prop := q2 /\ True;
let q4 : Int := (0 : Int);
let q5 : Prop := (True /\ True /\ q2) /\ True;
let q6 : Int := (1 : Int);
∀ (x : List Int × Unit),
 let q7 : Nat := x.1.length;
 let q8 : Prop := x.1 = x.1;
 let q9 : Prop := q8 /\ True;
 let q10 : Nat := (Sp.segs x.1).length;
 q7 <= q0 ->
 dFact (Ty.int IntKind.i64).slice x.1 /\ True ->
 q1 /\
 q3 /\
 q1 /\
 (∃ (x_1 : Nat), x_1 <= q7 /\ ([] : List tI.den) = Sp.segs (List.take x_1 x.1) /\ q4 = (↑x_1 : Int) /\ q9) /\
 ∀ (x_1 : Nat),
 let q11 : List Int := Sp.segs (List.take x_1 x.1);
 let q12 : Bool := decide ((↑x_1 : Int) < (↑q7 : Int));
 let q13 : Nat := q11.length;
 let q14 : Int := (↑x_1 : Int) + q6;
 let q15 : Prop := q8 /\ q11 = q11 /\ True;
 x_1 <= q7 ->
 dFact (Ty.int IntKind.i64).slice q11 /\ dFact (Ty.int IntKind.i64) (↑x_1 : Int) /\ True ->
 q5 /\
 (q12 = true -> ((True /\ True /\ True /\ inN (↑x_1 : Int) q7 /\ True /\ True /\ (q13 <= q0 /\ Sp.incr q11) /\ True /\ True) /\ True) /\ ((True /\ inK IntKind.i64 q14 /\ True /\ True) /\ True) /\ ∃ (y : Nat), y <= q7 /\ q7 - y < q7 - x_1 /\ Sp.added q11 (x.1.getD (↑x_1 : Int).toNat q4 / (16 : tI.den)) = Sp.segs (List.take y x.1) /\ q14 = (↑y : Int) /\ q9) /\
 (q12 = false ->
 ((True /\ True) /\ True /\ True) /\
 q1 /\
 (∃ (x_2 : Nat), x_2 <= q10 /\ ([] : List tI.den) = List.take x_2 (Sp.segs x.1) /\ q4 = (↑x_2 : Int) /\ q15) /\
 ∀ (x_2 : Nat),
 let q16 : List Int := List.take x_2 (Sp.segs x.1);
 let q17 : Bool := decide ((↑x_2 : Int) < (↑q13 : Int));
 let q18 : List Int := q11.getD (↑x_2 : Int).toNat q4 :: ([] : List tI.den);
 let q19 : Int := (↑x_2 : Int) + q6;
 x_2 <= q10 -> dFact (Ty.int IntKind.i64).slice q16 /\ dFact (Ty.int IntKind.i64) (↑x_2 : Int) /\ True -> q5 /\ (q17 = true -> ((True /\ True /\ True /\ inN (↑x_2 : Int) q13 /\ q2) /\ (↑(q16.length + q18.length) : Int) <= maxNew /\ True /\ True) /\ ((True /\ inK IntKind.i64 q19 /\ True /\ True) /\ True) /\ ∃ (y : Nat), y <= q10 /\ q10 - y < q10 - x_2 /\ q16 ++ q18 = List.take y (Sp.segs x.1) /\ q19 = (↑y : Int) /\ q15) /\ (q17 = false -> q3 /\ q16 = Sp.segs x.1))) := by kernel_rfl
theorem vc19 : (funI C19 (stpS C19) S19 L19 Tryd.f19) = (
let q0 : Prop := (True /\ True) /\ True;
let q1 : Nat := (64 : Nat);
let q2 : Int := (0 : Int);
let q3 : Prop := True /\ True /\ True;
let q4 : Int := (1 : Int);
∀ (x : Int × Int × Unit),
 let q5 : Prop := x.1 = x.1 /\ x.2.1 = x.2.1 /\ True;
 True ->
 dFact (Ty.int IntKind.i64) x.1 /\ dFact (Ty.int IntKind.u64) x.2.1 /\ True ->
 q0 /\
 ((True /\ True) /\ True /\ True) /\
 q0 /\
 (∃ (x_1 : Nat), x_1 <= q1 /\ ([] : List tI.den) = Sp.lanes (Min.min x.1 (↑x_1 : Int)) x.2.1 /\ q2 = (↑x_1 : Int) /\ q5) /\
 ∀ (x_1 : Nat),
 let q6 : List Int := Sp.lanes (Min.min x.1 (↑x_1 : Int)) x.2.1;
 let q7 : Bool := decide ((↑x_1 : Int) < x.1);
 let q8 : Prop := (true && bif q7 then true else false) = true -> True;
 let q9 : Bool := bif q7 then decide ((↑x_1 : Int) < (64 : Int)) else false;
 let q10 : Int := IntKind.u64.wrap (↑x_1 : Int);
 let q11 : Bool := IntKind.u64.wrap (↑(BitVec.ofInt q1 (x.2.1 / (2 : (Ty.int IntKind.u64).den) ^ shiftN IntKind.u64 q10) &&& BitVec.ofInt q1 q4).toNat : Int) == q4;
 let q12 : List Int := (↑x_1 : Int) :: ([] : List tI.den);
 let q13 : Int := (↑x_1 : Int) + q4;
 let q14 : Prop := (True /\ inK IntKind.i64 q13 /\ True /\ True) /\ True;
 x_1 <= q1 -> dFact (Ty.int IntKind.i64).slice q6 /\ dFact (Ty.int IntKind.i64) (↑x_1 : Int) /\ True -> ((True /\ True /\ True /\ True /\ q8 /\ q8 /\ True /\ True) /\ True) /\ (q9 = true -> ((True /\ True /\ True /\ q2 <= q10 /\ q3) /\ True) /\ (q11 = true -> ((True /\ q3) /\ (↑(q6.length + q12.length) : Int) <= maxNew /\ True /\ True) /\ q14 /\ ∃ (y : Nat), y <= q1 /\ q1 - y < q1 - x_1 /\ q6 ++ q12 = Sp.lanes (Min.min x.1 (↑y : Int)) x.2.1 /\ q13 = (↑y : Int) /\ q5) /\ (q11 = false -> q14 /\ ∃ (y : Nat), y <= q1 /\ q1 - y < q1 - x_1 /\ q6 = Sp.lanes (Min.min x.1 (↑y : Int)) x.2.1 /\ q13 = (↑y : Int) /\ q5)) /\ (q9 = false -> (q3 /\ True) /\ q6 = Sp.lanes x.1 x.2.1)) := by kernel_rfl
end Go.User
namespace Go.User
open Go.Proofs Go.Lf
set_option maxRecDepth 100000
theorem vc13 : (funI C13 (stpS C13) S13 L13 Tryd.f13) = (
let q0 : Prop := (True /\ True) /\ True;
let q1 : Prop := True /\ True /\ True;
let q2 : Prop := True /\ True /\ q1;
let q3 : Int := (0 : Int);
let q4 : Int := (1 : Int);
∀ (x : List Int × List Int × Unit),
 let q5 : Nat := x.1.length;
 let q6 : Int := (↑q5 : Int);
 let q7 : Nat := x.2.1.length;
 let q8 : Bool := q6 != (↑q7 : Int);
 let q9 : Bool := Sp.sameI x.1 x.2.1;
 let q10 : Prop := q0 /\ false = q9;
 let q11 : Prop := x.1 = x.1 /\ x.2.1 = x.2.1 /\ True;
 True ->
 dFact (Ty.int IntKind.i64).slice x.1 /\ dFact (Ty.int IntKind.i64).slice x.2.1 /\ True ->
 q0 /\
 ((True /\ q2) /\ True) /\
 (q8 = true -> q10) /\
 (q8 = false ->
 q0 /\
 (∃ (x_1 : Nat), (x_1 <= q5 /\ q5 = q7 /\ List.take x_1 x.1 = List.take x_1 x.2.1) /\ q3 = (↑x_1 : Int) /\ q11) /\
 ∀ (x_1 : Nat),
 let q12 : Bool := decide ((↑x_1 : Int) < q6);
 let q13 : Nat := (↑x_1 : Int).toNat;
 let q14 : Bool := x.1.getD q13 q3 != x.2.1.getD q13 q3;
 let q15 : Int := (↑x_1 : Int) + q4;
 x_1 <= q5 /\ q5 = q7 /\ List.take x_1 x.1 = List.take x_1 x.2.1 -> dFact (Ty.int IntKind.i64) (↑x_1 : Int) /\ True -> (q2 /\ True) /\ (q12 = true -> ((True /\ True /\ inN (↑x_1 : Int) q5 /\ True /\ True /\ True /\ inN (↑x_1 : Int) q7 /\ q1) /\ True) /\ (q14 = true -> q10) /\ (q14 = false -> ((True /\ inK IntKind.i64 q15 /\ True /\ True) /\ True) /\ ∃ (y : Nat), (y <= q5 /\ q5 = q7 /\ List.take y x.1 = List.take y x.2.1) /\ q5 - y < q5 - x_1 /\ q15 = (↑y : Int) /\ q11)) /\ (q12 = false -> q0 /\ true = q9))) := by kernel_rfl
theorem vc27 : (funI C27 (stpS C27) S27 L27 Tryd.f27) = (
let q0 : Int := (16 : Int);
let q1 : Int := (0 : Int);
let q2 : Prop := q0 ≠ q1;
let q3 : Prop := (True /\ True /\ True) /\ True;
∀ (x : Int × Unit),
 let q4 : Bool := decide (x.1.tmod q0 < q1);
 let q5 : Int := x.1.tdiv q0 - (1 : Int);
 let q6 : Int := x.1 / (16 : tI.den);
 True -> dFact (Ty.int IntKind.i64) x.1 /\ True -> ((True /\ True) /\ True) /\ ((True /\ (q2 /\ inK IntKind.i64 (x.1.tdiv q0)) /\ True /\ True) /\ True) /\ ((True /\ q2 /\ True /\ True) /\ True) /\ (q4 = true -> ((True /\ inK IntKind.i64 q5 /\ True /\ True) /\ True) /\ q3 /\ q5 = q6) /\ (q4 = false -> q3 /\ x.1.tdiv q0 = q6)) := by kernel_rfl
theorem vc26 : (funI C26 (stpS C26) S26 L26 Tryd.f26) = (
let q0 : Prop := (True /\ True) /\ True;
let q1 : Int := (0 : Int);
let q2 : Int := (1 : Int);
∀ (x : List Int × Int × Unit),
 let q3 : Nat := x.1.length;
 let q4 : Prop := x.1 = x.1 /\ x.2.1 = x.2.1 /\ True;
 let q5 : Int := (↑q3 : Int);
 let q6 : List Int := Sp.added x.1 x.2.1;
 let q7 : List Int := x.2.1 :: ([] : List tI.den);
 q3 <= (1000000 : Nat) /\ Sp.incr x.1 ->
 dFact (Ty.int IntKind.i64).slice x.1 /\ dFact (Ty.int IntKind.i64) x.2.1 /\ True ->
 q0 /\
 q0 /\
 (∃ (x_1 : Nat), (x_1 <= q3 /\ ∀ (y : Int), y ∈ List.take x_1 x.1 -> y < x.2.1) /\ q1 = (↑x_1 : Int) /\ q4) /\
 ∀ (x_1 : Nat),
 let q8 : Bool := decide ((↑x_1 : Int) < q5);
 let q9 : Prop := (true && bif q8 then true else false) = true;
 let q10 : Prop := q9 -> True;
 let q11 : Prop := (True /\ True /\ True /\ True /\ True /\ q10 /\ q10 /\ (q9 -> inN (↑x_1 : Int) q3) /\ q10 /\ q10 /\ q10 /\ True /\ True) /\ True;
 let q12 : Int := x.1.getD (↑x_1 : Int).toNat q1;
 let q13 : Bool := bif q8 then decide (q12 < x.2.1) else false;
 let q14 : Int := (↑x_1 : Int) + q2;
 let q15 : Bool := bif q8 then q12 == x.2.1 else false;
 let q16 : List Int := win q1 (↑x_1 : Int) x.1;
 let q17 : Nat := q16.length;
 let q18 : List Int := q16 ++ q7;
 let q19 : List Int := win (↑x_1 : Int) q5 x.1;
 (x_1 <= q3 /\ ∀ (y : Int), y ∈ List.take x_1 x.1 -> y < x.2.1) -> dFact (Ty.int IntKind.i64) (↑x_1 : Int) /\ True -> q11 /\ (q13 = true -> ((True /\ inK IntKind.i64 q14 /\ True /\ True) /\ True) /\ ∃ (y : Nat), (y <= q3 /\ ∀ (y_1 : Int), y_1 ∈ List.take y x.1 -> y_1 < x.2.1) /\ q3 - y < q3 - x_1 /\ q14 = (↑y : Int) /\ q4) /\ (q13 = false -> q11 /\ (q15 = true -> ((True /\ True /\ True) /\ True) /\ x.1 = q6) /\ (q15 = false -> ((True /\ True /\ True /\ winI q1 (↑x_1 : Int) q3 /\ (↑((0 : Nat) + q17) : Int) <= maxNew /\ True /\ True /\ (↑(q17 + q7.length) : Int) <= maxNew /\ True /\ True /\ winI (↑x_1 : Int) q5 q3 /\ (↑(q18.length + q19.length) : Int) <= maxNew /\ True /\ True) /\ True) /\ q18 ++ q19 = q6))) := by kernel_rfl
end Go.User
namespace Pl
variable {α : Type}
theorem take_all {l : List α} {i : Nat} (h1 : i <= l.length) (h2 : (l.length : Int) <= (i : Int)) : l.take i = l := List.take_of_length_le (by omega)
theorem getD_at {l : List α} {i : Nat} (h : i < l.length) (d : α) : l.getD i d = l[i] := by rw [List.getD_eq_getElem?_getD, List.getElem?_eq_getElem h]; rfl
theorem getD_out {l : List α} {i : Nat} (h : l.length <= i) (d : α) : l.getD i d = d := by rw [List.getD_eq_getElem?_getD, List.getElem?_eq_none h]; rfl
theorem getD_mem {l : List α} {i : Nat} (h : i < l.length) (d : α) : l.getD i d ∈ l := by rw [getD_at h]; exact List.getElem_mem _
theorem take_succ {l : List α} {i : Nat} (h : i < l.length) (d : α) : l.take (i + 1) = l.take i ++ [l.getD i d] := by rw [List.take_succ_eq_append_getElem h, getD_at h]
theorem drop_cons {l : List α} {i : Nat} (h : i < l.length) (d : α) : l.drop i = l.getD i d :: l.drop (i + 1) := by rw [List.drop_eq_getElem_cons h, getD_at h]
theorem find_at {l : List α} {p : α -> Bool} {i : Nat} {d : α} (h : ∀ e ∈ l.take i, p e = false) (hi : i < l.length) (hp : p (l.getD i d) = true) : l.findIdx? p = some i := by
 rw [getD_at hi] at hp
 rw [List.findIdx?_eq_some_iff_getElem]
 refine ⟨hi, hp, fun j hj => ?_⟩
 have := h l[j] (List.mem_take_iff_getElem.2 ⟨j, by omega, rfl⟩)
 rw [this]; simp
theorem find_none {l : List α} {p : α -> Bool} (h : ∀ e ∈ l, p e = false) : l.findIdx? p = none := by
 rw [List.findIdx?_eq_none_iff]; exact h
theorem all_take_succ {l : List α} {p : α -> Prop} {i : Nat} {d : α} (h : ∀ e ∈ l.take i, p e) (hi : i < l.length) (hp : p (l.getD i d)) : ∀ e ∈ l.take (i + 1), p e := by
 intro e he
 rw [take_succ hi d] at he
 rcases List.mem_append.1 he with he | he
 ·exact h e he
 ·rw [List.mem_singleton.1 he]; exact hp
theorem ne_of_getD {a b : List α} {i : Nat} {d : α} (h : ¬ a.getD i d = b.getD i d) : a ≠ b := fun e => h (by rw [e])
theorem eq_of_len {a b : List α} {i : Nat} (hl : a.length = b.length) (h1 : i <= a.length) (h2 : (a.length : Int) <= (i : Int)) (h : a.take i = b.take i) : a = b := by
 rw [take_all h1 h2, List.take_of_length_le (by omega)] at h; exact h
theorem take_eq_succ {a b : List α} {i : Nat} {d : α} (ha : i < a.length) (hb : i < b.length) (h : a.take i = b.take i) (he : a.getD i d = b.getD i d) : a.take (i + 1) = b.take (i + 1) := by
 rw [take_succ ha d, take_succ hb d, h, he]
theorem getD_set {l : List α} {n : Nat} {a d : α} (c : Nat) (h : n < l.length) : (l.set n a).getD c d = if c = n then a else l.getD c d := by
 rw [List.getD_eq_getElem?_getD, List.getElem?_set, List.getD_eq_getElem?_getD]
 by_cases e : n = c
 ·rw [if_pos e, if_pos e.symm, if_pos (e ▸ h)]; rfl
 ·rw [if_neg e, if_neg (fun h => e h.symm)]
theorem tw_le (p : α -> Bool) (l : List α) : (l.takeWhile p).length <= l.length := (List.takeWhile_sublist p).length_le
theorem tw_get {p : α -> Bool} : ∀ {l : List α} {k : Nat} {d : α}, k < (l.takeWhile p).length -> p (l.getD k d) = true
 | x :: l, k, d, h => by
  rw [List.takeWhile_cons] at h;split at h
  ·rename_i hx
   cases k with
   | zero => exact hx
   | succ k => exact tw_get (l := l) (by simpa using h)
  ·simp at h
theorem tw_stop {p : α -> Bool} : ∀ {l : List α} {d : α}, (l.takeWhile p).length < l.length -> p (l.getD (l.takeWhile p).length d) = false
 | x :: l, d, h => by
  rw [List.takeWhile_cons] at h ⊢;split
  ·rename_i hx
   rw [if_pos hx] at h;exact tw_stop (l := l) (by simpa using h)
  ·rename_i hx
   simpa using hx
theorem win_take {l : List α} {i : Nat} : Go.Lf.win 0 (i : Int) l = l.take i := by unfold Go.Lf.win; simp
theorem win_drop {l : List α} {i : Nat} : Go.Lf.win (i : Int) (l.length : Int) l = l.drop i := by unfold Go.Lf.win; simp
theorem countP_at {l : List α} {p : α -> Bool} {i : Nat} {d : α} (hi : i <= l.length) (h1 : ∀ k, k < i -> p (l.getD k d) = true) (h2 : ∀ k, i <= k -> k < l.length -> p (l.getD k d) = false) : l.countP p = i := by
 rw [<- List.take_append_drop i l, List.countP_append]
 have e1 : (l.take i).countP p = i := by
  have : (l.take i).countP p = (l.take i).length := by
   rw [List.countP_eq_length];intro a ha;obtain ⟨k, hk, rfl⟩ := List.mem_take_iff_getElem.1 ha;rw [<- getD_at (by omega) d];exact h1 k (by omega)
  rw [this, List.length_take]; omega
 have e2 : (l.drop i).countP p = 0 := by
  rw [List.countP_eq_zero];intro a ha;obtain ⟨k, hk, rfl⟩ := List.getElem_of_mem ha;rw [List.getElem_drop];rw [List.length_drop] at hk;have := h2 (i + k) (by omega) (by omega);rw [getD_at (by omega) d] at this;rw [this]; decide
 omega
theorem wrap_in {z : Int} (h0 : -1000000000 <= z) (h1 : z <= 1000000000) : Go.IntKind.wrap .i64 z = z := Go.Lf.inK_wrap (k := .i64) ⟨by show (-9223372036854775808 : Int) <= z; omega, by show z <= 9223372036854775807; omega⟩
end Pl
namespace Go.User
open Go.Lf Go.Proofs
theorem insS_new (n : Int) : ∀ (l : List Int) (i : Nat), i <= l.length -> (∀ y ∈ l.take i, y < n) -> (i < l.length -> n < l.getD i 0) -> insS l n = l.take i ++ n :: l.drop i
 | [], i, hi, _, _ => by simp [insS]
 | x :: l, 0, hi, h1, h2 => by
  have := h2 (by simp)
  simp only [List.getD_cons_zero] at this;unfold insS;rw [if_neg (by omega), if_neg (by omega)]
  rfl
 | x :: l, i + 1, hi, h1, h2 => by
  have hx := h1 x (by simp)
  unfold insS;rw [if_pos hx, insS_new n l i (by simpa using hi) (fun y hy => h1 y (by simp [hy])) (fun h => by simpa using h2 (by simpa using h))]
  rfl
theorem insS_old (n : Int) : ∀ (l : List Int) (i : Nat), (∀ y ∈ l.take i, y < n) -> i < l.length -> l.getD i 0 = n -> insS l n = l
 | [], i, _, hi, _ => by simp at hi
 | x :: l, 0, h1, hi, h2 => by
  simp only [List.getD_cons_zero] at h2;unfold insS;rw [if_neg (by omega), if_pos h2]
 | x :: l, i + 1, h1, hi, h2 => by
  have hx := h1 x (by simp)
  unfold insS;rw [if_pos hx, insS_old n l i (fun y hy => h1 y (by simp [hy])) (by simpa using hi) (by simpa using h2)]
theorem ok27 : FOk Tryd.prog 27 S27 := by
 refine FOk.intro (okA fns_nil) (stpS_ok (okA fns_nil)) Tryd.call27 Tryd.func27 (by kernel_rfl) (by kernel_rfl) L27 (vc27.mpr ?_)
 simp only [zz, zy]
 intro x hx
 obtain ⟨(a : Int), ⟨⟩⟩ := x
 have h1 : (-9223372036854775808 : Int) <= a := hx.1
 have h2 : a <= (9223372036854775807 : Int) := hx.2
 have e1 := Int.mul_tdiv_add_tmod a 16
 have e2 : a.tmod 16 < 16 := Int.tmod_lt_of_pos a (by decide)
 have e3 : -16 < a.tmod 16 := Int.lt_tmod_of_pos a (by decide)
 refine ⟨⟨by decide, inK_of ?_ ?_⟩, by decide, fun h => ⟨inK_of ?_ ?_, ?_⟩, fun h => ?_⟩
 all_goals simp only at *
 all_goals omega
theorem ok26 : FOk Tryd.prog 26 S26 := by
 refine FOk.intro (okC fns_nil rfl rfl rfl rfl rfl rfl rfl) (stpS_ok (okC fns_nil rfl rfl rfl rfl rfl rfl rfl)) Tryd.call26 Tryd.func26 (by kernel_rfl) (by kernel_rfl) L26 (vc26.mpr ?_)
 simp only [zz, zy]
 rintro ⟨(l : List Int), (n : Int), ⟨⟩⟩ ⟨hl, hs⟩ hx
 dsimp only at *
 refine ⟨⟨0, ⟨Nat.zero_le _, by simp⟩, rfl⟩, fun i hi hdi => ?_⟩
 obtain ⟨hi1, hi2⟩ := hi
 refine ⟨fun h => inN_of h, fun ⟨h1, h2⟩ => ⟨inK_mid (by omega) (by omega), i + 1, ⟨by omega, ?_⟩, by omega, by simp⟩, fun hb => ⟨fun h => inN_of h, fun ⟨h1, h2⟩ => ?_, fun hb2 => ?_⟩⟩
 ·intro y hy
  have h1 : i < l.length := by omega
  rw [List.take_succ_eq_append_getElem h1] at hy;rcases List.mem_append.1 hy with hy | hy
  ·exact hi2 y hy
  ·have : y = l[i] := by simpa using hy
   rw [this]
   simpa [List.getD, List.getElem?_eq_getElem h1] using h2
 ·exact (insS_old n l i hi2 (by omega) h2).symm
 ·have hge : i < l.length -> n < l.getD i 0 := by
   intro h;have hg : l.getD i 0 = l[i] := by simp [List.getD, List.getElem?_eq_getElem h]
   rw [hg] at hb hb2 ⊢;simp [h] at hb hb2;omega
  rw [Pl.win_take, Pl.win_drop, maxNew_eq];refine ⟨⟨?_, ?_, ?_, ?_, ?_⟩, ?_⟩
  ·exact ⟨by omega, by omega, by omega⟩
  ·simp; omega
  ·simp; omega
  ·exact ⟨by omega, by omega, by omega⟩
  ·simp; omega
  ·show _ = insS l n
   rw [insS_new n l i hi1 hi2 hge]
   simp
theorem ok13 : FOk Tryd.prog 13 S13 := by
 refine FOk.intro (okA fns_nil) (stpS_ok (okA fns_nil)) Tryd.call13 Tryd.func13 (by kernel_rfl) (by kernel_rfl) L13 (vc13.mpr ?_)
 simp only [zz, zy]
 rintro ⟨(a : List Int), (b : List Int), ⟨⟩⟩ hx
 have hla : a.length <= lim := hx.1.1
 dsimp only at *
 refine ⟨fun h => ?_, fun h => ⟨⟨0, ⟨Nat.zero_le _, by omega, by simp⟩, rfl⟩, fun i hi hdi => ?_⟩⟩
 ·exact (decide_eq_false (by rintro rfl; exact h rfl)).symm
 ·obtain ⟨h1, h2, h3⟩ := hi
  refine ⟨fun hl => ⟨⟨inN_of hl, inN_of (by omega)⟩, fun hne => ?_, fun he => ⟨inK_succ hl hla, i + 1, ⟨by omega, h2, ?_⟩, by omega, by simp⟩⟩, fun hl => ?_⟩
  ·exact (decide_eq_false (by rintro rfl; exact hne rfl)).symm
  ·have q1 : i < a.length := by omega
   have q2 : i < b.length := by omega
   rw [List.take_succ_eq_append_getElem q1, List.take_succ_eq_append_getElem q2, h3];simp [List.getD, List.getElem?_eq_getElem q1, List.getElem?_eq_getElem q2] at he;rw [he]
  ·have e : i = a.length := by omega
   rw [e, List.take_length, h2, List.take_length] at h3;exact (decide_eq_true h3).symm
end Go.User
namespace Go.User
open Go.Lf Go.Proofs
theorem ok18 : FOk Tryd.prog 18 S18 := by
 refine FOk.intro (okA fns_nil) (stpS_ok (okA fns_nil)) Tryd.call18 Tryd.func18 (by kernel_rfl) (by kernel_rfl) L18 (vc18.mpr ?_)
 simp only [zz, zy]
 intro x hx
 rfl
theorem ok21 : FOk Tryd.prog 21 S21 := by
 refine FOk.intro (okA fns_nil) (stpS_ok (okA fns_nil)) Tryd.call21 Tryd.func21 (by kernel_rfl) (by kernel_rfl) L21 (vc21.mpr ?_)
 simp only [zz, zy]
 intro x hx
 rfl
theorem ok30 : FOk Tryd.prog 30 S30 := by
 refine FOk.intro (okA fns_nil) (stpS_ok (okA fns_nil)) Tryd.call30 Tryd.func30 (by kernel_rfl) (by kernel_rfl) L30 (vc30.mpr ?_)
 simp only [zz, zy]
 intro x hx
 refine ⟨fun ⟨⟨_, h1⟩, h2⟩ => ⟨h1, h2⟩, rfl⟩
theorem ok15 : FOk Tryd.prog 15 S15 := by
 have hC : CtxOK Tryd.prog C15 := okC (fns_cons ok27 (fns_cons ok26 fns_nil)) rfl rfl rfl rfl rfl rfl rfl
 refine FOk.intro hC (stpS_ok hC) Tryd.call15 Tryd.func15 (by kernel_rfl) (by kernel_rfl) L15 (vc15.mpr ?_)
 simp only [zz, zy]
 rintro ⟨(l : List Int), ⟨⟩⟩ hl hx
 dsimp only at *
 have hle : ∀ m : List Int, (Sp.segs m).length <= m.length := segs_len_le
 refine ⟨⟨0, Nat.zero_le _, by simp [Sp.segs, segs], rfl⟩, fun i hi hdi => ⟨fun h => ?_, fun h => ?_⟩⟩
 ·have h1 : i < l.length := by omega
  refine ⟨⟨inN_of h, ?_, segs_strict _⟩, inK_mid (by omega) (by omega), i + 1, by omega, by omega, ?_, by simp⟩
  ·have := hle (List.take i l)
   rw [List.length_take] at this;omega
  ·rw [List.take_succ_eq_append_getElem h1]
   show insS (segs (List.take i l)) (l.getD i 0 / 16) = segs _
   rw [segs_snoc];simp [List.getD, List.getElem?_eq_getElem h1]
 ·have e : i = l.length := by omega
  rw [e, List.take_length];have hs := hle l;refine ⟨⟨0, Nat.zero_le _, by simp, rfl⟩, fun j hj hdj => ⟨fun h => ?_, fun h => ?_⟩⟩
  ·have h1 : j < (Sp.segs l).length := by omega
   refine ⟨⟨inN_of h, by rw [maxNew_eq, List.length_take]; omega⟩, inK_mid (by omega) (by omega), j + 1, by omega, by omega, ?_, by simp⟩
   rw [List.take_succ_eq_append_getElem h1];simp [List.getD, List.getElem?_eq_getElem h1]
  ·rw [show j = (Sp.segs l).length by omega, List.take_length]
end Go.User
namespace Go.User
def Sm (k b : Nat) : Nat -> Nat -> Prop
 | 0, x => x = 0
 | n + 1, x => x % 2 ^ k <= b /\ Sm k b n (x / 2 ^ k)

theorem sm_lt (k b : Nat) : ∀ (n x : Nat), Sm k b n x -> x < 2 ^ (k * n)
 | 0, x, h => by have : x = 0 := h; subst this; exact Nat.two_pow_pos _
 | n + 1, x, h => by
  have h1 := sm_lt k b n _ h.2
  rw [Nat.mul_succ, Nat.pow_add];exact (Nat.div_lt_iff_lt_mul (Nat.two_pow_pos k)).1 h1

theorem sm_ones : ∀ (n x : Nat), x < 2 ^ n -> Sm 1 1 n x
 | 0, x, h => by show x = 0; simpa using h
 | n + 1, x, h => ⟨by omega, sm_ones n _ (by rw [Nat.pow_succ] at h; omega)⟩

def pairS (k n x : Nat) : Nat := ((x / 2 ^ k) &&& fmask k n) + (x &&& fmask k n)

theorem pairS_step (k : Nat) (n x : Nat) (hk : 1 <= k) :
  pairS k (n + 1) x = (x / 2 ^ k % 2 ^ k + x % 2 ^ k) + 2 ^ (2 * k) * pairS k n (x / 2 ^ (2 * k)) /\ x / 2 ^ k % 2 ^ k + x % 2 ^ k < 2 ^ (2 * k) := by
 have hp : 2 <= 2 ^ k := by
  have := Nat.pow_le_pow_right (n := 2) (by omega) hk
  simpa using this
 have hB : 2 ^ (2 * k) = 2 ^ k * 2 ^ k := by rw [Nat.two_mul, Nat.pow_add]
 have hlt : x / 2 ^ k % 2 ^ k + x % 2 ^ k < 2 ^ (2 * k) := by
  have h1 := Nat.mod_lt (x / 2 ^ k) (show 0 < 2 ^ k by omega)
  have h2 := Nat.mod_lt x (show 0 < 2 ^ k by omega)
  have h3 : 2 ^ k * 2 <= 2 ^ k * 2 ^ k := Nat.mul_le_mul_left _ hp
  omega
 refine ⟨?_, hlt⟩
 unfold pairS
 rw [and_fmask, and_fmask]
 have e3 : x / 2 ^ k / 2 ^ (2 * k) = x / 2 ^ (2 * k) / 2 ^ k := by rw [Nat.div_div_eq_div_mul, Nat.div_div_eq_div_mul, Nat.mul_comm]
 rw [e3, Nat.mul_add]
 omega

theorem pairS_small (k b : Nat) (hk : 1 <= k) : ∀ (n x : Nat), Sm k b (2 * n) x -> Sm (2 * k) (2 * b) n (pairS k n x)
 | 0, x, h => by
  have : x = 0 := h
  subst this;show _ = 0;simp [pairS, fmask]
 | n + 1, x, h => by
  obtain ⟨h1, h2, h3⟩ : x % 2 ^ k <= b /\ x / 2 ^ k % 2 ^ k <= b /\ Sm k b (2 * n) (x / 2 ^ k / 2 ^ k) := h;obtain ⟨e, hlt⟩ := pairS_step k n x hk;have hB : 2 ^ (2 * k) = 2 ^ k * 2 ^ k := by rw [Nat.two_mul, Nat.pow_add]
  have e2 : x / 2 ^ k / 2 ^ k = x / 2 ^ (2 * k) := by rw [Nat.div_div_eq_div_mul, hB]
  rw [e2] at h3;rw [e];refine ⟨?_, ?_⟩
  ·rw [Nat.add_mul_mod_self_left, Nat.mod_eq_of_lt hlt]; omega
  ·rw [Nat.add_mul_div_left _ _ (Nat.two_pow_pos _), Nat.div_eq_of_lt hlt, Nat.zero_add]
   exact pairS_small k b hk n _ h3

theorem mask_last (k b : Nat) (hk : 1 <= k) (hb : 2 * b < 2 ^ k) : ∀ (n x : Nat), Sm k b (2 * n) x -> (x / 2 ^ k + x) &&& fmask k n = pairS k n x
 | 0, x, h => by simp [pairS, fmask]
 | n + 1, x, h => by
  obtain ⟨h1, h2, h3⟩ : x % 2 ^ k <= b /\ x / 2 ^ k % 2 ^ k <= b /\ Sm k b (2 * n) (x / 2 ^ k / 2 ^ k) := h;obtain ⟨e, hlt⟩ := pairS_step k n x hk;have hp : 0 < 2 ^ k := Nat.two_pow_pos k;have hB : 2 ^ (2 * k) = 2 ^ k * 2 ^ k := by rw [Nat.two_mul, Nat.pow_add]
  have e2 : x / 2 ^ k / 2 ^ k = x / 2 ^ (2 * k) := by rw [Nat.div_div_eq_div_mul, hB]
  have h4 : x / 2 ^ k / 2 ^ k % 2 ^ k <= b := by
   cases n with
   | zero =>
    have : x / 2 ^ k / 2 ^ k = 0 := h3
    rw [this]; simp
   | succ n => exact h3.1
  rw [e, and_fmask];have a1 : x / 2 ^ k % 2 ^ k + x % 2 ^ k < 2 ^ k := by omega
  have a2 : (x / 2 ^ k + x) % 2 ^ k = x / 2 ^ k % 2 ^ k + x % 2 ^ k := by
   rw [Nat.add_mod, Nat.mod_eq_of_lt a1]
  have a3 : (x / 2 ^ k + x) / 2 ^ k = x / 2 ^ k / 2 ^ k + x / 2 ^ k := by
   have q1 := Nat.div_add_mod (x / 2 ^ k) (2 ^ k)
   have q2 := Nat.div_add_mod x (2 ^ k)
   have : x / 2 ^ k + x = (x / 2 ^ k % 2 ^ k + x % 2 ^ k) + 2 ^ k * (x / 2 ^ k / 2 ^ k + x / 2 ^ k) := by rw [Nat.mul_add]; omega
   rw [this, Nat.add_mul_div_left _ _ hp, Nat.div_eq_of_lt a1, Nat.zero_add]
  have a4 : (x / 2 ^ k + x) / 2 ^ (2 * k) = x / 2 ^ (2 * k) / 2 ^ k + x / 2 ^ (2 * k) := by
   rw [hB, <- Nat.div_div_eq_div_mul, a3, <- Nat.div_div_eq_div_mul];obtain ⟨y, hy⟩ : ∃ y, y = x / 2 ^ k := ⟨_, rfl⟩;rw [<- hy] at h2 h4 ⊢;have b1 : y / 2 ^ k % 2 ^ k + y % 2 ^ k < 2 ^ k := by omega
   have q1 := Nat.div_add_mod (y / 2 ^ k) (2 ^ k)
   have q2 := Nat.div_add_mod y (2 ^ k)
   have : y / 2 ^ k + y = (y / 2 ^ k % 2 ^ k + y % 2 ^ k) + 2 ^ k * (y / 2 ^ k / 2 ^ k + y / 2 ^ k) := by rw [Nat.mul_add]; omega
   rw [this, Nat.add_mul_div_left _ _ hp, Nat.div_eq_of_lt b1, Nat.zero_add]
  rw [a2, a4, mask_last k b hk hb n _ (by rw [<- e2]; exact h3)]

theorem fsum_pairS (k n x : Nat) (hk : 1 <= k) : fsum (2 * k) n (pairS k n x) = fsum k (2 * n) x := fsum_pair k hk n x

set_option maxHeartbeats 2000000 in
theorem sum8 (y : Nat) (h : Sm 8 8 8 y) :
  y + y / 256 < 2 ^ 64 /\ (y + y / 256) + (y + y / 256) / 65536 < 2 ^ 64 /\ ((y + y / 256) + (y + y / 256) / 65536) + ((y + y / 256) + (y + y / 256) / 65536) / 4294967296 < 2 ^ 63 /\
  (((y + y / 256) + (y + y / 256) / 65536) + ((y + y / 256) + (y + y / 256) / 65536) / 4294967296) % 128 = fsum 8 8 y := by
 simp only [Sm, fsum, Nat.reducePow] at h ⊢
 obtain ⟨h0, h1, h2, h3, h4, h5, h6, h7, hz⟩ := h
 generalize e1 : y / 256 = y1 at h1 h2 h3 h4 h5 h6 h7 hz ⊢
 generalize e2 : y1 / 256 = y2 at h2 h3 h4 h5 h6 h7 hz ⊢
 generalize e3 : y2 / 256 = y3 at h3 h4 h5 h6 h7 hz ⊢
 generalize e4 : y3 / 256 = y4 at h4 h5 h6 h7 hz ⊢
 generalize e5 : y4 / 256 = y5 at h5 h6 h7 hz ⊢
 generalize e6 : y5 / 256 = y6 at h6 h7 hz ⊢
 generalize e7 : y6 / 256 = y7 at h7 hz ⊢
 have k7 : y7 <= 8 := by omega
 have f7 : y7 % 256 = y7 := by omega
 rw [f7]
 generalize f0 : y % 256 = d0 at h0 ⊢
 generalize f1 : y1 % 256 = d1 at h1 ⊢
 generalize f2 : y2 % 256 = d2 at h2 ⊢
 generalize f3 : y3 % 256 = d3 at h3 ⊢
 generalize f4 : y4 % 256 = d4 at h4 ⊢
 generalize f5 : y5 % 256 = d5 at h5 ⊢
 generalize f6 : y6 % 256 = d6 at h6 ⊢
 have g0 : y = d0 + 256 * y1 := by omega
 have g1 : y1 = d1 + 256 * y2 := by omega
 have g2 : y2 = d2 + 256 * y3 := by omega
 have g3 : y3 = d3 + 256 * y4 := by omega
 have g4 : y4 = d4 + 256 * y5 := by omega
 have g5 : y5 = d5 + 256 * y6 := by omega
 have g6 : y6 = d6 + 256 * y7 := by omega
 clear e1 e2 e3 e4 e5 e6 e7 f0 f1 f2 f3 f4 f5 f6 f7 hz
 subst g6 g5 g4 g3 g2 g1 g0
 have s1 : ∀ a, a = (d0 + 256 * (d1 + 256 * (d2 + 256 * (d3 + 256 * (d4 + 256 * (d5 + 256 * (d6 + 256 * y7)))))) + (d1 + 256 * (d2 + 256 * (d3 + 256 * (d4 + 256 * (d5 + 256 * (d6 + 256 * y7)))))) ) ->
   a < 2 ^ 60 /\ a / 65536 = (d2 + d3) + 256 * ((d3 + d4) + 256 * ((d4 + d5) + 256 * ((d5 + d6) + 256 * ((d6 + y7) + 256 * y7)))) := by
  intro a ha;constructor <;> omega
 obtain ⟨a, ha⟩ : ∃ a, a = (d0 + 256 * (d1 + 256 * (d2 + 256 * (d3 + 256 * (d4 + 256 * (d5 + 256 * (d6 + 256 * y7)))))) + (d1 + 256 * (d2 + 256 * (d3 + 256 * (d4 + 256 * (d5 + 256 * (d6 + 256 * y7)))))) ) := ⟨_, rfl⟩
 obtain ⟨t1, t2⟩ := s1 a ha
 rw [<- ha, t2]
 obtain ⟨c, hc⟩ : ∃ c, c = a + (d2 + d3 + 256 * (d3 + d4 + 256 * (d4 + d5 + 256 * (d5 + d6 + 256 * (d6 + y7 + 256 * y7))))) := ⟨_, rfl⟩
 have s2 : c / 4294967296 = (d4 + d5 + d6 + y7) + 256 * ((d5 + d6 + y7) + 256 * ((d6 + y7) + 256 * y7)) := by omega
 have s3 : c < 2 ^ 62 := by omega
 have s4 : ∃ R, c = (d0 + d1 + d2 + d3) + 256 * R := ⟨(d1 + d2 + d3 + d4) + 256 * ((d2 + d3 + d4 + d5) + 256 * ((d3 + d4 + d5 + d6) + 256 * ((d4 + d5 + d6 + y7) + 256 * ((d5 + d6 + y7) + 256 * ((d6 + y7) + 256 * y7))))), by omega⟩
 obtain ⟨R, hR⟩ := s4
 rw [<- hc, s2]
 generalize (d5 + d6 + y7) + 256 * ((d6 + y7) + 256 * y7) = R2 at *
 clear s1 ha hc t2
 refine ⟨by omega, by omega, by omega, by omega⟩

theorem count_ones (x : Nat) (hx : x < 2 ^ 64) :
  fmask 1 32 = 6148914691236517205 /\ fmask 2 16 = 3689348814741910323 /\ fmask 4 8 = 1085102592571150095 /\
  Sm 2 2 32 (pairS 1 32 x) /\ Sm 4 4 16 (pairS 2 16 (pairS 1 32 x)) /\ Sm 8 8 8 (pairS 4 8 (pairS 2 16 (pairS 1 32 x))) /\
  fsum 8 8 (pairS 4 8 (pairS 2 16 (pairS 1 32 x))) = (onesN 64 x).length /\
  (pairS 2 16 (pairS 1 32 x) / 2 ^ 4 + pairS 2 16 (pairS 1 32 x)) &&& fmask 4 8 = pairS 4 8 (pairS 2 16 (pairS 1 32 x)) := by
 have s1 : Sm 2 2 32 (pairS 1 32 x) := pairS_small 1 1 (by omega) 32 x (sm_ones 64 x hx)
 have s2 : Sm 4 4 16 (pairS 2 16 (pairS 1 32 x)) := pairS_small 2 2 (by omega) 16 _ s1
 have s3 : Sm 8 8 8 (pairS 4 8 (pairS 2 16 (pairS 1 32 x))) := pairS_small 4 4 (by omega) 8 _ s2
 refine ⟨by decide, by decide, by decide, s1, s2, s3, ?_, mask_last 4 4 (by omega) (by omega) 8 _ s2⟩
 rw [show (8 : Nat) = 2 * 4 from rfl, fsum_pairS 4 8 _ (by omega), show (4 : Nat) = 2 * 2 from rfl, show 2 * (2 * (2 * 2)) = 16 from rfl, fsum_pairS 2 16 _ (by omega), show (2 * 16 : Nat) = 32 from rfl]
 rw [<- fsum_ones, show fsum 2 32 (pairS 1 32 x) = fsum (2 * 1) 32 (pairS 1 32 x) from rfl, fsum_pairS 1 32 _ (by omega)]
end Go.User
