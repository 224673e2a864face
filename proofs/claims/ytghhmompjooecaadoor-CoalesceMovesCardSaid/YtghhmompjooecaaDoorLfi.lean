/- The types of the seat, and that the program has them. The laws of the segments: what all need. Strictly increasing lists of numbers; the segments of words. How many different (array, segment) pairs there are: array by array. How many ones a number has: the sums of fields twice as wide. Segments: the reference's small functions: what they compute. Segments: more of the reference: what it computes. Segments: the reference's bound and moves, words, the number of ones: what they compute. Segments: the program's functions: what they compute. Segments: the laws: what they compute. Segments: two more laws: what they compute. Written by gen.py: what is left to show of each function. Written by gen.py: what is left to show of each function. Written by gen.py: what is left to show of each function. -/
import Derived.Test.YtghhmompjooecaaDoorLfh
import Derived.KernelRfl
import Derived.Test.YtghhmompjooecaaDoorProg
import Derived.Test.YtghhmompjooecaaDoorRows
import Derived.Test.YtghhmompjooecaaDoorTie
import Derived.Test.YtghhmompjooecaaDoorCards
import Derived.ProofKit
import Derived.LaidMore
import Derived.OpenShut
import Derived.Stop.Joined
set_option linter.unusedVariables false
set_option linter.unusedSimpArgs false
namespace Sp
abbrev Raw := Bool × Int × Int × Int × Int × Int × Int × Bool × Unit
abbrev Span := Int × Int × Int × Unit
abbrev Form := Bool × Int × Int × Int × Span × Unit
abbrev Arr := List UInt8 × Int × Int × Int × Unit
abbrev Ev := Int × Int × Int × Int × Int × Int × Int × Int × Int × Unit
end Sp
namespace Go.User
open Go.Lf Go.Proofs
abbrev tI : Ty := .int .i64
abbrev tSpan : Ty := .prod tI (.prod tI (.prod tI .unit))
abbrev tForm : Ty := .prod .bool (.prod tI (.prod tI (.prod tI (.prod tSpan .unit))))
abbrev tArr : Ty := .prod .str (.prod tI (.prod tI (.prod tI .unit)))
abbrev tEv : Ty := .prod tI (.prod tI (.prod tI (.prod tI (.prod tI (.prod tI (.prod tI (.prod tI (.prod (.int .i32) .unit))))))))
abbrev tRaw : Ty := .prod .bool (.prod (.int .i16) (.prod (.int .i16) (.prod (.int .i16) (.prod (.int .i32) (.prod (.int .u16) (.prod (.int .u16) (.prod .bool .unit)))))))
end Go.User
namespace Go.User
open Go.Lf Go.Proofs
def tysQ (q : Nat) : List (TypeId × Ty) := [(2, tI), (3, tI), (4, .bool), (5, .int .u8), (9, .str), (21, .int .i32), (22, .slice tI), (23, .slice tEv), (24, .int .i16), (25, .int .u16), (26, tRaw), (27, tRaw), (29, .slice tArr), (30, tArr), (31, tArr), (32, tSpan), (33, tSpan), (34, tForm), (35, tForm), (38, .int .u64), (44, .slice (.arr 3 (.int .u8))), (45, .slice (.slice tI)), (46, tEv), (47, tEv), (49, .arr 3 (.int .u8)), (51, .arr 3 tI), (52, .slice (.int .u16)), (53, .slice tI), (60, .int .u64), (74, .arr 2 tI), (93, .int .u32)]
def eqs : List TypeId := []

theorem rows_all {P : Program} {tys0 : List (TypeId × Ty)} : ∀ (l : List (TypeId × Ty)), (∀ x ∈ l, RowOK P tys0 x.1 x.2) -> ∀ T τ, Lf.look l T = some τ -> RowOK P tys0 T τ
 | [], _, T, τ, h => by cases h
 | x :: l, h, T, τ, hl => by
  simp only [Lf.look] at hl;cases hb : Nat.beq x.1 T
  ·rw [hb] at hl; exact rows_all l (fun y hy => h y (by simp [hy])) T τ hl
  ·rw [hb] at hl
   have := Nat.eq_of_beq_eq_true hb
   simp only [cond_true, Option.some.injEq] at hl;rw [<- this, <- hl]; exact h x (by simp)
theorem row2 (q : Nat) : RowOK Tryd.prog (tysQ q) 2 (tI) := ⟨Tryd.t2, _, by kernel_rfl, Tryd.underlying2, by kernel_rfl, by decide, by kernel_rfl, by kernel_rfl⟩
theorem row3 (q : Nat) : RowOK Tryd.prog (tysQ q) 3 (tI) := ⟨Tryd.t3, _, by kernel_rfl, Tryd.underlying3, by kernel_rfl, by decide, by kernel_rfl, by kernel_rfl⟩
theorem row4 (q : Nat) : RowOK Tryd.prog (tysQ q) 4 (.bool) := ⟨Tryd.t4, _, by kernel_rfl, Tryd.underlying4, by kernel_rfl, by decide, by kernel_rfl, by kernel_rfl⟩
theorem row5 (q : Nat) : RowOK Tryd.prog (tysQ q) 5 (.int .u8) := ⟨Tryd.t5, _, by kernel_rfl, Tryd.underlying5, by kernel_rfl, by decide, by kernel_rfl, by kernel_rfl⟩
theorem row9 (q : Nat) : RowOK Tryd.prog (tysQ q) 9 (.str) := ⟨Tryd.t9, _, by kernel_rfl, Tryd.underlying9, by kernel_rfl, by decide, by kernel_rfl, by kernel_rfl⟩
theorem row21 (q : Nat) : RowOK Tryd.prog (tysQ q) 21 (.int .i32) := ⟨Tryd.t21, _, by kernel_rfl, Tryd.underlying21, by kernel_rfl, by decide, by kernel_rfl, by kernel_rfl⟩
theorem row22 (q : Nat) : RowOK Tryd.prog (tysQ q) 22 (.slice tI) := ⟨Tryd.t22, _, by kernel_rfl, Tryd.underlying22, by kernel_rfl, by decide, by kernel_rfl, by kernel_rfl⟩
theorem row23 (q : Nat) : RowOK Tryd.prog (tysQ q) 23 (.slice tEv) := ⟨Tryd.t23, _, by kernel_rfl, Tryd.underlying23, by kernel_rfl, by decide, by kernel_rfl, by kernel_rfl⟩
theorem row24 (q : Nat) : RowOK Tryd.prog (tysQ q) 24 (.int .i16) := ⟨Tryd.t24, _, by kernel_rfl, Tryd.underlying24, by kernel_rfl, by decide, by kernel_rfl, by kernel_rfl⟩
theorem row25 (q : Nat) : RowOK Tryd.prog (tysQ q) 25 (.int .u16) := ⟨Tryd.t25, _, by kernel_rfl, Tryd.underlying25, by kernel_rfl, by decide, by kernel_rfl, by kernel_rfl⟩
theorem row26 (q : Nat) : RowOK Tryd.prog (tysQ q) 26 (tRaw) := ⟨Tryd.t26, _, by kernel_rfl, Tryd.underlying26, by kernel_rfl, by decide, by kernel_rfl, by kernel_rfl⟩
theorem row27 (q : Nat) : RowOK Tryd.prog (tysQ q) 27 (tRaw) := ⟨Tryd.t27, _, by kernel_rfl, Tryd.underlying27, by kernel_rfl, by decide, by kernel_rfl, by kernel_rfl⟩
theorem row29 (q : Nat) : RowOK Tryd.prog (tysQ q) 29 (.slice tArr) := ⟨Tryd.t29, _, by kernel_rfl, Tryd.underlying29, by kernel_rfl, by decide, by kernel_rfl, by kernel_rfl⟩
theorem row30 (q : Nat) : RowOK Tryd.prog (tysQ q) 30 (tArr) := ⟨Tryd.t30, _, by kernel_rfl, Tryd.underlying30, by kernel_rfl, by decide, by kernel_rfl, by kernel_rfl⟩
theorem row31 (q : Nat) : RowOK Tryd.prog (tysQ q) 31 (tArr) := ⟨Tryd.t31, _, by kernel_rfl, Tryd.underlying31, by kernel_rfl, by decide, by kernel_rfl, by kernel_rfl⟩
theorem row32 (q : Nat) : RowOK Tryd.prog (tysQ q) 32 (tSpan) := ⟨Tryd.t32, _, by kernel_rfl, Tryd.underlying32, by kernel_rfl, by decide, by kernel_rfl, by kernel_rfl⟩
theorem row33 (q : Nat) : RowOK Tryd.prog (tysQ q) 33 (tSpan) := ⟨Tryd.t33, _, by kernel_rfl, Tryd.underlying33, by kernel_rfl, by decide, by kernel_rfl, by kernel_rfl⟩
theorem row34 (q : Nat) : RowOK Tryd.prog (tysQ q) 34 (tForm) := ⟨Tryd.t34, _, by kernel_rfl, Tryd.underlying34, by kernel_rfl, by decide, by kernel_rfl, by kernel_rfl⟩
theorem row35 (q : Nat) : RowOK Tryd.prog (tysQ q) 35 (tForm) := ⟨Tryd.t35, _, by kernel_rfl, Tryd.underlying35, by kernel_rfl, by decide, by kernel_rfl, by kernel_rfl⟩
theorem row38 (q : Nat) : RowOK Tryd.prog (tysQ q) 38 (.int .u64) := ⟨Tryd.t38, _, by kernel_rfl, Tryd.underlying38, by kernel_rfl, by decide, by kernel_rfl, by kernel_rfl⟩
theorem row44 (q : Nat) : RowOK Tryd.prog (tysQ q) 44 (.slice (.arr 3 (.int .u8))) := ⟨Tryd.t44, _, by kernel_rfl, Tryd.underlying44, by kernel_rfl, by decide, by kernel_rfl, by kernel_rfl⟩
theorem row45 (q : Nat) : RowOK Tryd.prog (tysQ q) 45 (.slice (.slice tI)) := ⟨Tryd.t45, _, by kernel_rfl, Tryd.underlying45, by kernel_rfl, by decide, by kernel_rfl, by kernel_rfl⟩
theorem row46 (q : Nat) : RowOK Tryd.prog (tysQ q) 46 (tEv) := ⟨Tryd.t46, _, by kernel_rfl, Tryd.underlying46, by kernel_rfl, by decide, by kernel_rfl, by kernel_rfl⟩
theorem row47 (q : Nat) : RowOK Tryd.prog (tysQ q) 47 (tEv) := ⟨Tryd.t47, _, by kernel_rfl, Tryd.underlying47, by kernel_rfl, by decide, by kernel_rfl, by kernel_rfl⟩
theorem row49 (q : Nat) : RowOK Tryd.prog (tysQ q) 49 (.arr 3 (.int .u8)) := ⟨Tryd.t49, _, by kernel_rfl, Tryd.underlying49, by kernel_rfl, by decide, by kernel_rfl, by kernel_rfl⟩
theorem row51 (q : Nat) : RowOK Tryd.prog (tysQ q) 51 (.arr 3 tI) := ⟨Tryd.t51, _, by kernel_rfl, Tryd.underlying51, by kernel_rfl, by decide, by kernel_rfl, by kernel_rfl⟩
theorem row52 (q : Nat) : RowOK Tryd.prog (tysQ q) 52 (.slice (.int .u16)) := ⟨Tryd.t52, _, by kernel_rfl, Tryd.underlying52, by kernel_rfl, by decide, by kernel_rfl, by kernel_rfl⟩
theorem row53 (q : Nat) : RowOK Tryd.prog (tysQ q) 53 (.slice tI) := ⟨Tryd.t53, _, by kernel_rfl, Tryd.underlying53, by kernel_rfl, by decide, by kernel_rfl, by kernel_rfl⟩
theorem row60 (q : Nat) : RowOK Tryd.prog (tysQ q) 60 (.int .u64) := ⟨Tryd.t60, _, by kernel_rfl, Tryd.underlying60, by kernel_rfl, by decide, by kernel_rfl, by kernel_rfl⟩
theorem row74 (q : Nat) : RowOK Tryd.prog (tysQ q) 74 (.arr 2 tI) := ⟨Tryd.t74, _, by kernel_rfl, Tryd.underlying74, by kernel_rfl, by decide, by kernel_rfl, by kernel_rfl⟩
theorem row93 (q : Nat) : RowOK Tryd.prog (tysQ q) 93 (.int .u32) := ⟨Tryd.t93, _, by kernel_rfl, Tryd.underlying93, by kernel_rfl, by decide, by kernel_rfl, by kernel_rfl⟩
theorem tysQ_ok (q : Nat) : ∀ T τ, Lf.look (tysQ q) T = some τ -> RowOK Tryd.prog (tysQ q) T τ := by
 refine rows_all (tysQ q) ?_
 intro x hx
 simp only [tysQ, List.mem_cons, List.not_mem_nil, or_false] at hx
 rcases hx with rfl | rfl | rfl | rfl | rfl | rfl | rfl | rfl | rfl | rfl | rfl | rfl | rfl | rfl | rfl | rfl | rfl | rfl | rfl | rfl | rfl | rfl | rfl | rfl | rfl | rfl | rfl | rfl | rfl | rfl | rfl
 ·exact row2 q
 ·exact row3 q
 ·exact row4 q
 ·exact row5 q
 ·exact row9 q
 ·exact row21 q
 ·exact row22 q
 ·exact row23 q
 ·exact row24 q
 ·exact row25 q
 ·exact row26 q
 ·exact row27 q
 ·exact row29 q
 ·exact row30 q
 ·exact row31 q
 ·exact row32 q
 ·exact row33 q
 ·exact row34 q
 ·exact row35 q
 ·exact row38 q
 ·exact row44 q
 ·exact row45 q
 ·exact row46 q
 ·exact row47 q
 ·exact row49 q
 ·exact row51 q
 ·exact row52 q
 ·exact row53 q
 ·exact row60 q
 ·exact row74 q
 ·exact row93 q
theorem look_flat (q : Nat) {T : TypeId} {τ : Ty} (h : Lf.look (tysQ q) T = some τ) (h3 : T = 3) : τ.isAgg = false := by
 rcases h3 with rfl
 ·have e : Lf.look (tysQ q) 3 = some (tI) := by kernel_rfl
  rw [e] at h;injection h with h;rw [<- h]; rfl
theorem eqs_ok (q : Nat) : ∀ T, T ∈ eqs -> EqRow Tryd.prog (tysQ q) eqs T := by
 have key : ∀ fs : List Field, (∀ f ∈ fs, f.name ≠ "_" /\ ((f.type = 3) ∨ f.type ∈ eqs)) -> ∀ f ∈ fs, f.name ≠ "_" /\ ∀ τ, Lf.look (tysQ q) f.type = some τ -> τ.isAgg = true -> f.type ∈ eqs := by
  intro fs h f hf;refine ⟨(h f hf).1, fun τ h1 h2 => ?_⟩
  rcases (h f hf).2 with h3 | h3
  ·rw [look_flat q h1 h3] at h2; cases h2
  ·exact h3
 intro T hT
 simp only [eqs, List.mem_cons, List.not_mem_nil, or_false] at hT
theorem mixed_ok : Tryd.prog.follows .mixedOrders = true := by kernel_rfl
theorem ctx_okQ {C : Ctx} (q : Nat) (h1 : C.tys = tysQ q) (h2 : C.eqs = eqs) (h3 : ∀ f s, Lf.look C.fns f = some s -> FOk Tryd.prog f s)
  (h4 : ∀ f s, Lf.look C.ptrs f = some s -> ∃ o, POk Tryd.prog f s o /\ ∀ q, o = some q -> C.pin.isSome = true /\ q = C.q) (h5 : ∀ t, C.thk = some t -> TOk Tryd.prog C.q t) (h6 : ∀ t, C.clo = some t -> ClOk Tryd.prog t)
  (h7 : ∀ f s, Lf.look C.ins f = some s -> IOk Tryd.prog f s) (h8 : ∀ t, C.kno = some t -> KnOK Tryd.prog C.q t) : CtxOK Tryd.prog C :=
 ⟨by rw [h1]; exact tysQ_ok q, h3, mixed_ok, by rw [h1, h2]; exact eqs_ok q, h4, h5, h6, h7, h8⟩
theorem ins_nil {P : Program} : ∀ f s, Lf.look ([] : List (FuncId × ISpec)) f = some s -> IOk P f s := fun _ _ h => by cases h
theorem ptrs_nil {P : Program} {C : Ctx} : ∀ f s, Lf.look ([] : List (FuncId × PSpec)) f = some s -> ∃ o, POk P f s o /\ ∀ q, o = some q -> C.pin.isSome = true /\ q = C.q := fun _ _ h => by cases h
theorem fns_nil {P : Program} : ∀ f s, Lf.look ([] : List (FuncId × FSpec)) f = some s -> FOk P f s := fun _ _ h => by cases h
theorem fns_cons {P : Program} {g : FuncId} {t : FSpec} {l : List (FuncId × FSpec)} (h : FOk P g t) (hl : ∀ f s, Lf.look l f = some s -> FOk P f s) : ∀ f s, Lf.look ((g, t) :: l) f = some s -> FOk P f s := by
 intro f s hs
 simp only [Lf.look] at hs
 cases hb : Nat.beq g f
 ·rw [hb] at hs; exact hl f s hs
 ·rw [hb] at hs
  have := Nat.eq_of_beq_eq_true hb
  simp only [cond_true, Option.some.injEq] at hs;rw [<- this, <- hs]; exact h
theorem ptr_cons {P : Program} {C : Ctx} {g : FuncId} {t : PSpec} {l : List (FuncId × PSpec)} (h : POk P g t) (hl : ∀ f s, Lf.look l f = some s -> ∃ o, POk P f s o /\ ∀ q, o = some q -> C.pin.isSome = true /\ q = C.q) :
  ∀ f s, Lf.look ((g, t) :: l) f = some s -> ∃ o, POk P f s o /\ ∀ q, o = some q -> C.pin.isSome = true /\ q = C.q := by
 intro f s hs
 simp only [Lf.look] at hs
 cases hb : Nat.beq g f
 ·rw [hb] at hs; exact hl f s hs
 ·rw [hb] at hs
  have := Nat.eq_of_beq_eq_true hb
  simp only [cond_true, Option.some.injEq] at hs;rw [<- this, <- hs]; exact ⟨none, h, fun q hq => by cases hq⟩
theorem okC {C : Ctx} (h : ∀ f s, Lf.look C.fns f = some s -> FOk Tryd.prog f s) (h1 : C.tys = tysQ 0) (h2 : C.eqs = eqs) (h3 : C.ptrs = []) (h4 : C.thk = none) (h5 : C.clo = none) (h6 : C.ins = []) (h7 : C.kno = none) : CtxOK Tryd.prog C :=
 ctx_okQ 0 h1 h2 h (by rw [h3]; exact ptrs_nil) (fun _ h => by rw [h4] at h; cases h) (fun _ h => by rw [h5] at h; cases h) (by rw [h6]; exact ins_nil) (fun _ h => by rw [h7] at h; cases h)
def mkC (n : Nat) (fns : List (FuncId × FSpec)) (g : Nat := 0) : Ctx := { N := n, tys := tysQ 0, fns := fns, eqs := eqs, glb := g }
theorem okA {n g : Nat} {fns : List (FuncId × FSpec)} (h : ∀ f s, Lf.look fns f = some s -> FOk Tryd.prog f s) : CtxOK Tryd.prog (mkC n fns g) := okC h rfl rfl rfl rfl rfl rfl rfl
theorem lim_eq : lim = 140737488355328 := rfl
theorem maxNew_eq : maxNew = 2147483648 := rfl
theorem inK_of {z : Int} (h1 : -9223372036854775808 <= z) (h2 : z <= 9223372036854775807) : inK .i64 z := ⟨h1, h2⟩
theorem inK_mid {z : Int} (h0 : -1000000000 <= z) (h1 : z <= 1000000000) : inK .i64 z := inK_of (by omega) (by omega)
theorem inK_succ {i n : Nat} (h : (i : Int) < (n : Int)) (hn : n <= lim) : inK .i64 ((i : Int) + 1) := by rw [lim_eq] at hn; exact inK_of (by omega) (by omega)
theorem inN_of {i n : Nat} (h : (i : Int) < (n : Int)) : inN (i : Int) n := ⟨by omega, h⟩
end Go.User
namespace Go.Proofs.YtghhmompjooecaaDoor
open Go.ChangeShapes Go.WideShapes Go.ChangeAt Go.RowKit Go.Proofs Go.Lf
theorem Tryd.own : ownKnob Tryd.prog.godebug = none := by kernel_rfl
theorem Tryd.laidOut : laidOutB Tryd.prog = true := by kernel_rfl
def Tryd.laid : List (String × DataW Unit) := [("math/bits.deBruijn64tab", Rows.laid_math_bits_deBruijn64tab)]
def tabN : List Int := [0, 1, 56, 2, 57, 49, 28, 3, 61, 58, 42, 50, 38, 29, 17, 4, 62, 47, 59, 36, 45, 43, 51, 22, 53, 39, 33, 30, 24, 18, 12, 5, 63, 55, 48, 27, 60, 41, 37, 16, 46, 35, 44, 21, 52, 32, 23, 11, 54, 26, 40, 15, 34, 20, 31, 10, 25, 14, 19, 9, 13, 8, 7, 6]
theorem laid_tab {H : Type} : (Rows.laid_math_bits_deBruijn64tab : DataW H) = .agg (tabN.map fun n => .lit (.int .u8 n)) := rfl
theorem Tryd.glb {W : World} (h : laidMetH Tryd.prog Tryd.laid W) : GlbOK 1 (fun b => b < W.heap.size) W := by
 have hg : Tryd.prog.globalNamed "math/bits.deBruijn64tab" = some 0 := by kernel_rfl
 have ht : (Tryd.prog.globals[0]?).map (·.type) = some 77 := by kernel_rfl
 have hu : Tryd.prog.underlying 77 = some (.array 64 5) := by kernel_rfl
 have h5 : Tryd.prog.underlying 5 = some (.int .u8) := Tryd.underlying5
 have c5 : Tryd.prog.cellsOf 5 = 1 := by kernel_rfl
 rw [MakeChecks.laidMetH_plain _ _ _ (by kernel_rfl)] at h
 obtain ⟨ps, ⟨g0, t0, cs0, f0, p0, q0, hg0, ht0, hv0, hd0, _, _⟩, _⟩ := h
 obtain rfl := Option.some.inj (hg.symm.trans hg0)
 obtain rfl := Option.some.inj (ht.symm.trans ht0)
 obtain ⟨xs, m1, rfl, hx1, hlen, hn3, hel⟩ := DataW.trod_array hu hd0
 simp only [Prod.mk.injEq] at hx1
 have hx1 := hx1.1
 rw [c5] at hel
 rw [laid_tab] at hx1
 injection hx1 with hx1
 have hcell : ∀ (i : Nat) (n : Int), tabN[i]? = some n -> cs0[i]? = some (.int .u8 n) := by
  intro i n hi;have hi64 : i < 64 := (List.getElem?_eq_some_iff.1 hi).1;have h1 := hel i hi64;have hxi : i < xs.length := by omega
  rw [List.getElem?_eq_getElem hxi] at h1;obtain ⟨k, e1, e2, _⟩ := DataW.trod_int h5 h1;have e3 : (xs.map (·.1))[i]? = some (.lit (.int .u8 k)) := by rw [List.getElem?_map, List.getElem?_eq_getElem hxi, e2]; rfl
  rw [<- hx1, List.getElem?_map, hi] at e3;simp at e3;subst e3;have e4 : (List.drop (i * 1) cs0.toList)[0]? = some (.int .u8 n) := by
   have : (List.take 1 (List.drop (i * 1) cs0.toList))[0]? = some (.int .u8 n) := by rw [e1]; rfl
   rw [List.getElem?_take_of_lt (by omega)] at this;exact this
  rw [List.getElem?_drop] at e4
  simpa using e4
 have hblk : ∃ t fr, W.heap[0]? = some (.cells cs0 t fr) := by
  simp only [World.var?, hg, Option.bind_some] at hv0;split at hv0
  ·rename_i cs t fr he
   cases hv0
   exact ⟨t, fr, he⟩
  ·cases hv0
 obtain ⟨T, fr, hb0⟩ := hblk
 intro b o hb
 match b, hb with
 | 0, hb =>
  have ho : o = tabN.map (Value.int .u8) := (Option.some.inj hb).symm
  subst ho;refine ⟨(Array.getElem?_eq_some_iff.1 hb0).1, cs0, T, fr, hb0, fun i v hi => ?_⟩
  rw [List.getElem?_map] at hi;cases hn : tabN[i]? with
  | none => rw [hn] at hi; cases hi
  | some n =>
   rw [hn] at hi;cases hi;exact hcell i n hn
theorem Tryd.door_met (os : Os) (args : Array Value) : laidMetH Tryd.prog Tryd.laid ((World.doorLaid Tryd.prog 400 os).forCall (fun _ _ => 0) ⟨#[], args, []⟩).memory :=
 laidMetH_of_parts3 (fuel := 8) (laidMet_of_run' 8 (by kernel_rfl) (by kernel_rfl)) (by kernel_rfl) (by kernel_rfl)
end Go.Proofs.YtghhmompjooecaaDoor
namespace Go.User

def Strict (l : List Int) : Prop := l.Pairwise (· < ·)

theorem strict_ext : ∀ {l m : List Int}, Strict l -> Strict m -> (∀ x, x ∈ l ↔ x ∈ m) -> l = m
 | [], [], _, _, _ => rfl
 | [], y :: m, _, _, h => by have := (h y).2 (by simp); simp at this
 | x :: l, [], _, _, h => by have := (h x).1 (by simp); simp at this
 | x :: l, y :: m, hl, hm, h => by
  obtain ⟨h1, h2⟩ := List.pairwise_cons.1 hl;obtain ⟨k1, k2⟩ := List.pairwise_cons.1 hm;have hxy : x = y := by
   have a := (h x).1 (by simp)
   have b := (h y).2 (by simp)
   rcases List.mem_cons.1 a with rfl | a
   ·rfl
   ·rcases List.mem_cons.1 b with rfl | b
    ·rfl
    ·have := h1 _ b; have := k1 _ a; omega
  subst hxy
  congr 1
  refine strict_ext h2 k2 fun z => ?_
  constructor
  ·intro hz
   have := h1 z hz
   rcases List.mem_cons.1 ((h z).1 (List.mem_cons_of_mem _ hz)) with rfl | h'
   ·omega
   ·exact h'
  ·intro hz
   have := k1 z hz
   rcases List.mem_cons.1 ((h z).2 (List.mem_cons_of_mem _ hz)) with rfl | h'
   ·omega
   ·exact h'

def insS : List Int -> Int -> List Int
 | [], n => [n]
 | x :: r, n => if x < n then x :: insS r n else if x = n then x :: r else n :: x :: r

theorem mem_insS (n y : Int) : ∀ (l : List Int), y ∈ insS l n ↔ y ∈ l ∨ y = n
 | [] => by simp [insS]
 | x :: r => by
  unfold insS;split
  ·simp only [List.mem_cons, mem_insS n y r]; constructor
   ·rintro (h | h | h) <;> simp [h]
   ·rintro ((h | h) | h) <;> simp [h]
  ·split
   ·rename_i h; subst h; simp only [List.mem_cons]; constructor
    ·intro h; exact .inl h
    ·rintro (h | h)
     ·exact h
     ·exact .inl h
   ·simp only [List.mem_cons]; constructor
    ·rintro (h | h | h) <;> simp [h]
    ·rintro ((h | h) | h) <;> simp [h]

theorem strict_insS (n : Int) : ∀ {l : List Int}, Strict l -> Strict (insS l n)
 | [], _ => by simp [insS, Strict]
 | x :: r, h => by
  obtain ⟨h1, h2⟩ := List.pairwise_cons.1 h;unfold insS;split
  ·rename_i hx
   refine List.pairwise_cons.2 ⟨fun y hy => ?_, strict_insS n h2⟩
   rcases (mem_insS n y r).1 hy with hy | rfl
   ·exact h1 y hy
   ·exact hx
  ·split
   ·exact h
   ·refine List.pairwise_cons.2 ⟨fun y hy => ?_, h⟩
    rcases List.mem_cons.1 hy with rfl | hy
    ·omega
    ·have := h1 y hy; omega


def segs (l : List Int) : List Int := l.foldl (fun acc a => insS acc (a / 16)) []

theorem foldS_mem (y : Int) : ∀ (l acc : List Int), y ∈ l.foldl (fun acc a => insS acc (a / 16)) acc ↔ y ∈ acc ∨ ∃ a, a ∈ l /\ y = a / 16
 | [], acc => by simp
 | a :: l, acc => by
  rw [List.foldl_cons, foldS_mem y l, mem_insS];constructor
  ·rintro ((h | h) | ⟨b, hb, rfl⟩)
   ·exact .inl h
   ·exact .inr ⟨a, by simp, h⟩
   ·exact .inr ⟨b, by simp [hb], rfl⟩
  ·rintro (h | ⟨b, hb, rfl⟩)
   ·exact .inl (.inl h)
   ·rcases List.mem_cons.1 hb with rfl | hb
    ·exact .inl (.inr rfl)
    ·exact .inr ⟨b, hb, rfl⟩

theorem mem_segs (l : List Int) (y : Int) : y ∈ segs l ↔ ∃ a, a ∈ l /\ y = a / 16 := by
 unfold segs
 rw [foldS_mem]
 simp

theorem foldS_strict : ∀ (l : List Int) {acc : List Int}, Strict acc -> Strict (l.foldl (fun acc a => insS acc (a / 16)) acc)
 | [], _, h => h
 | a :: l, _, h => foldS_strict l (strict_insS _ h)

theorem segs_strict (l : List Int) : Strict (segs l) := foldS_strict l (by simp [Strict])

theorem segs_snoc (l : List Int) (a : Int) : segs (l ++ [a]) = insS (segs l) (a / 16) := by
 unfold segs
 rw [List.foldl_append]
 rfl

theorem segs_eq {l m : List Int} (hm : Strict m) (h : ∀ y, y ∈ m ↔ ∃ a, a ∈ l /\ y = a / 16) : m = segs l :=
 strict_ext hm (segs_strict l) fun y => (h y).trans (mem_segs l y).symm

theorem segs_congr {l m : List Int} (h : ∀ a, a ∈ l ↔ a ∈ m) : segs l = segs m :=
 segs_eq (segs_strict l) fun y => by
  rw [mem_segs];constructor <;> rintro ⟨a, ha, rfl⟩
  ·exact ⟨a, (h a).1 ha, rfl⟩
  ·exact ⟨a, (h a).2 ha, rfl⟩

theorem segs_shift (l : List Int) (k : Int) : segs (l.map (· + 16 * k)) = (segs l).map (· + k) := by
 symm
 refine segs_eq ?_ fun y => ?_
 ·unfold Strict
  rw [List.pairwise_map];exact (segs_strict l).imp fun h => by omega
 ·simp only [List.mem_map, mem_segs]
  constructor
  ·rintro ⟨_, ⟨a, ha, rfl⟩, rfl⟩
   exact ⟨_, ⟨a, ha, rfl⟩, by omega⟩
  ·rintro ⟨_, ⟨a, ha, rfl⟩, rfl⟩
   exact ⟨_, ⟨a, ha, rfl⟩, by omega⟩

theorem strict_nodup {l : List Int} (h : Strict l) : l.Nodup := h.imp fun h => by omega

theorem insS_len_le (n : Int) : ∀ (l : List Int), l.length <= (insS l n).length /\ (insS l n).length <= l.length + 1
 | [] => by simp [insS]
 | x :: r => by
  have := insS_len_le n r
  unfold insS;split
  ·simp; omega
  ·split <;> simp

theorem segs_len_le (l : List Int) : (segs l).length <= l.length := by
 have : ∀ (l acc : List Int), (l.foldl (fun acc a => insS acc (a / 16)) acc).length <= acc.length + l.length := by
  intro l
  induction l with
  | nil => simp
  | cons a l ih =>
   intro acc;have h1 := ih (insS acc (a / 16));have h2 := (insS_len_le (a / 16) acc).2;simp only [List.foldl_cons, List.length_cons];omega
 simpa [segs] using this l []

theorem nodup_len {A : Type} [DecidableEq A] : ∀ {l m : List A}, l.Nodup -> (∀ x, x ∈ l -> x ∈ m) -> l.length <= m.length
 | [], _, _, _ => by simp
 | x :: l, m, h, hm => by
  obtain ⟨h1, h2⟩ := List.nodup_cons.1 h;have hx := hm x (by simp);have := nodup_len (l := l) (m := m.erase x) h2 fun y hy => (List.mem_erase_of_ne (by rintro rfl; exact h1 hy)).2 (hm y (by simp [hy]))
  have := List.length_erase_of_mem hx
  have := List.length_pos_of_mem hx
  simp only [List.length_cons];omega

theorem segs_mono {l m : List Int} (h : ∀ a, a ∈ l -> a ∈ m) : (segs l).length <= (segs m).length := by
 refine nodup_len (strict_nodup (segs_strict l)) fun y hy => ?_
 rw [mem_segs] at hy ⊢
 obtain ⟨a, ha, rfl⟩ := hy
 exact ⟨a, h a ha, rfl⟩

theorem strict_len : ∀ {l : List Int} {a b : Int}, Strict l -> (∀ y, y ∈ l -> a <= y /\ y <= b) -> a <= b + 1 -> (l.length : Int) <= b - a + 1
 | [], a, b, _, _, h => by simp; omega
 | x :: r, a, b, h, hb, _ => by
  obtain ⟨h1, h2⟩ := List.pairwise_cons.1 h;have hx := hb x (by simp);have := strict_len (a := x + 1) (b := b) h2 (fun y hy => ⟨by have := h1 y hy; omega, (hb y (by simp [hy])).2⟩) (by omega)
  simp only [List.length_cons]
  push_cast
  omega

end Go.User
namespace Go.User

def dd : List (Int × Int) -> List (Int × Int)
 | [] => []
 | p :: l => if p ∈ l then dd l else p :: dd l

theorem mem_dd (q : Int × Int) : ∀ (l : List (Int × Int)), q ∈ dd l ↔ q ∈ l
 | [] => by simp [dd]
 | p :: l => by
  have := mem_dd q l
  unfold dd;split
  ·rename_i h
   rw [this, List.mem_cons];constructor
   ·exact .inr
   ·rintro (rfl | h')
    ·exact h
    ·exact h'
  ·simp [this]

theorem nodup_dd : ∀ (l : List (Int × Int)), (dd l).Nodup
 | [] => by simp [dd]
 | p :: l => by
  unfold dd;split
  ·exact nodup_dd l
  ·rename_i h
   exact List.nodup_cons.2 ⟨fun h' => h ((mem_dd p l).1 h'), nodup_dd l⟩

def segp (p : Int × Int) : Int × Int := (p.1, p.2 / 16)

def nmoves (ps : List (Int × Int)) : Nat := (dd (ps.map segp)).length

def wordsOf (ps : List (Int × Int)) (a : Int) : List Int := (ps.filter (fun p => p.1 == a)).map (·.2)

theorem same_len {A : Type} [DecidableEq A] {l m : List A} (hl : l.Nodup) (hm : m.Nodup) (h : ∀ x, x ∈ l ↔ x ∈ m) : l.length = m.length :=
 Nat.le_antisymm (nodup_len hl fun x hx => (h x).1 hx) (nodup_len hm fun x hx => (h x).2 hx)

theorem nmoves_of {ps L : List (Int × Int)} (hL : L.Nodup) (h : ∀ q, q ∈ L ↔ ∃ p, p ∈ ps /\ q = segp p) : nmoves ps = L.length :=
 same_len (nodup_dd _) hL fun q => by
  rw [mem_dd, h, List.mem_map];constructor <;> rintro ⟨p, hp, e⟩ <;> exact ⟨p, hp, e.symm⟩

theorem sum_step (ps : List (Int × Int)) (n : Nat) :
  nmoves (ps.filter (fun p => decide (p.1 < (n + 1 : Nat)) && decide (0 <= p.1))) = nmoves (ps.filter (fun p => decide (p.1 < (n : Nat)) && decide (0 <= p.1))) + (segs (wordsOf ps n)).length := by
 have e : (segs (wordsOf ps n)).length = ((segs (wordsOf ps n)).map fun y => ((n : Int), y)).length := by simp
 rw [e]
 unfold nmoves
 rw [<- List.length_append]
 refine same_len (nodup_dd _) ?_ fun q => ?_
 ·refine List.nodup_append.2 ⟨nodup_dd _, ?_, ?_⟩
  ·exact (segs_strict _).imp (R := (· < ·)) (S := (· ≠ ·)) (fun h => by omega) |>.map _ (fun a b h e => h (by simpa using e))
  ·rintro a ha b hb rfl
   rw [mem_dd, List.mem_map] at ha;obtain ⟨p, hp, rfl⟩ := ha;obtain ⟨y, hy, e⟩ := List.mem_map.1 hb;have := (List.mem_filter.1 hp).2;simp [segp] at e this;omega
 ·rw [mem_dd, List.mem_append, mem_dd, List.mem_map, List.mem_map, List.mem_map]
  constructor
  ·rintro ⟨p, hp, rfl⟩
   obtain ⟨h1, h2⟩ := List.mem_filter.1 hp;simp at h2;by_cases hn : p.1 < n
   ·exact .inl ⟨p, List.mem_filter.2 ⟨h1, by simp; omega⟩, rfl⟩
   ·have hpn : p.1 = n := by omega
    refine .inr ⟨p.2 / 16, (mem_segs _ _).2 ⟨p.2, ?_, rfl⟩, by simp [segp, hpn]⟩
    exact List.mem_map.2 ⟨p, List.mem_filter.2 ⟨h1, by simp [hpn]⟩, rfl⟩
  ·rintro (⟨p, hp, rfl⟩ | ⟨y, hy, rfl⟩)
   ·obtain ⟨h1, h2⟩ := List.mem_filter.1 hp
    simp at h2
    exact ⟨p, List.mem_filter.2 ⟨h1, by simp; omega⟩, rfl⟩
   ·obtain ⟨a, ha, rfl⟩ := (mem_segs _ _).1 hy
    obtain ⟨p, hp, rfl⟩ := List.mem_map.1 ha;obtain ⟨h1, h2⟩ := List.mem_filter.1 hp;simp at h2;exact ⟨p, List.mem_filter.2 ⟨h1, by simp; omega⟩, by simp [segp, h2]⟩

def sumTo (f : Nat -> Nat) : Nat -> Nat
 | 0 => 0
 | n + 1 => sumTo f n + f n

theorem nmoves_sum (ps : List (Int × Int)) (n : Nat) (h : ∀ p, p ∈ ps -> 0 <= p.1 /\ p.1 < n) : nmoves ps = sumTo (fun a => (segs (wordsOf ps a)).length) n := by
 have key : ∀ m, nmoves (ps.filter (fun p => decide (p.1 < (m : Nat)) && decide (0 <= p.1))) = sumTo (fun a => (segs (wordsOf ps a)).length) m := by
  intro m
  induction m with
  | zero =>
   have : ps.filter (fun p => decide (p.1 < ((0 : Nat) : Int)) && decide (0 <= p.1)) = [] := by
    rw [List.filter_eq_nil_iff];intro p _
    simp
   rw [this]
   rfl
  | succ m ih => rw [sum_step, ih]; rfl
 have hf : ps.filter (fun (p : Int × Int) => decide (p.1 < ((n : Nat) : Int)) && decide (0 <= p.1)) = ps := by
  rw [List.filter_eq_self];intro p hp;have := h p hp
  simp
  omega
 rw [<- key n, hf]

theorem nmoves_snoc (ps : List (Int × Int)) (p : Int × Int) : nmoves (ps ++ [p]) = if segp p ∈ ps.map segp then nmoves ps else nmoves ps + 1 := by
 split
 ·rename_i h
  refine nmoves_of (nodup_dd _) fun q => ?_
  rw [mem_dd, List.mem_map];constructor
  ·rintro ⟨x, hx, rfl⟩
   exact ⟨x, by simp [hx], rfl⟩
  ·rintro ⟨x, hx, rfl⟩
   rcases List.mem_append.1 hx with hx | hx
   ·exact ⟨x, hx, rfl⟩
   ·obtain rfl : x = p := by simpa using hx
    obtain ⟨z, hz, e⟩ := List.mem_map.1 h;exact ⟨z, hz, e⟩
 ·rename_i h
  rw [nmoves_of (L := dd (ps.map segp) ++ [segp p])]
  ·simp [nmoves]
  ·refine List.nodup_append.2 ⟨nodup_dd _, by simp, ?_⟩
   rintro a ha b hb rfl
   rw [mem_dd] at ha;simp at hb;exact h (hb ▸ ha)
  ·intro q
   rw [List.mem_append, mem_dd, List.mem_map];constructor
   ·rintro (⟨x, hx, rfl⟩ | hq)
    ·exact ⟨x, by simp [hx], rfl⟩
    ·exact ⟨p, by simp, by simpa using hq⟩
   ·rintro ⟨x, hx, rfl⟩
    rcases List.mem_append.1 hx with hx | hx
    ·exact .inl ⟨x, hx, rfl⟩
    ·exact .inr (by simpa using congrArg segp (by simpa using hx))

end Go.User
namespace Go.User

def fsum (k : Nat) : Nat -> Nat -> Nat
 | 0, _ => 0
 | n + 1, x => x % 2 ^ k + fsum k n (x / 2 ^ k)
def fmask (k : Nat) : Nat -> Nat
 | 0 => 0
 | n + 1 => (2 ^ k - 1) + 2 ^ (2 * k) * fmask k n

theorem and_fmask (k n x : Nat) : x &&& fmask k (n + 1) = x % 2 ^ k + 2 ^ (2 * k) * ((x / 2 ^ (2 * k)) &&& fmask k n) := by
 have hp : 0 < 2 ^ k := Nat.two_pow_pos k
 have hB : 2 ^ (2 * k) = 2 ^ k * 2 ^ k := by rw [Nat.two_mul, Nat.pow_add]
 have hle : 2 ^ k <= 2 ^ (2 * k) := Nat.pow_le_pow_right (by omega) (by omega)
 have hm1 : fmask k (n + 1) % 2 ^ (2 * k) = 2 ^ k - 1 := by
  show ((2 ^ k - 1) + 2 ^ (2 * k) * fmask k n) % 2 ^ (2 * k) = _
  rw [Nat.add_mul_mod_self_left, Nat.mod_eq_of_lt (by omega)]
 have hm2 : fmask k (n + 1) / 2 ^ (2 * k) = fmask k n := by
  show ((2 ^ k - 1) + 2 ^ (2 * k) * fmask k n) / 2 ^ (2 * k) = _
  rw [Nat.add_mul_div_left _ _ (Nat.two_pow_pos _), Nat.div_eq_of_lt (by omega), Nat.zero_add]
 have h1 : (x &&& fmask k (n + 1)) % 2 ^ (2 * k) = x % 2 ^ k := by
  rw [Nat.and_mod_two_pow, hm1, Nat.and_two_pow_sub_one_eq_mod, Nat.mod_mod_of_dvd];exact ⟨2 ^ k, hB⟩
 have h2 : (x &&& fmask k (n + 1)) / 2 ^ (2 * k) = (x / 2 ^ (2 * k)) &&& fmask k n := by
  rw [Nat.and_div_two_pow, hm2]
 rw [<- h1, <- h2, Nat.mod_add_div]

theorem fsum_pair (k : Nat) (hk : 1 <= k) : ∀ (n x : Nat), fsum (2 * k) n (((x / 2 ^ k) &&& fmask k n) + (x &&& fmask k n)) = fsum k (2 * n) x
 | 0, x => rfl
 | n + 1, x => by
  have hp : 2 <= 2 ^ k := by
   have := Nat.pow_le_pow_right (n := 2) (by omega) hk
   simpa using this
  have hB : 2 ^ (2 * k) = 2 ^ k * 2 ^ k := by rw [Nat.two_mul, Nat.pow_add]
  have hlt : x / 2 ^ k % 2 ^ k + x % 2 ^ k < 2 ^ (2 * k) := by
   have h1 := Nat.mod_lt (x / 2 ^ k) (show 0 < 2 ^ k by omega)
   have h2 := Nat.mod_lt x (show 0 < 2 ^ k by omega)
   have h3 : 2 ^ k * 2 <= 2 ^ k * 2 ^ k := Nat.mul_le_mul_left _ hp
   omega
  rw [and_fmask, and_fmask];obtain ⟨u, hu⟩ : ∃ u, u = (x / 2 ^ k / 2 ^ (2 * k)) &&& fmask k n := ⟨_, rfl⟩;obtain ⟨v, hv⟩ : ∃ v, v = (x / 2 ^ (2 * k)) &&& fmask k n := ⟨_, rfl⟩;rw [<- hu, <- hv];have e : x / 2 ^ k % 2 ^ k + 2 ^ (2 * k) * u + (x % 2 ^ k + 2 ^ (2 * k) * v) = (x / 2 ^ k % 2 ^ k + x % 2 ^ k) + 2 ^ (2 * k) * (u + v) := by rw [Nat.mul_add]; omega
  rw [e];show (_ + 2 ^ (2 * k) * (u + v)) % 2 ^ (2 * k) + fsum (2 * k) n ((_ + 2 ^ (2 * k) * (u + v)) / 2 ^ (2 * k)) = x % 2 ^ k + fsum k (2 * n + 1) (x / 2 ^ k);rw [Nat.add_mul_mod_self_left, Nat.mod_eq_of_lt hlt, Nat.add_mul_div_left _ _ (Nat.two_pow_pos _), Nat.div_eq_of_lt hlt, Nat.zero_add];show _ = x % 2 ^ k + (x / 2 ^ k % 2 ^ k + fsum k (2 * n) (x / 2 ^ k / 2 ^ k));have e2 : x / 2 ^ k / 2 ^ k = x / 2 ^ (2 * k) := by rw [Nat.div_div_eq_div_mul, hB]
  have e3 : x / 2 ^ k / 2 ^ (2 * k) = x / 2 ^ (2 * k) / 2 ^ k := by rw [Nat.div_div_eq_div_mul, Nat.div_div_eq_div_mul, Nat.mul_comm]
  rw [e2, <- fsum_pair k hk n (x / 2 ^ (2 * k)), hu, hv, e3];omega

def onesN (n x : Nat) : List Nat := (List.range n).filter (fun i => x.testBit i)

theorem fsum_ones : ∀ (n x : Nat), fsum 1 n x = (onesN n x).length
 | 0, x => rfl
 | n + 1, x => by
  unfold onesN;rw [List.range_succ_eq_map, List.filter_cons, List.filter_map];show x % 2 ^ 1 + fsum 1 n (x / 2 ^ 1) = _;rw [fsum_ones n (x / 2 ^ 1)];have e : (fun i => x.testBit i) ∘ Nat.succ = fun i => (x / 2 ^ 1).testBit i := by
   funext i
   simp [Nat.testBit_succ]
  rw [e];unfold onesN;have h0 : x.testBit 0 = decide (x % 2 = 1) := Nat.testBit_zero x;rw [h0];by_cases h : x % 2 = 1
  ·simp [h]; omega
  ·simp [h]; omega
end Go.User
namespace Sp
def sameI (a b : List Int) : Bool := decide (a = b)
def incr (l : List Int) : Prop := Go.User.Strict l
def added (l : List Int) (n : Int) : List Int := Go.User.insS l n
def segs (l : List Int) : List Int := Go.User.segs l
def form0 (n : Int) : Form := (false, 0, n, 0, (0, 0, 0, ()), ())
end Sp
namespace Go.User
open Go.Lf
def S13 : FSpec := { args := [.val (.slice tI), .val (.slice tI)], multi := false, res := .bool, mode := .shr, pre := fun _ => True, fn := fun x => Sp.sameI x.1 x.2.1 }
def C13 : Ctx := mkC 26 []
def L13 (x : kdens S13.args) : List LoopI := [
 {ι := Nat, inv := fun i => i <= List.length x.1 /\ List.length x.1 = List.length x.2.1 /\ List.take i x.1 = List.take i x.2.1, dec := fun i => List.length x.1 - i, ovr := fun i => [(5, .shr tI (i : Int))], keep := [0, 1] }]
def S27 : FSpec := { args := [.val tI], multi := false, res := tI, mode := .shr, pre := fun _ => True, fn := fun x => x.1 / 16 }
def C27 : Ctx := mkC 12 []
def L27 (x : kdens S27.args) : List LoopI := []
def S26 : FSpec := { args := [.val (.slice tI), .val tI], multi := false, res := .slice tI, mode := .shr, pre := fun x => List.length x.1 <= 1000000 /\ Sp.incr x.1, fn := fun x => Sp.added x.1 x.2.1 }
def C26 : Ctx := { mkC 45 [] with frz := [44] }
def L26 (x : kdens S26.args) : List LoopI := [
 {ι := Nat, inv := fun i => i <= List.length x.1 /\ ∀ y ∈ List.take i x.1, y < x.2.1, dec := fun i => List.length x.1 - i, ovr := fun i => [(5, .shr tI (i : Int))], keep := [0, 1] }]
def S21 : FSpec := { args := [.val tI], multi := false, res := tForm, mode := .shr, pre := fun _ => True, fn := fun x => Sp.form0 x.1 }
def L21 (x : kdens S21.args) : List LoopI := []
end Go.User
namespace Sp
def lanes (n : Int) (set : Int) : List Int := ((List.range 64).filter (fun (i : Nat) => decide ((i : Int) < n) && Nat.testBit set.toNat i)).map Int.ofNat
def fItem (x : Raw) : Int := if x.2.2.2.2.2.2.2.1 then x.2.1 * 16777216 else x.2.1
def fSt (x : Raw) : Int := if 0 < x.2.2.2.2.2.2.1 % 8 then x.2.2.2.2.2.1 % 64 + 1 else 0
def fHi (x : Raw) : Int := if 0 < x.2.2.2.2.2.2.1 % 8 then x.2.2.2.2.1 + fSt x * (x.2.2.2.2.2.2.1 % 8) else x.2.2.2.2.1
def form (x : Raw) : Form := (x.1, fItem x, x.2.2.1, x.2.2.2.1, (x.2.2.2.2.1, fHi x, fSt x, ()), ())
def ev (k a i : Int) : Ev := (k, 0, 0, 0, 0, 0, a, i, 0, ())
def arr0 : Arr := ([], 0, 0, 0, ())
def counts (e : Ev) (l : List Arr) : Bool :=
 decide (1 <= e.1) && decide (e.1 <= 3) && decide (0 <= e.2.2.2.2.2.2.1) && decide (e.2.2.2.2.2.2.1 < (l.length : Int)) && decide ((l.getD e.2.2.2.2.2.2.1.toNat arr0).2.1 = 1)
end Sp
namespace Go.User
open Go.Lf
def S10 : FSpec := { args := [.val tRaw], multi := false, res := tForm, mode := .shr, pre := fun _ => True, fn := fun x => (x.1.1, Sp.fItem x.1, x.1.2.2.1, x.1.2.2.2.1, (x.1.2.2.2.2.1, Sp.fHi x.1, Sp.fSt x.1, ()), ()) }
def C10 : Ctx := mkC 58 []
def L10 (x : kdens S10.args) : List LoopI := []
def S18 : FSpec := { args := [.val tI, .val tI, .val tI], multi := false, res := tEv, mode := .shr, pre := fun _ => True, fn := fun x => Sp.ev x.1 x.2.1 x.2.2.1 }
def C18 : Ctx := mkC 11 []
def L18 (x : kdens S18.args) : List LoopI := []
def C21 : Ctx := mkC 5 []
def S30 : FSpec := { args := [.val tEv, .val (.slice tArr)], multi := false, res := .bool, mode := .shr, pre := fun _ => True, fn := fun x => Sp.counts x.1 x.2.1 }
def C30 : Ctx := mkC 34 []
def L30 (x : kdens S30.args) : List LoopI := []
def S15 : FSpec := { args := [.val (.slice tI)], multi := false, res := .slice tI, mode := .own .shr, pre := fun x => List.length x.1 <= 1000000, fn := fun x => Sp.segs x.1 }
def C15 : Ctx := { mkC 36 [(27, S27), (26, S26)] with frz := [7] }
def L15 (x : kdens S15.args) : List LoopI := [
 {ι := Nat, inv := fun i => i <= List.length x.1, dec := fun i => List.length x.1 - i, ovr := fun i => [(3, .shr (.slice tI) (Sp.segs (List.take i x.1))), (4, .shr tI (i : Int))], keep := [0] },
 {ι := Nat, inv := fun i => i <= List.length (Sp.segs x.1), dec := fun i => List.length (Sp.segs x.1) - i, ovr := fun i => [(5, .own (.slice tI) (.own .shr) (List.take i (Sp.segs x.1))), (6, .shr tI (i : Int))], keep := [0, 3] }]
def S19 : FSpec := { args := [.val tI, .val (.int .u64)], multi := false, res := .slice tI, mode := .own .shr, pre := fun _ => True, fn := fun x => Sp.lanes x.1 x.2.1 }
def C19 : Ctx := mkC 28 []
def L19 (x : kdens S19.args) : List LoopI := [
 {ι := Nat, inv := fun i => i <= 64, dec := fun i => 64 - i, ovr := fun i => [(5, .own (.slice tI) (.own .shr) (Sp.lanes (min x.1 (i : Int)) x.2.1)), (6, .shr tI (i : Int))], keep := [0, 1] }]
end Go.User
namespace Sp
def segsAt (s c : Int) (l : List Int) : List Int := segs (l.map fun i => c + s * i)
def maxSegs (s : Int) (l : List Int) : Nat -> Nat
 | 0 => 0
 | k + 1 => max (maxSegs s l k) (segsAt s k l).length
def absI (s : Int) : Int := if s < 0 then -s else s
def sOf (f : Form) : Int := f.2.1 + f.2.2.1
def loOf (f : Form) : Int := f.2.2.2.2.1.1
def hiOf (f : Form) : Int := f.2.2.2.2.1.2.1
def stOf (f : Form) : Int := f.2.2.2.2.1.2.2.1
def lastI (l : List Int) : Int := l.getD (l.length - 1) 0
def usable (f : Form) : Prop := (-2199023255552 <= f.2.1 /\ f.2.1 <= 2199023255552) /\ (-2199023255552 <= f.2.2.1 /\ f.2.2.1 <= 2199023255552) /\ (-2199023255552 <= loOf f /\ loOf f <= 2199023255552) /\
 (-2199023255552 <= hiOf f /\ hiOf f <= 2199023255552) /\ loOf f <= hiOf f /\ (stOf f = 0 ↔ loOf f = hiOf f) /\ 0 <= stOf f
def wide (f : Form) (l : List Int) : Int := absI (sOf f) * (lastI l - l.getD 0 0) + hiOf f - loOf f
def static (f : Form) (l : List Int) : Int :=
 if l.length = 0 ∨ f.1 = true then (l.length : Int)
 else if loOf f = hiOf f then (maxSegs (sOf f) l 16 : Int)
 else min (l.length : Int) ((wide f l - 1) / 16 + 2)
def pairs (e : List Ev) (l : List Arr) : List (Int × Int) := (e.filter fun x => counts x l).map fun x => (x.2.2.2.2.2.2.1, x.2.2.2.2.2.2.2.1)
def wordsAt (e : List Ev) (l : List Arr) (a : Int) : List Int := Go.User.wordsOf (pairs e l) a
def movesTo (e : List Ev) (l : List Arr) (n : Nat) : Nat := Go.User.sumTo (fun a => (segs (wordsAt e l a)).length) n
def moves (e : List Ev) (l : List Arr) : Int := (Go.User.nmoves (pairs e l) : Int)
def restAt (f : Form) (pick : List Int) (i : Nat) : Int :=
 if 0 < stOf f /\ 0 < pick.length then loOf f + stOf f * ((pick.getD (i % pick.length) 0).tmod ((hiOf f - loOf f).tdiv (stOf f) + 1)) else loOf f
def words (f : Form) (l : List Int) (c : Int) (pick : List Int) : List Int := (List.range l.length).map fun i => c + sOf f * l.getD i 0 + restAt f pick i
def lanesOk (l : List Int) : Prop := l.length <= 64 /\ ∀ x ∈ l, 0 <= x /\ x < 64
def ones (n : Int) : Int := ((Go.User.onesN 64 n.toNat).length : Int)
end Sp
namespace Go.User
open Go.Lf
def S12 : FSpec := { args := [.val tForm, .val tI, .val (.int .u64)], multi := false, res := tI, mode := .shr, pre := fun x => Sp.usable x.1, fn := fun x => Sp.static x.1 (Sp.lanes x.2.1 x.2.2.1) }
def C12 : Ctx := { mkC 96 [(19, S19), (26, S26), (27, S27)] with frz := [16, 42] }
def L12 (x : kdens S12.args) : List LoopI :=
 let l := Sp.lanes x.2.1 x.2.2.1
 let s := Sp.sOf x.1
 [{ ι := Nat, inv := fun c => c <= 16, dec := fun c => 16 - c, ovr := fun c => [(9, .shr tI (Sp.maxSegs s l c : Nat)), (10, .shr tI (c : Int))], keep := [3, 7, 8], sub := fun c => [
  {ι := Nat, inv := fun i => i <= List.length l, dec := fun i => List.length l - i, ovr := fun i => [(11, .shr (.slice tI) (Sp.segsAt s c (List.take i l))), (12, .shr tI (i : Int))], keep := [3, 7, 8, 9, 10] }] }]
def S17 : FSpec := { args := [.val (.slice tEv), .val (.slice tArr)], multi := false, res := tI, mode := .shr, pre := fun x => List.length x.1 <= 1000 /\ List.length x.2.1 <= 1000, fn := fun x => Sp.moves x.1 x.2.1 }
def C17 : Ctx := { mkC 50 [(30, S30), (26, S26), (27, S27)] with frz := [15] }
def L17 (x : kdens S17.args) : List LoopI := [
 {ι := Nat, inv := fun a => a <= List.length x.2.1, dec := fun a => List.length x.2.1 - a, ovr := fun a => [(5, .shr tI (Sp.movesTo x.1 x.2.1 a : Nat)), (6, .shr tI (a : Int))], keep := [0, 1], sub := fun a => [
  {ι := Nat, inv := fun i => i <= List.length x.1, dec := fun i => List.length x.1 - i, ovr := fun i => [(7, .shr (.slice tI) (Sp.segs (Sp.wordsAt (List.take i x.1) x.2.1 (a : Int)))), (8, .shr tI (i : Int))], keep := [0, 1, 5, 6] }] }]
def S20 : FSpec := { args := [.val tForm, .val (.slice tI), .val tI, .val (.slice (.int .u16))], multi := false, res := .slice tI, mode := .own .shr, pre := fun x => Sp.usable x.1 /\ Sp.lanesOk x.2.1 /\ -2199023255552 <= x.2.2.1 /\ x.2.2.1 <= 2199023255552, fn := fun x => Sp.words x.1 x.2.1 x.2.2.1 x.2.2.2.1 }
def C20 : Ctx := mkC 78 []
def L20 (x : kdens S20.args) : List LoopI := [
 {ι := Nat, inv := fun i => i <= List.length x.2.1, dec := fun i => List.length x.2.1 - i, ovr := fun i => [(9, .own (.slice tI) (.own .shr) (List.take i (Sp.words x.1 x.2.1 x.2.2.1 x.2.2.2.1))), (10, .shr tI (i : Int))], keep := [1, 2, 3, 4] }]
def S22 : FSpec := { args := [.val (.int .u64)], multi := false, res := tI, mode := .shr, pre := fun _ => True, fn := fun x => Sp.ones x.1 }
def C22 : Ctx := mkC 35 []
def L22 (x : kdens S22.args) : List LoopI := []
end Go.User
namespace Go.User
open Go.Lf
def S14 : FSpec := { args := [.val (.slice tI)], multi := false, res := .slice tI, mode := .own .shr, pre := fun x => List.length x.1 <= 1000000, fn := fun x => Sp.segs x.1 }
def S11 : FSpec := { args := [.val tForm, .val tI, .val (.int .u64)], multi := false, res := tI, mode := .shr, pre := fun x => Sp.usable x.1, fn := fun x => Sp.static x.1 (Sp.lanes x.2.1 x.2.2.1), glb := 1 }
def S16 : FSpec := { args := [.val (.slice tEv), .val (.slice tArr)], multi := false, res := tI, mode := .shr, pre := fun x => List.length x.1 <= 1000 /\ List.length x.2.1 <= 1000, fn := fun x => Sp.moves x.1 x.2.1 }
end Go.User
namespace Sp
def u64of (n : Int) : Int := Go.IntKind.wrap .u64 n
def and3 (n : Int) : Int := Go.IntKind.wrap .i64 ((BitVec.ofInt 64 n &&& BitVec.ofInt 64 3).toNat : Int)
def arrs (l : List Int) : List Arr := (l.take 12).map fun n => ([], and3 n, 0, 64, ())
end Sp
namespace Go.User
open Go.Lf
def S9 : FSpec := { args := [], multi := false, res := .bool, mode := .shr, pre := fun _ => True, fn := fun _ => true, glb := 1 }
def C9 : Ctx := { mkC 51 [(14, S14), (13, S13), (16, S16), (21, S21), (11, S11)] 1 with frz := [9, 12, 13, 14, 15] }
def L9 (x : kdens S9.args) : List LoopI := []
def S3 : FSpec := { args := [.val (.slice tI), .val (.slice tEv), .val tRaw], multi := false, res := .bool, mode := .shr, pre := fun _ => True, fn := fun _ => true, glb := 1 }
def C3 : Ctx := { mkC 127 [(9, S9), (10, S10), (11, S11), (12, S12), (13, S13), (14, S14), (15, S15), (16, S16), (17, S17)] 1 with frz := [111, 113] }
def L3 (x : kdens S3.args) : List LoopI := [
 {ι := Nat, inv := fun i => i <= 12 /\ i <= List.length x.1, dec := fun i => 12 - i, ovr := fun i => [(8, .own (.slice tArr) (.own .shr) (List.take i (Sp.arrs x.1))), (9, .shr tI (i : Int))], keep := [0, 1, 5, 7] },
 {ι := Nat, inv := fun i => i <= 8, dec := fun i => 8 - i, ovr := fun i => [(11, .shr tI (i : Int))], keep := [0, 1, 5, 7, 8, 10] }]
def S6 : FSpec := { args := [.val tRaw, .val (.arr 3 tI), .val (.slice (.int .u16))], multi := false, res := .bool, mode := .shr, pre := fun _ => True, fn := fun _ => true, glb := 1 }
def C6 : Ctx := { mkC 66 [(9, S9), (10, S10), (11, S11), (14, S14), (19, S19), (20, S20)] 1 with frz := [30, 41, 44] }
def L6 (x : kdens S6.args) : List LoopI := []
def S8 : FSpec := { args := [.val tRaw, .val (.int .u64), .val (.int .u64)], multi := false, res := .bool, mode := .shr, pre := fun _ => True, fn := fun _ => true, glb := 1 }
def C8 : Ctx := { mkC 95 [(9, S9), (10, S10), (11, S11)] 1 with frz := [] }
def L8 (x : kdens S8.args) : List LoopI := []
def S7 : FSpec := { args := [.val tI, .val (.int .u8), .val (.int .u64)], multi := false, res := .bool, mode := .shr, pre := fun _ => True, fn := fun _ => true, glb := 1 }
def C7 : Ctx := { mkC 101 [(9, S9), (21, S21), (11, S11), (14, S14), (19, S19), (20, S20)] 1 with frz := [25, 52, 53] }
def L7 (x : kdens S7.args) : List LoopI :=
 let s := x.1.tmod 1099511627776
 let l := Sp.lanes (1 + x.2.1 % 64) x.2.2.1
 [{ ι := Nat, inv := fun c => c <= 16, dec := fun c => 16 - c, ovr := fun c => [(11, .shr tI (Sp.maxSegs s l c : Nat)), (12, .shr tI (c : Int))], keep := [0, 2, 7, 8, 9, 10] }]
end Go.User
namespace Sp
def cutW (l : List Int) : List Int := (l.take 60).map fun n => n.tmod 1099511627776
def plus16 (l : List Int) : List Int := l.map fun n => n + 16
def turnW (a : List Int) (t : Int) (k : Nat) : List Int := (List.range k).map fun i => a.getD ((i + t.toNat) % a.length) 0
def hasW (s : Int) (l : List Int) : Bool := l.any fun x => decide (x ≥ 16 * s) && decide (x < 16 * s + 16)
def hasS (x : Int) (s : List Int) : Bool := s.any fun y => decide (x ≥ 16 * y) && decide (x < 16 * y + 16)
def accs (l : List (List Int)) : List Ev := (l.take 60).map fun b => (1 + b.getD 0 0 % 3, 0, 0, 0, 0, 0, b.getD 1 0 % 4, b.getD 2 0, 0, ())
def arrs4 : List Arr := [([], 1, 0, 256, ()), ([], 2, 0, 256, ()), ([], 1, 0, 256, ()), ([], 3, 0, 256, ())]
def wrd (e : List Ev) (j : Int) : List Int := (e.filter fun x => decide (x.2.2.2.2.2.2.1 = 2 * j)).map fun x => x.2.2.2.2.2.2.2.1
end Sp
namespace Go.User
open Go.Lf
def S4 : FSpec := { args := [.val (.slice tI), .val (.int .u8)], multi := false, res := .bool, mode := .shr, pre := fun _ => True, fn := fun _ => true, glb := 1 }
def C4 : Ctx := { mkC 195 [(9, S9), (13, S13), (14, S14)] 1 with frz := [71, 73, 82] }
def L4 (x : kdens S4.args) : List LoopI :=
 let a := Sp.cutW x.1
 let s := Sp.segs a
 [{ ι := Nat, inv := fun i => i <= 60 /\ i <= List.length x.1, dec := fun i => 60 - i, ovr := fun i => [(6, .own (.slice tI) (.own .shr) (List.take i a)), (8, .own (.slice tI) (.own .shr) (List.take i (Sp.plus16 a))), (9, .shr tI (i : Int))], keep := [0, 1, 5, 7] },
  {ι := Nat, inv := fun i => i <= 2 * List.length a, dec := fun i => 2 * List.length a - i, ovr := fun i => [(6, .own (.slice tI) (.own .shr) a), (7, .own (.slice tI) (.own .shr) (Sp.turnW a x.2.1 i)), (8, .own (.slice tI) (.own .shr) (Sp.plus16 a)), (11, .shr tI (i : Int))], keep := [1, 5] },
  {ι := Nat, inv := fun i => i <= List.length s, dec := fun i => List.length s - i, ovr := fun i => [(14, .shr tI (i : Int))], keep := [5, 6, 12, 13], sub := fun i => [
   {ι := Nat, inv := fun k => k <= List.length a, dec := fun k => List.length a - k, ovr := fun k => [(15, .shr .bool (Sp.hasW (List.getD s i 0) (List.take k a))), (16, .shr tI (k : Int))], keep := [5, 6, 12, 13, 14] }] },
  {ι := Nat, inv := fun k => k <= List.length a, dec := fun k => List.length a - k, ovr := fun k => [(17, .shr tI (k : Int))], keep := [5, 6, 12], sub := fun k => [
   {ι := Nat, inv := fun i => i <= List.length s, dec := fun i => List.length s - i, ovr := fun i => [(18, .shr .bool (Sp.hasS (List.getD a k 0) (List.take i s))), (19, .shr tI (i : Int))], keep := [5, 6, 12, 17] }] }]
def S5 : FSpec := { args := [.val (.slice (.arr 3 (.int .u8)))], multi := false, res := .bool, mode := .shr, pre := fun _ => True, fn := fun _ => true, glb := 1 }
def C5 : Ctx := { mkC 161 [(9, S9), (14, S14), (16, S16), (18, S18)] 1 with frz := [22], mds := [(26, .own (.own .shr))] }
def L5 (x : kdens S5.args) : List LoopI :=
 let e := Sp.accs x.1
 [{ ι := Nat, inv := fun i => i <= 60 /\ i <= List.length x.1, dec := fun i => 60 - i, ovr := fun i => [(5, .own (.slice tEv) (.own .shr) (List.take i e)), (6, .own (.slice (.slice tI)) (.own (.own .shr)) [Sp.wrd (List.take i e) 0, Sp.wrd (List.take i e) 1]), (7, .shr tI (Sp.moves (List.take i e) Sp.arrs4)), (8, .shr tI (i : Int))], keep := [0, 3, 4] }]
end Go.User
namespace Go.User
open Go.Proofs Go.Lf
set_option maxRecDepth 100000
theorem vc4 : (funI C4 (stpS C4) S4 L4 Tryd.f4) = (
let q0 : Prop := (True /\ True) /\ True;
let q1 : Prop := True /\ True /\ True;
let q2 : Prop := q1 /\ True;
let q3 : Prop := q0 /\ false = true;
let q4 : Prop := True /\ q1;
let q5 : Nat := (60 : Nat);
let q6 : Int := (0 : Int);
let q7 : Prop := true = true;
let q8 : Prop := q7 /\ ([] : List tI.den) = ([] : List tI.den) /\ True;
let q9 : Int := (1099511627776 : Int);
let q10 : Int := (16 : Int);
let q11 : Int := (1 : Int);
let q12 : Nat := (2 : Nat);
let q13 : Prop := q7 /\ True;
let q14 : Nat := (1000000 : Nat);
let q15 : Prop := (True /\ q4) /\ True;
∀ (x : List Int × Int × Unit),
 let q16 : Nat := x.1.length;
 let q17 : List Int := Sp.plus16 (Sp.cutW x.1);
 let q18 : Prop := x.2.1 = x.2.1;
 let q19 : Prop := x.1 = x.1 /\ q18 /\ q8;
 let q20 : Nat := (Sp.cutW x.1).length;
 let q21 : Nat := q12 * q20;
 let q22 : Prop := q18 /\ q13;
 let q23 : Nat := (Sp.cutW x.1).length;
 let q24 : Int := (↑q23 : Int);
 let q25 : Int := (2 : Int) * q24;
 let q26 : Prop := Sp.cutW x.1 = Sp.cutW x.1;
 let q27 : List Int := Sp.segs (Sp.cutW x.1);
 let q28 : Nat := q27.length;
 let q29 : Int := (↑q28 : Int);
 let q30 : List Int := Sp.segs q17;
 let q31 : Nat := q30.length;
 let q32 : Bool := q29 != (↑q31 : Int);
 let q33 : Prop := (true && bif q32 then false else true) = true;
 let q34 : Prop := q33 -> True;
 let q35 : Nat := q27.length;
 let q36 : Prop := q27 = q27;
 let q37 : Prop := q30 = q30;
 let q38 : Prop := q7 /\ q26 /\ q36 /\ q37 /\ True;
 let q39 : Prop := q7 /\ q26 /\ q36 /\ True;
 True ->
 dFact (Ty.int IntKind.i64).slice x.1 /\ dFact (Ty.int IntKind.u8) x.2.1 /\ True ->
 q0 /\
 q2 /\
 q2 /\
 ((!true) = true -> q3) /\
 ((!true) = false ->
 (q4 /\ q4) /\
 q0 /\
 (∃ (x_1 : Nat), (x_1 <= q5 /\ x_1 <= q16) /\ ([] : List tI.den) = List.take x_1 (Sp.cutW x.1) /\ ([] : List tI.den) = List.take x_1 q17 /\ q6 = (↑x_1 : Int) /\ q19) /\
 ∀ (x_1 : Nat),
 let q40 : List Int := List.take x_1 (Sp.cutW x.1);
 let q41 : List Int := List.take x_1 q17;
 let q42 : Bool := decide ((↑x_1 : Int) < (↑q16 : Int));
 let q43 : Prop := (true && bif q42 then true else false) = true -> True;
 let q44 : Bool := bif q42 then decide ((↑x_1 : Int) < (60 : Int)) else false;
 let q45 : Int := Int.tmod (x.1.getD (↑x_1 : Int).toNat q6) q9;
 let q46 : List Int := q45 :: ([] : List tI.den);
 let q47 : Int := q45 + q10;
 let q48 : List Int := q47 :: ([] : List tI.den);
 let q49 : Int := (↑x_1 : Int) + q11;
 x_1 <= q5 /\ x_1 <= q16 ->
 dFact (Ty.int IntKind.i64).slice q40 /\ dFact (Ty.int IntKind.i64).slice q41 /\ dFact (Ty.int IntKind.i64) (↑x_1 : Int) /\ True ->
 ((True /\ True /\ True /\ True /\ True /\ q43 /\ q43 /\ True /\ True) /\ True) /\
 (q44 = true -> ((True /\ True /\ inN (↑x_1 : Int) q16 /\ True /\ q9 ≠ q6 /\ True /\ True) /\ True) /\ (q4 /\ (↑(q40.length + q46.length) : Int) <= maxNew /\ True /\ True) /\ ((True /\ True /\ inK IntKind.i64 q47 /\ True /\ True) /\ (↑(q41.length + q48.length) : Int) <= maxNew /\ True /\ True) /\ ((True /\ inK IntKind.i64 q49 /\ True /\ True) /\ True) /\ ∃ (y : Nat), (y <= q5 /\ y <= q16) /\ q5 - y < q5 - x_1 /\ q40 ++ q46 = List.take y (Sp.cutW x.1) /\ q41 ++ q48 = List.take y q17 /\ q49 = (↑y : Int) /\ q19) /\
 (q44 = false ->
 q0 /\
 (∃ (x_2 : Nat), x_2 <= q21 /\ q40 = Sp.cutW x.1 /\ ([] : List tI.den) = Sp.turnW (Sp.cutW x.1) x.2.1 x_2 /\ q41 = q17 /\ q6 = (↑x_2 : Int) /\ q22) /\
 ∀ (x_2 : Nat),
 let q50 : List Int := Sp.turnW (Sp.cutW x.1) x.2.1 x_2;
 let q51 : Bool := decide ((↑x_2 : Int) < q25);
 let q52 : Int := (↑x_2 : Int) + x.2.1;
 let q53 : Int := q52.tmod q24;
 let q54 : Nat := q50.length;
 let q55 : List Int := (Sp.cutW x.1).getD q53.toNat q6 :: ([] : List tI.den);
 let q56 : Int := (↑x_2 : Int) + q11;
 let q57 : Bool := bif q32 then true else !Sp.sameI q27 (Sp.segs q50);
 x_2 <= q21 ->
 dFact (Ty.int IntKind.i64).slice (Sp.cutW x.1) /\ dFact (Ty.int IntKind.i64).slice q50 /\ dFact (Ty.int IntKind.i64).slice q17 /\ dFact (Ty.int IntKind.i64) (↑x_2 : Int) /\ True ->
 ((True /\ True /\ True /\ inK IntKind.i64 q25 /\ True /\ True) /\ True) /\
 (q51 = true -> ((True /\ True /\ True /\ True /\ True /\ inK IntKind.i64 q52 /\ True /\ True /\ q24 ≠ q6 /\ inN q53 q23 /\ q1) /\ (↑(q54 + q55.length) : Int) <= maxNew /\ True /\ True) /\ ((True /\ inK IntKind.i64 q56 /\ True /\ True) /\ True) /\ ∃ (y : Nat), y <= q21 /\ q21 - y < q21 - x_2 /\ q26 /\ q50 ++ q55 = Sp.turnW (Sp.cutW x.1) x.2.1 y /\ q17 = q17 /\ q56 = (↑y : Int) /\ q22) /\
 (q51 = false ->
 ((True /\ q23 <= q14 /\ True /\ q17.length <= q14 /\ q1) /\ True) /\
 ((True /\ True /\ True /\ True /\ True /\ True /\ q34 /\ q34 /\ (q33 -> q54 <= q14) /\ q34 /\ q34 /\ True /\ True) /\ True) /\
 (q57 = true -> q3) /\
 (q57 = false ->
 q0 /\
 (∃ (x : Nat), x <= q35 /\ q6 = (↑x : Int) /\ q38) /\
 ∀ (x_3 : Nat),
 let q58 : Bool := decide ((↑x_3 : Int) < q29);
 let q59 : Int := q27.getD x_3 q6;
 let q60 : Prop := q7 /\ q26 /\ q36 /\ q37 /\ (↑x_3 : Int) = (↑x_3 : Int) /\ True;
 let q61 : Prop := inN (↑x_3 : Int) q28;
 let q62 : Nat := (↑x_3 : Int).toNat;
 let q63 : Int := q27.getD q62 q6;
 let q64 : Int := q10 * q63;
 let q65 : Prop := inK IntKind.i64 q64;
 let q66 : Int := q64 + q10;
 let q67 : Int := q63 + q11;
 let q68 : Bool := decide ((↑x_3 : Int) > q6);
 let q69 : Int := (↑x_3 : Int) - q11;
 let q70 : Int := (↑x_3 : Int) + q11;
 x_3 <= q35 ->
 dFact (Ty.int IntKind.i64) (↑x_3 : Int) /\ True ->
 q15 /\
 (q58 = true ->
 q0 /\
 q0 /\
 (∃ (x_4 : Nat), x_4 <= q20 /\ false = Sp.hasW q59 (List.take x_4 (Sp.cutW x.1)) /\ q6 = (↑x_4 : Int) /\ q60) /\
 ∀ (x_4 : Nat),
 let q71 : Bool := Sp.hasW q59 (List.take x_4 (Sp.cutW x.1));
 let q72 : Bool := decide ((↑x_4 : Int) < q24);
 let q73 : Bool := true && bif q71 then false else true;
 let q74 : Prop := q73 = true;
 let q75 : Prop := q74 -> True;
 let q76 : Prop := inN (↑x_4 : Int) q23;
 let q77 : Int := (Sp.cutW x.1).getD (↑x_4 : Int).toNat q6;
 let q78 : Bool := decide (q77 ≥ q64);
 let q79 : Prop := (q73 && bif q78 then true else false) = true;
 let q80 : Prop := q79 -> True;
 let q81 : Int := (↑x_4 : Int) + q11;
 let q82 : Bool := !q71;
 let q83 : Prop := (true && bif q82 then false else true) = true;
 let q84 : Prop := q83 -> True;
 let q85 : Bool := bif q82 then true else q30.getD q62 q6 != q67;
 let q86 : Bool := true && bif q85 then false else true;
 let q87 : Prop := q86 = true -> True;
 let q88 : Prop := (q86 && bif q68 then true else false) = true;
 let q89 : Prop := q88 -> True;
 let q90 : Bool := bif q85 then true else bif q68 then decide (q27.getD q69.toNat q6 ≥ q63) else false;
 x_4 <= q20 -> dFact Ty.bool q71 /\ dFact (Ty.int IntKind.i64) (↑x_4 : Int) /\ True -> q15 /\ (q72 = true -> ((True /\ True /\ q75 /\ q75 /\ (q74 -> q76) /\ q75 /\ q75 /\ q75 /\ (q74 -> q61) /\ q75 /\ (q74 -> q65) /\ q75 /\ q75 /\ q80 /\ q80 /\ (q79 -> q76) /\ q80 /\ q80 /\ q80 /\ (q79 -> q61) /\ q80 /\ (q79 -> q65) /\ (q79 -> inK IntKind.i64 q66) /\ q80 /\ q75 /\ q1) /\ True) /\ ((True /\ inK IntKind.i64 q81 /\ True /\ True) /\ True) /\ ∃ (y : Nat), y <= q20 /\ q20 - y < q20 - x_4 /\ (bif q71 then true else bif q78 then decide (q77 < q66) else false) = Sp.hasW q59 (List.take y (Sp.cutW x.1)) /\ q81 = (↑y : Int) /\ q60) /\ (q72 = false -> ((True /\ True /\ True /\ q84 /\ q84 /\ (q83 -> inN (↑x_3 : Int) q31) /\ q84 /\ q84 /\ q84 /\ (q83 -> q61) /\ q84 /\ (q83 -> inK IntKind.i64 q67) /\ q84 /\ True /\ True /\ q87 /\ q87 /\ q87 /\ q89 /\ q89 /\ (q88 -> inK IntKind.i64 q69) /\ (q88 -> inN q69 q28) /\ q89 /\ q89 /\ q89 /\ (q88 -> q61) /\ q89 /\ q89 /\ q87 /\ True /\ True) /\ True) /\ (q90 = true -> q3) /\ (q90 = false -> ((True /\ inK IntKind.i64 q70 /\ True /\ True) /\ True) /\ ∃ (y : Nat), y <= q35 /\ q35 - y < q35 - x_3 /\ q70 = (↑y : Int) /\ q38))) /\
 (q58 = false ->
 q0 /\
 (∃ (x : Nat), x <= q20 /\ q6 = (↑x : Int) /\ q39) /\
 ∀ (x_4 : Nat),
 let q91 : Bool := decide ((↑x_4 : Int) < q24);
 let q92 : Int := (Sp.cutW x.1).getD x_4 q6;
 let q93 : Prop := q7 /\ q26 /\ q36 /\ (↑x_4 : Int) = (↑x_4 : Int) /\ True;
 let q94 : Prop := inN (↑x_4 : Int) q23;
 let q95 : Int := (Sp.cutW x.1).getD (↑x_4 : Int).toNat q6;
 let q96 : Int := (↑x_4 : Int) + q11;
 x_4 <= q20 ->
 dFact (Ty.int IntKind.i64) (↑x_4 : Int) /\ True ->
 q15 /\
 (q91 = true ->
 q0 /\
 q0 /\
 (∃ (x : Nat), x <= q35 /\ false = Sp.hasS q92 (List.take x q27) /\ q6 = (↑x : Int) /\ q93) /\
 ∀ (x : Nat),
 let q97 : Bool := Sp.hasS q92 (List.take x q27);
 let q98 : Bool := decide ((↑x : Int) < q29);
 let q99 : Bool := true && bif q97 then false else true;
 let q100 : Prop := q99 = true;
 let q101 : Prop := q100 -> True;
 let q102 : Prop := inN (↑x : Int) q28;
 let q103 : Int := q10 * q27.getD (↑x : Int).toNat q6;
 let q104 : Prop := inK IntKind.i64 q103;
 let q105 : Bool := decide (q95 ≥ q103);
 let q106 : Prop := (q99 && bif q105 then true else false) = true;
 let q107 : Prop := q106 -> True;
 let q108 : Int := q103 + q10;
 let q109 : Int := (↑x : Int) + q11;
 let q110 : Bool := !q97;
 x <= q35 -> dFact Ty.bool q97 /\ dFact (Ty.int IntKind.i64) (↑x : Int) /\ True -> q15 /\ (q98 = true -> ((True /\ True /\ q101 /\ q101 /\ (q100 -> q94) /\ q101 /\ q101 /\ q101 /\ (q100 -> q102) /\ q101 /\ (q100 -> q104) /\ q101 /\ q101 /\ q107 /\ q107 /\ (q106 -> q94) /\ q107 /\ q107 /\ q107 /\ (q106 -> q102) /\ q107 /\ (q106 -> q104) /\ (q106 -> inK IntKind.i64 q108) /\ q107 /\ q101 /\ q1) /\ True) /\ ((True /\ inK IntKind.i64 q109 /\ True /\ True) /\ True) /\ ∃ (y : Nat), y <= q35 /\ q35 - y < q35 - x /\ (bif q97 then true else bif q105 then decide (q95 < q108) else false) = Sp.hasS q92 (List.take y q27) /\ q109 = (↑y : Int) /\ q93) /\ (q98 = false -> q2 /\ (q110 = true -> q3) /\ (q110 = false -> ((True /\ inK IntKind.i64 q96 /\ True /\ True) /\ True) /\ ∃ (y : Nat), y <= q20 /\ q20 - y < q20 - x_4 /\ q96 = (↑y : Int) /\ q39))) /\
 (q91 = false -> q2 /\ true = true))))))) := by kernel_rfl
theorem vc5 : (funI C5 (stpS C5) S5 L5 Tryd.f5) = (
let q0 : Nat := (3 : Nat);
let q1 : Prop := (True /\ True) /\ True;
let q2 : Prop := True /\ True /\ True;
let q3 : Prop := q2 /\ True;
let q4 : Prop := q1 /\ false = true;
let q5 : Prop := True /\ q2;
let q6 : Prop := True /\ q5;
let q7 : Prop := True /\ q6;
let q8 : Prop := True /\ q7;
let q9 : Nat := (60 : Nat);
let q10 : List (List Int) := ([] : List tI.slice.den);
let q11 : Int := (0 : Int);
let q12 : Int := (1 : Int);
let q13 : Int × Int × Unit := (q11, (256 : Int), ());
let q14 : List UInt8 × Int × Int × Int × Unit := (([] : List UInt8), q12, q13);
let q15 : Int := (2 : Int);
let q16 : Int := (3 : Int);
let q17 : List (List UInt8 × Int × Int × Int × Unit) := q14 :: (([] : List UInt8), q15, q13) :: q14 :: (([] : List UInt8), q16, q13) :: ([] : List tArr.den);
let q18 : Prop := true = true /\ q17 = q17 /\ True;
let q19 : List Int := List.replicate q0 q11;
let q20 : Nat := q11.toNat;
let q21 : Int := (4 : Int);
let q22 : Nat := q12.toNat;
let q23 : Nat := q15.toNat;
let q24 : Prop := q15 ≠ q11;
let q25 : Nat := (1000 : Nat);
let q26 : Prop := q17.length <= q25;
let q27 : Nat := (1000000 : Nat);
let q28 : List (Int × Int × Int × Int × Int × Int × Int × Int × Int × Unit) := (q21, q11, q11, q11, q11, q11, q11, q11, q11, ()) :: Sp.ev q12 q21 q16 :: Sp.ev q12 (-q12) q16 :: Sp.ev (9 : Int) q11 (999 : Int) :: ([] : List tEv.den);
∀ (x : List (List Int) × Unit),
 let q29 : Nat := x.1.length;
 let q30 : Prop := x.1 = x.1 /\ q18;
 True ->
 dFact (Ty.arr q0 (Ty.int IntKind.u8)).slice x.1 /\ True ->
 q1 /\
 q3 /\
 q3 /\
 ((!true) = true -> q4) /\
 ((!true) = false ->
 (q8 /\ True) /\
 (q6 /\ q2) /\
 q1 /\
 q1 /\
 (∃ (x_1 : Nat),
 let q31 : List (Int × Int × Int × Int × Int × Int × Int × Int × Int × Unit) := List.take x_1 (Sp.accs x.1);
 (x_1 <= q9 /\ x_1 <= q29) /\ ([] : List tEv.den) = List.take x_1 (Sp.accs x.1) /\ ([] : List tI.den) :: ([] : List tI.den) :: q10 = Sp.wrd q31 q11 :: Sp.wrd q31 q12 :: q10 /\ q11 = Sp.moves q31 Sp.arrs4 /\ q11 = (↑x_1 : Int) /\ q30) /\
 ∀ (x_1 : Nat),
 let q32 : List (Int × Int × Int × Int × Int × Int × Int × Int × Int × Unit) := List.take x_1 (Sp.accs x.1);
 let q33 : List (Int × Int × Int × Int × Int × Int × Int × Int × Int × Unit) := List.take x_1 (Sp.accs x.1);
 let q34 : List (List Int) := Sp.wrd q33 q11 :: Sp.wrd q33 q12 :: q10;
 let q35 : Int := Sp.moves q33 Sp.arrs4;
 let q36 : Bool := decide ((↑x_1 : Int) < (↑q29 : Int));
 let q37 : Prop := (true && bif q36 then true else false) = true -> True;
 let q38 : Bool := bif q36 then decide ((↑x_1 : Int) < (60 : Int)) else false;
 let q39 : Prop := inN (↑x_1 : Int) q29;
 let q40 : List Int := x.1.getD (↑x_1 : Int).toNat q19;
 let q41 : Int := q12 + q40.getD q20 q11 % q16;
 let q42 : Nat := q32.length;
 let q43 : Int := q40.getD q22 q11 % q21;
 let q44 : Int := q40.getD q23 q11;
 let q45 : List (Int × Int × Int × Int × Int × Int × Int × Int × Int × Unit) := Sp.ev q41 q43 q44 :: ([] : List tEv.den);
 let q46 : Int := q43.tmod q15;
 let q47 : Bool := q46 == q11;
 let q48 : Int := q43.tdiv q15;
 let q49 : Prop := q24 /\ inK IntKind.i64 q48;
 let q50 : Nat := q34.length;
 let q51 : Prop := inN q48 q50;
 let q52 : Nat := q48.toNat;
 let q53 : List Int := q34.getD q52 (([] : List tI.den));
 let q54 : List Int := q44 :: ([] : List tI.den);
 let q55 : List Step := List.append._f (([] : List Step)) PUnit.unit (Step.idx q52 :: ([] : List Step));
 let q56 : List (Int × Int × Int × Int × Int × Int × Int × Int × Int × Unit) := q32 ++ q45;
 let q57 : Prop := (True /\ True /\ (q56.length <= q25 /\ q26) /\ True /\ True) /\ True;
 let q58 : Int := Sp.moves q56 q17;
 let q59 : Bool := decide (q58 < q35);
 let q60 : Prop := (true && bif q59 then false else true) = true;
 let q61 : Prop := q60 -> True;
 let q62 : Int := q35 + q12;
 let q63 : Bool := bif q59 then true else decide (q58 > q62);
 let q64 : Bool := true && bif q63 then false else true;
 let q65 : Prop := q64 = true -> True;
 let q66 : Bool := decide (q58 > q35);
 let q67 : Prop := (q64 && bif q66 then true else false) = true;
 let q68 : Prop := q67 -> True;
 let q69 : Prop := (True /\ True /\ True /\ True /\ q61 /\ q61 /\ (q60 -> inK IntKind.i64 q62) /\ q61 /\ True /\ True /\ q65 /\ q65 /\ q65 /\ q65 /\ q68 /\ q68 /\ (q67 -> q24) /\ q68 /\ q65 /\ True /\ True) /\ True;
 let q70 : Bool := bif q63 then true else bif q66 then q46 == q12 else false;
 let q71 : Prop := q70 = true -> q4;
 let q72 : Prop := q70 = false;
 let q73 : Int := (↑x_1 : Int) + q12;
 let q74 : Prop := (True /\ inK IntKind.i64 q73 /\ True /\ True) /\ True;
 let q75 : Prop := inN q11 q50;
 let q76 : Prop := inN q12 q50;
 let q77 : List Int := q34.getD q20 (([] : List tI.den));
 let q78 : Nat := q77.length;
 let q79 : List Int := q34.getD q22 (([] : List tI.den));
 let q80 : Nat := q79.length;
 let q81 : Int := (↑q78 : Int) + (↑q80 : Int);
 let q82 : Bool := decide (q35 <= q81);
 let q83 : Prop := (true && bif q82 then true else false) = true -> True;
 let q84 : Bool := bif q82 then (q81 == q11) == (q35 == q11) else false;
 let q85 : Prop := (true && bif q84 then true else false) = true;
 let q86 : Prop := q85 -> True;
 let q87 : Int := (↑(Sp.segs q77).length : Int) + (↑(Sp.segs q79).length : Int);
 let q88 : Bool := bif q84 then q35 == q87 else false;
 let q89 : Prop := (true && bif q88 then true else false) = true;
 let q90 : Prop := q89 -> True;
 let q91 : List (Int × Int × Int × Int × Int × Int × Int × Int × Int × Unit) := q32 ++ q28;
 let q92 : Bool := bif q88 then Sp.moves q91 q17 == q35 else false;
 x_1 <= q9 /\ x_1 <= q29 ->
 dFact ((Ty.int IntKind.i64).prod ((Ty.int IntKind.i64).prod ((Ty.int IntKind.i64).prod ((Ty.int IntKind.i64).prod ((Ty.int IntKind.i64).prod ((Ty.int IntKind.i64).prod ((Ty.int IntKind.i64).prod ((Ty.int IntKind.i64).prod ((Ty.int IntKind.i32).prod Ty.unit))))))))).slice q32 /\ dFact (Ty.int IntKind.i64).slice.slice q34 /\ dFact (Ty.int IntKind.i64) q35 /\ dFact (Ty.int IntKind.i64) (↑x_1 : Int) /\ True ->
 ((True /\ True /\ True /\ True /\ True /\ q37 /\ q37 /\ True /\ True) /\ True) /\
 (q38 = true ->
 ((True /\ True /\ q39 /\ inN q11 q0 /\ True /\ q16 ≠ q11 /\ True /\ inK IntKind.i64 q41 /\ True /\ True /\ q39 /\ inN q12 q0 /\ True /\ q21 ≠ q11 /\ True /\ True /\ True /\ q39 /\ inN q15 q0 /\ q6) /\ True /\ True) /\
 (q5 /\ (↑(q42 + q45.length) : Int) <= maxNew /\ True /\ True) /\
 ((True /\ True /\ q24 /\ True /\ True) /\ True) /\
 (q47 = true ->
 (((True /\ True /\ True /\ q49 /\ True /\ True /\ True /\ q49 /\ q51 /\ True /\ True /\ True /\ True /\ (↑(q53.length + q54.length) : Int) <= maxNew /\ q51 /\ True) /\ True /\ True /\ True /\ True /\ True /\ True /\ True /\ True /\ True /\ True /\ True /\ True /\ True /\ ((True /\ True /\ True /\ True /\ True /\ True /\ True /\ True /\ True /\ (Step.idx q52 = Step.idx q52 /\ True) /\ q7) /\ True /\ True /\ True /\ True /\ True /\ True /\ True /\ True /\ True /\ True /\ True /\ True /\ True /\ True /\ True /\ True /\ True /\ True /\ True /\ True /\ True /\ True /\ True /\ True /\ True /\ True /\ True /\ True /\ True /\ True /\ True /\ True /\ True /\ True /\ True /\ True /\ True /\ True /\ True /\ True /\ True /\ True /\ True /\ True /\ True /\ True /\ True /\ True /\ True /\ True /\ True /\ True /\ True /\ True /\ True /\ True /\ True /\ True /\ True /\ True /\ True /\ True /\ True /\ True /\ True /\ True /\ True /\ True /\ True /\ True /\ True /\ True /\ True /\ True /\ True /\ True /\ True /\ True /\ True /\ True /\ True /\ True /\ True /\ True /\ True /\ True /\ True /\ True /\ True /\ True /\ True /\ True /\ True /\ True /\ True /\ True /\ True /\ True /\ True /\ True /\ True /\ True /\ True /\ True /\ True /\ True /\ True /\ True /\ True /\ True /\ True /\ True /\ True /\ True /\ True /\ True /\ True /\ True /\ True /\ True /\ True /\ True /\ True /\ True /\ True /\ True /\ True /\ True /\ True /\ True /\ True /\ True /\ True /\ True /\ True /\ True /\ True /\ True /\ True /\ True /\ True /\ True /\ True /\ True /\ True /\ True /\ True /\ True /\ True /\ True /\ True /\ True /\ True /\ True /\ True /\ q8) /\ True /\ True) /\ q55 = q55 /\ True) /\
 q57 /\
 q69 /\
 q71 /\
 (q72 ->
 q3 /\
 q74 /\
 ∃ (y : Nat),
 let q93 : List (Int × Int × Int × Int × Int × Int × Int × Int × Int × Unit) := List.take y (Sp.accs x.1);
 (y <= q9 /\ y <= q29) /\ q9 - y < q9 - x_1 /\ q56 = List.take y (Sp.accs x.1) /\ q34.set q52 (q53 ++ q54) = Sp.wrd q93 q11 :: Sp.wrd q93 q12 :: q10 /\ q58 = Sp.moves q93 Sp.arrs4 /\ q73 = (↑y : Int) /\ q30)) /\
 (q47 = false ->
 q57 /\
 q69 /\
 q71 /\
 (q72 ->
 q3 /\
 q74 /\
 ∃ (y : Nat),
 let q94 : List (Int × Int × Int × Int × Int × Int × Int × Int × Int × Unit) := List.take y (Sp.accs x.1);
 (y <= q9 /\ y <= q29) /\ q9 - y < q9 - x_1 /\ q56 = List.take y (Sp.accs x.1) /\ q34 = Sp.wrd q94 q11 :: Sp.wrd q94 q12 :: q10 /\ q58 = Sp.moves q94 Sp.arrs4 /\ q73 = (↑y : Int) /\ q30))) /\
 (q38 = false -> ((True /\ q75 /\ True /\ True /\ True /\ q76 /\ True /\ True /\ inK IntKind.i64 q81 /\ True /\ True) /\ True) /\ ((True /\ q75 /\ True /\ q78 <= q27 /\ True /\ True /\ q76 /\ True /\ q80 <= q27 /\ q5) /\ True) /\ ((True /\ True /\ (↑((0 : Nat) + q42) : Int) <= maxNew /\ True /\ True /\ True /\ True /\ True /\ (↑(q42 + q28.length) : Int) <= maxNew /\ True) /\ True /\ True) /\ ((True /\ True /\ True /\ True /\ q83 /\ q83 /\ q83 /\ q83 /\ q83 /\ True /\ True /\ q86 /\ q86 /\ q86 /\ (q85 -> inK IntKind.i64 q87) /\ q86 /\ True /\ True /\ q90 /\ q90 /\ (q89 -> q91.length <= q25 /\ q26) /\ q90 /\ q90 /\ True /\ True /\ ((true && bif q92 then true else false) = true -> True) /\ q2) /\ True) /\ (bif q92 then true else false) = true))) := by kernel_rfl
end Go.User
namespace Go.User
open Go.Proofs Go.Lf
set_option maxRecDepth 100000
theorem vc9 : (funI C9 (stpS C9) S9 L9 Tryd.f9) = (
let q0 : Prop := (True /\ True) /\ True;
let q1 : Prop := True /\ True /\ True;
let q2 : Prop := True /\ True /\ q1;
let q3 : Int := (0 : Int);
let q4 : Int := (15 : Int);
let q5 : Int := (16 : Int);
let q6 : Int := (1 : Int);
let q7 : Int := -q6;
let q8 : List Int := q3 :: q4 :: q5 :: q7 :: (40 : Int) :: ([] : List tI.den);
let q9 : Prop := (true && true) = true;
let q10 : Prop := q9 -> True;
let q11 : Int := (3 : Int);
let q12 : Int × Unit := (q3, ());
let q13 : Int × Int × Unit := (q11, q12);
let q14 : Int := (2 : Int);
let q15 : Int := (4 : Int);
let q16 : List (Int × Int × Int × Int × Int × Int × Int × Int × Int × Unit) := (q6, q3, q3, q3, q3, q3, q3, q13) :: (q14, q3, q3, q3, q3, q3, q3, q4, q12) :: (q6, q3, q3, q3, q3, q3, q6, q13) :: (q11, q3, q3, q3, q3, q3, q3, q5, q12) :: (q15, q3, q3, q3, q3, q3, q3, q3, q12) :: ([] : List tEv.den);
let q17 : Nat := (1000 : Nat);
let q18 : Int := (32 : Int);
let q19 : List (List UInt8 × Int × Int × Int × Unit) := (([] : List UInt8), q6, q3, q18, ()) :: (([] : List UInt8), q14, q3, q15, ()) :: ([] : List tArr.den);
let q20 : Bool := bif !Sp.sameI (Sp.segs q8) (q7 :: q3 :: q6 :: q14 :: ([] : List tI.den)) then true else Sp.moves q16 q19 != q14;
let q21 : Bool × Int × Int × Int × (Int × Int × Int × Unit) × Unit := Sp.form0 q6;
let q22 : Prop := Sp.usable q21;
let q23 : Bool × Int × Int × Int × (Int × Int × Int × Unit) × Unit := Sp.form0 q14;
let q24 : Bool × Int × Int × Int × (Int × Int × Int × Unit) × Unit := Sp.form0 q3;
let q25 : Bool × Int × Int × Int × (Int × Int × Int × Unit) × Unit := Sp.form0 q5;
let q26 : List Int := Sp.lanes q18 (18446744073709551615 : Int);
∀ (x : Unit), True -> True -> q0 /\ q0 /\ ((True /\ True /\ True /\ q2) /\ True) /\ (q2 /\ True) /\ ((True /\ q8.length <= (1000000 : Nat) /\ True /\ True /\ True /\ True /\ q10 /\ q10 /\ (q9 -> q16.length <= q17 /\ q19.length <= q17) /\ q10 /\ True /\ True) /\ True) /\ (q20 = true -> q0 /\ false = true) /\ (q20 = false -> ((True /\ True /\ q22 /\ True /\ True /\ q10 /\ q10 /\ (q9 -> Sp.usable q23) /\ q10 /\ True /\ True /\ q10 /\ q10 /\ (q9 -> Sp.usable q24) /\ q10 /\ True /\ True /\ q10 /\ q10 /\ (q9 -> Sp.usable q25) /\ q10 /\ True /\ True /\ q10 /\ (q9 -> q22) /\ q10 /\ q1) /\ True) /\ (bif bif bif bif Sp.static q21 q26 == q11 then Sp.static q23 q26 == (5 : Int) else false then Sp.static q24 q26 == q6 else false then Sp.static q25 q26 == q18 else false then Sp.static q21 (Sp.lanes q18 q3) == q3 else false) = true)) := by kernel_rfl
theorem vc3 : (funI C3 (stpS C3) S3 L3 Tryd.f3) = (
let q0 : Prop := True /\ True /\ True;
let q1 : Prop := q0 /\ True;
let q2 : Prop := (True /\ True) /\ True;
let q3 : Prop := q2 /\ false = true;
let q4 : Int := (100 : Int);
let q5 : Nat := (12 : Nat);
let q6 : Int := (0 : Int);
let q7 : Prop := true = true;
let q8 : Prop := q7 /\ True;
let q9 : Prop := True /\ q0;
let q10 : Nat := (64 : Nat);
let q11 : Int × Int × Unit := (q6, (64 : Int), ());
let q12 : Int := (1 : Int);
let q13 : Nat := (8 : Nat);
let q14 : Nat := (1000 : Nat);
∀ (x : List Int × List (Int × Int × Int × Int × Int × Int × Int × Int × Int × Unit) × (Bool × Int × Int × Int × Int × Int × Int × Bool × Unit) × Unit),
 let q15 : Nat := x.1.length;
 let q16 : Int := (↑q15 : Int);
 let q17 : Bool := decide (q16 > q4);
 let q18 : Prop := (true && bif q17 then false else true) = true -> True;
 let q19 : Nat := x.2.1.length;
 let q20 : Bool := bif q17 then true else decide ((↑q19 : Int) > q4);
 let q21 : Prop := x.1 = x.1;
 let q22 : Prop := x.2.1 = x.2.1;
 let q23 : Prop := x.2.2.1 = x.2.2.1;
 let q24 : Prop := q21 /\ q22 /\ q23 /\ q8;
 let q25 : Int × Int × Int × Int × Int × Bool × Unit := x.2.2.1.2.2;
 let q26 : Int × Int × Int × Int × Bool × Unit := q25.2;
 let q27 : Bool × Int × Int × Int × (Int × Int × Int × Unit) × Unit := (x.2.2.1.1, Sp.fItem x.2.2.1, q25.1, q26.1, (q26.2.1, Sp.fHi x.2.2.1, Sp.fSt x.2.2.1, ()), ());
 let q28 : Prop := q27 = q27 /\ True;
 let q29 : Prop := Sp.usable q27;
 let q30 : Prop := q15 <= (1000000 : Nat);
 let q31 : Bool := Sp.sameI (Sp.segs x.1) (Sp.segs x.1);
 let q32 : Prop := (true && bif q31 then true else false) = true;
 let q33 : Prop := q32 -> True;
 True ->
 dFact (Ty.int IntKind.i64).slice x.1 /\ dFact ((Ty.int IntKind.i64).prod ((Ty.int IntKind.i64).prod ((Ty.int IntKind.i64).prod ((Ty.int IntKind.i64).prod ((Ty.int IntKind.i64).prod ((Ty.int IntKind.i64).prod ((Ty.int IntKind.i64).prod ((Ty.int IntKind.i64).prod ((Ty.int IntKind.i32).prod Ty.unit))))))))).slice x.2.1 /\ dFact (Ty.bool.prod ((Ty.int IntKind.i16).prod ((Ty.int IntKind.i16).prod ((Ty.int IntKind.i16).prod ((Ty.int IntKind.i32).prod ((Ty.int IntKind.u16).prod ((Ty.int IntKind.u16).prod (Ty.bool.prod Ty.unit)))))))) x.2.2.1 /\ True ->
 q1 /\
 q1 /\
 q1 /\
 ((!true) = true -> q3) /\
 ((!true) = false ->
 ((True /\ True /\ True /\ True /\ q18 /\ q18 /\ q18 /\ True /\ True) /\ True) /\
 (q20 = true -> q1 /\ true = true) /\
 (q20 = false ->
 ((True /\ True) /\ True /\ True) /\
 q2 /\
 (∃ (x_1 : Nat), (x_1 <= q5 /\ x_1 <= q15) /\ ([] : List tArr.den) = List.take x_1 (Sp.arrs x.1) /\ q6 = (↑x_1 : Int) /\ q24) /\
 ∀ (x_1 : Nat),
 let q34 : List (List UInt8 × Int × Int × Int × Unit) := List.take x_1 (Sp.arrs x.1);
 let q35 : Bool := decide ((↑x_1 : Int) < q16);
 let q36 : Prop := (true && bif q35 then true else false) = true -> True;
 let q37 : Bool := bif q35 then decide ((↑x_1 : Int) < (12 : Int)) else false;
 let q38 : Nat := q34.length;
 let q39 : List (List UInt8 × Int × Int × Int × Unit) := (([] : List UInt8), IntKind.i64.wrap (↑(BitVec.ofInt q10 (x.1.getD (↑x_1 : Int).toNat q6) &&& BitVec.ofInt q10 (3 : Int)).toNat : Int), q11) :: ([] : List tArr.den);
 let q40 : Int := (↑x_1 : Int) + q12;
 let q41 : Prop := q21 /\ q22 /\ q23 /\ q7 /\ q34 = q34 /\ q28;
 let q42 : Prop := q32 -> q19 <= q14 /\ q38 <= q14;
 let q43 : Int := Sp.moves x.2.1 q34;
 let q44 : Bool := bif q31 then q43 == q43 else false;
 x_1 <= q5 /\ x_1 <= q15 ->
 dFact (Ty.str.prod ((Ty.int IntKind.i64).prod ((Ty.int IntKind.i64).prod ((Ty.int IntKind.i64).prod Ty.unit)))).slice q34 /\ dFact (Ty.int IntKind.i64) (↑x_1 : Int) /\ True ->
 ((True /\ True /\ True /\ True /\ True /\ q36 /\ q36 /\ True /\ True) /\ True) /\
 (q37 = true -> ((True /\ True /\ True /\ inN (↑x_1 : Int) q15 /\ True /\ q9) /\ (↑(q38 + q39.length) : Int) <= maxNew /\ True /\ True) /\ ((True /\ inK IntKind.i64 q40 /\ True /\ True) /\ True) /\ ∃ (y : Nat), (y <= q5 /\ y <= q15) /\ q5 - y < q5 - x_1 /\ q34 ++ q39 = List.take y (Sp.arrs x.1) /\ q40 = (↑y : Int) /\ q24) /\
 (q37 = false ->
 (q9 /\ True /\ True) /\
 q2 /\
 (∃ (x : Nat), x <= q13 /\ q6 = (↑x : Int) /\ q41) /\
 ∀ (x_2 : Nat),
 let q45 : Bool := decide ((↑x_2 : Int) < q16);
 let q46 : Prop := (true && bif q45 then true else false) = true -> True;
 let q47 : Bool := bif q45 then decide ((↑x_2 : Int) < (8 : Int)) else false;
 let q48 : Prop := inN (↑x_2 : Int) q15;
 let q49 : Int := x.1.getD (↑x_2 : Int).toNat q6;
 let q50 : Int := IntKind.u64.wrap q49;
 let q51 : Int := Sp.static q27 (Sp.lanes q49 q50);
 let q52 : Bool := q51 != q51;
 let q53 : Prop := (true && bif q52 then false else true) = true;
 let q54 : Prop := q53 -> True;
 let q55 : Prop := q53 -> q48;
 let q56 : Int := q12 + IntKind.i64.wrap (↑(BitVec.ofInt q10 q49 &&& BitVec.ofInt q10 (63 : Int)).toNat : Int);
 let q57 : Prop := q53 -> inK IntKind.i64 q56;
 let q58 : Prop := q53 -> q29;
 let q59 : Int := Sp.static q27 (Sp.lanes q56 (IntKind.u64.wrap (↑(BitVec.ofInt q10 ((2 : Int) ^ q10 - q12) ^^^ BitVec.ofInt q10 q50).toNat : Int)));
 let q60 : Bool := bif q52 then true else q59 != q59;
 let q61 : Int := (↑x_2 : Int) + q12;
 x_2 <= q13 -> dFact (Ty.int IntKind.i64) (↑x_2 : Int) /\ True -> ((True /\ True /\ True /\ True /\ True /\ q46 /\ q46 /\ True /\ True) /\ True) /\ (q47 = true -> ((True /\ True /\ True /\ q48 /\ True /\ True /\ True /\ q48 /\ True /\ True /\ q29 /\ True /\ True /\ True /\ q48 /\ True /\ True /\ True /\ q48 /\ True /\ True /\ q29 /\ True /\ True /\ q54 /\ q54 /\ q54 /\ q55 /\ q54 /\ q54 /\ q57 /\ q54 /\ q54 /\ q55 /\ q54 /\ q54 /\ q54 /\ q58 /\ q54 /\ q54 /\ q54 /\ q55 /\ q54 /\ q54 /\ q57 /\ q54 /\ q54 /\ q55 /\ q54 /\ q54 /\ q54 /\ q58 /\ q54 /\ True /\ True) /\ True) /\ (q60 = true -> q3) /\ (q60 = false -> ((True /\ inK IntKind.i64 q61 /\ True /\ True) /\ True) /\ ∃ (y : Nat), y <= q13 /\ q13 - y < q13 - x_2 /\ q61 = (↑y : Int) /\ q41)) /\ (q47 = false -> ((True /\ q30 /\ True /\ q30 /\ True /\ True /\ q33 /\ q33 /\ q42 /\ q33 /\ q33 /\ q42 /\ q33 /\ True /\ True /\ ((true && bif q44 then true else false) = true -> True) /\ q0) /\ True) /\ (bif q44 then true else false) = true))))) := by kernel_rfl
theorem vc6 : (funI C6 (stpS C6) S6 L6 Tryd.f6) = (
let q0 : Nat := (3 : Nat);
let q1 : Prop := True /\ True /\ True;
let q2 : Prop := True /\ q1;
let q3 : Prop := q1 /\ True;
let q4 : Int := (1 : Int);
let q5 : Nat := (64 : Nat);
let q6 : Int := (0 : Int);
let q7 : Int := (2 : Int);
let q8 : Prop := True /\ q2;
let q9 : Int := (1073741824 : Int);
let q10 : Int := (2199023255552 : (AK.val tI).den);
let q11 : Bool × Int × Int × Int × (Int × Int × Int × Unit) × Unit := (true, q6, q6, q6, (q6, q6, q6, ()), ());
∀ (x : (Bool × Int × Int × Int × Int × Int × Int × Bool × Unit) × List Int × List Int × Unit),
 let q12 : Int := q4 + IntKind.i64.wrap (↑(BitVec.ofInt q5 (x.2.1.getD q4.toNat q6) &&& BitVec.ofInt q5 (63 : Int)).toNat : Int);
 let q13 : Bool × Int × Int × Int × Int × Int × Int × Bool × Unit := (false, x.1.2);
 let q14 : Bool × Int × Int × Int × (Int × Int × Int × Unit) × Unit := (false, Sp.fItem q13, x.1.2.2.1, x.1.2.2.2.1, (x.1.2.2.2.2.1, Sp.fHi q13, Sp.fSt q13, ()), ());
 let q15 : Prop := Sp.usable q14;
 let q16 : List Int := Sp.lanes q12 (IntKind.u64.wrap (x.2.1.getD q7.toNat q6));
 let q17 : Int := Int.tmod (x.2.1.getD q6.toNat q6) q9;
 let q18 : List Int := Sp.words q14 q16 q17 x.2.2.1;
 let q19 : Int := Sp.static q14 q16;
 let q20 : Bool := decide ((↑(Sp.segs q18).length : Int) <= q19);
 let q21 : Prop := (true && bif q20 then true else false) = true -> True;
 let q22 : Int := (↑q16.length : Int);
 let q23 : Bool := bif q20 then decide (q19 <= q22) else false;
 let q24 : Prop := (true && bif q23 then true else false) = true;
 let q25 : Prop := q24 -> True;
 let q26 : Bool := bif q23 then Sp.static q11 q16 == q22 else false;
 True -> dFact (Ty.bool.prod ((Ty.int IntKind.i16).prod ((Ty.int IntKind.i16).prod ((Ty.int IntKind.i16).prod ((Ty.int IntKind.i32).prod ((Ty.int IntKind.u16).prod ((Ty.int IntKind.u16).prod (Ty.bool.prod Ty.unit)))))))) x.1 /\ dFact (Ty.arr q0 (Ty.int IntKind.i64)) x.2.1 /\ dFact (Ty.int IntKind.u16).slice x.2.2.1 /\ True -> (q2 /\ True) /\ q3 /\ q3 /\ ((!true) = true -> ((True /\ True) /\ True) /\ false = true) /\ ((!true) = false -> ((True /\ True) /\ True /\ True) /\ (True /\ True /\ inN q4 q0 /\ True /\ True /\ inK IntKind.i64 q12 /\ inN q7 q0 /\ True /\ q8) /\ (q8 /\ True) /\ ((True /\ True /\ True /\ q15 /\ True /\ True) /\ True) /\ ((True /\ True /\ inN q6 q0 /\ True /\ q9 ≠ q6 /\ True /\ (q15 /\ Sp.lanesOk q16 /\ -q10 <= q17 /\ q17 <= q10) /\ True /\ True) /\ True) /\ (q1 /\ True /\ True) /\ ((True /\ q18.length <= (1000000 : Nat) /\ True /\ True /\ True /\ True /\ q21 /\ q21 /\ q21 /\ q21 /\ True /\ True /\ q25 /\ q25 /\ q25 /\ (q24 -> Sp.usable q11) /\ q25 /\ q25 /\ q25 /\ True /\ True /\ ((true && bif q26 then true else false) = true -> True) /\ q1) /\ True) /\ (bif q26 then true else false) = true)) := by kernel_rfl
theorem vc8 : (funI C8 (stpS C8) S8 L8 Tryd.f8) = (
let q0 : Prop := True /\ True /\ True;
let q1 : Prop := q0 /\ True;
let q2 : Prop := q0 /\ True /\ True;
let q3 : Int := (7 : Int);
let q4 : Int := (5 : Int);
let q5 : Int := (64 : Int);
let q6 : Nat := (64 : Nat);
∀ (x : (Bool × Int × Int × Int × Int × Int × Int × Bool × Unit) × Int × Int × Unit),
 let q7 : Int := x.1.2.2.2.1;
 let q8 : Int := x.1.2.2.2.2.1;
 let q9 : Int × Unit := (Sp.fSt x.1, ());
 let q10 : Bool × Int × Int × Int × (Int × Int × Int × Unit) × Unit := (x.1.1, Sp.fItem x.1, x.1.2.2.1, q7, (q8, Sp.fHi x.1, q9), ());
 let q11 : Prop := Sp.usable q10;
 let q12 : Int := q3 - q7;
 let q13 : Int := q8 + q4;
 let q14 : Int := Sp.fHi x.1 + q4;
 let q15 : Bool := decide (Sp.fSt x.1 > (0 : Int));
 let q16 : Prop := (true && bif q15 then true else false) = true;
 let q17 : Prop := q16 -> True;
 let q18 : Int := Sp.fHi x.1 - Sp.fSt x.1;
 let q19 : Prop := inK IntKind.i64 q18;
 let q20 : Bool := bif q15 then decide (q18 > q8) else false;
 let q21 : List Int := Sp.lanes q5 x.2.1;
 let q22 : Int := Sp.static q10 q21;
 let q23 : Bool := decide (Sp.static q10 (Sp.lanes q5 (IntKind.u64.wrap (↑(BitVec.ofInt q6 x.2.1 &&& BitVec.ofInt q6 x.2.2.1).toNat : Int))) <= q22);
 let q24 : Prop := (true && bif q23 then true else false) = true;
 let q25 : Prop := q24 -> True;
 let q26 : Bool × Int × Int × Int × (Int × Int × Int × Unit) × Unit := (x.1.1, Sp.fItem x.1, x.1.2.2.1, q12, (q13, q14, q9), ());
 let q27 : Prop := q24 -> Sp.usable q26;
 let q28 : Bool := bif q23 then Sp.static q26 q21 == q22 else false;
 let q29 : Prop := (true && bif q28 then true else false) = true;
 let q30 : Prop := q29 -> True;
 let q31 : Bool × Int × Int × Int × (Int × Int × Int × Unit) × Unit := (x.1.1, Sp.fItem x.1, x.1.2.2.1, q7, (q8, q18, q9), ());
 let q32 : Bool := bif q28 then decide (Sp.static q31 q21 <= q22) else false;
 let q33 : Prop := (true && bif q32 then true else false) = true;
 let q34 : Prop := q33 -> True;
 let q35 : Bool := decide (Sp.static q10 (Sp.lanes (20 : Int) x.2.1) <= q22);
 let q36 : Bool := bif q32 then q35 else false;
 let q37 : Bool := bif q28 then decide (q22 <= q22) else false;
 let q38 : Prop := (true && bif q37 then true else false) = true;
 let q39 : Prop := q38 -> True;
 let q40 : Bool := bif q37 then q35 else false;
 True -> dFact (Ty.bool.prod ((Ty.int IntKind.i16).prod ((Ty.int IntKind.i16).prod ((Ty.int IntKind.i16).prod ((Ty.int IntKind.i32).prod ((Ty.int IntKind.u16).prod ((Ty.int IntKind.u16).prod (Ty.bool.prod Ty.unit)))))))) x.1 /\ dFact (Ty.int IntKind.u64) x.2.1 /\ dFact (Ty.int IntKind.u64) x.2.2.1 /\ True -> q1 /\ q1 /\ q1 /\ ((!true) = true -> ((True /\ True) /\ True) /\ false = true) /\ ((!true) = false -> ((True /\ q0) /\ True /\ True) /\ ((True /\ True /\ q11 /\ True /\ True) /\ True) /\ q2 /\ ((True /\ True /\ inK IntKind.i64 q12 /\ True /\ True) /\ True /\ True) /\ ((True /\ True /\ True /\ inK IntKind.i64 q13 /\ q0) /\ True /\ True) /\ ((True /\ True /\ True /\ inK IntKind.i64 q14 /\ q0) /\ True /\ True) /\ q2 /\ ((True /\ True /\ True /\ True /\ True /\ q17 /\ q17 /\ q17 /\ q17 /\ q17 /\ q17 /\ (q16 -> q19) /\ q17 /\ q17 /\ q17 /\ q17 /\ True /\ True) /\ True) /\ (q20 = true -> ((True /\ True /\ True /\ True /\ True /\ True /\ q19 /\ q0) /\ True /\ True) /\ ((True /\ True /\ True /\ True /\ q11 /\ True /\ True /\ True /\ q25 /\ q25 /\ q27 /\ q25 /\ q25 /\ True /\ True /\ q30 /\ q30 /\ (q29 -> Sp.usable q31) /\ q30 /\ q30 /\ True /\ True /\ q34 /\ q34 /\ (q33 -> q11) /\ q34 /\ q34 /\ True /\ True /\ ((true && bif q36 then true else false) = true -> True) /\ q0) /\ True) /\ (bif q36 then true else false) = true) /\ (q20 = false -> ((True /\ True /\ True /\ True /\ q11 /\ True /\ True /\ True /\ q25 /\ q25 /\ q27 /\ q25 /\ q25 /\ True /\ True /\ q30 /\ q30 /\ (q29 -> q11) /\ q30 /\ q30 /\ True /\ True /\ q39 /\ q39 /\ (q38 -> q11) /\ q39 /\ q39 /\ True /\ True /\ ((true && bif q40 then true else false) = true -> True) /\ q0) /\ True) /\ (bif q40 then true else false) = true))) := by kernel_rfl
theorem vc7 : (funI C7 (stpS C7) S7 L7 Tryd.f7) = (
let q0 : Prop := (True /\ True) /\ True;
let q1 : Prop := True /\ True /\ True;
let q2 : Prop := q1 /\ True;
let q3 : Prop := q0 /\ false = true;
let q4 : Int := (1099511627776 : Int);
let q5 : Int := (0 : Int);
let q6 : Int := (64 : Int);
let q7 : Int := (1 : Int);
let q8 : Prop := True /\ q1;
let q9 : Nat := (16 : Nat);
let q10 : Int := (1099511627776 : Int);
let q11 : Prop := true = true;
let q12 : Int := (16 : Int);
let q13 : Int := (2199023255552 : (AK.val tI).den);
let q14 : List Int := ([] : List (Ty.int IntKind.u16).den);
let q15 : Bool × Int × Int × Int × (Int × Int × Int × Unit) × Unit := Sp.form0 q5;
let q16 : Bool × Int × Int × Int × (Int × Int × Int × Unit) × Unit := Sp.form0 q7;
let q17 : Int := (30 : Int);
let q18 : Bool × Int × Int × Int × (Int × Int × Int × Unit) × Unit := Sp.form0 (-q7);
∀ (x : Int × Int × Int × Unit),
 let q19 : Int := q7 + x.2.1 % q6;
 let q20 : List Int := Sp.lanes q19 x.2.2.1;
 let q21 : Int := (↑q20.length : Int);
 let q22 : Bool := q21 == q5;
 let q23 : Bool × Int × Int × Int × (Int × Int × Int × Unit) × Unit := Sp.form0 (x.1.tmod q4);
 let q24 : Prop := Sp.usable q23;
 let q25 : Int := Sp.static q23 q20;
 let q26 : Bool := q25 == q5;
 let q27 : List Int := Sp.lanes (q7 + x.2.1 % q6) x.2.2.1;
 let q28 : Prop := x.1.tmod q4 = x.1.tmod q4 /\ x.2.2.1 = x.2.2.1 /\ q11 /\ q19 = q19 /\ q20 = q20 /\ q25 = q25 /\ True;
 let q29 : Bool := decide (x.1.tmod q4 ≥ q12);
 let q30 : Bool := bif q29 then true else decide (x.1.tmod q4 <= -q12);
 let q31 : Bool := Sp.static q15 q20 == q7;
 let q32 : Prop := (true && bif q31 then true else false) = true;
 let q33 : Prop := q32 -> True;
 let q34 : Int := q19 + q17;
 let q35 : Prop := inK IntKind.i64 q34;
 let q36 : Int := q34.tdiv q12;
 let q37 : Prop := q12 ≠ q5 /\ inK IntKind.i64 q36;
 let q38 : List Int := Sp.lanes q19 (18446744073709551615 : Int);
 let q39 : Bool := bif q31 then Sp.static q16 q38 == q36 else false;
 let q40 : Prop := (true && bif q39 then true else false) = true;
 let q41 : Prop := q40 -> True;
 let q42 : Bool := bif q39 then Sp.static q18 q38 == q36 else false;
 True ->
 dFact (Ty.int IntKind.i64) x.1 /\ dFact (Ty.int IntKind.u8) x.2.1 /\ dFact (Ty.int IntKind.u64) x.2.2.1 /\ True ->
 q0 /\
 q2 /\
 q2 /\
 ((!true) = true -> q3) /\
 ((!true) = false ->
 ((True /\ q4 ≠ q5 /\ True /\ True) /\ True) /\
 ((True /\ q6 ≠ q5 /\ True /\ inK IntKind.i64 q19 /\ True /\ True) /\ True) /\
 ((True /\ q8) /\ True) /\
 (q8 /\ True) /\
 (q22 = true -> ((True /\ True /\ True /\ True /\ q24 /\ True /\ True /\ ((true && bif q26 then true else false) = true -> True) /\ q1) /\ True) /\ (bif q26 then true else false) = true) /\
 (q22 = false ->
 ((True /\ True /\ True /\ True /\ q24 /\ q1) /\ True) /\
 q0 /\
 (∃ (x_1 : Nat), x_1 <= q9 /\ q5 = (↑(Sp.maxSegs (x.1.tmod q10) q27 x_1) : tI.den) /\ q5 = (↑x_1 : Int) /\ q28) /\
 ∀ (x_1 : Nat),
 let q43 : Int := (↑(Sp.maxSegs (x.1.tmod q10) q27 x_1) : tI.den);
 let q44 : Bool := decide ((↑x_1 : Int) < q12);
 let q45 : List Int := Sp.words q23 q20 (↑x_1 : Int) q14;
 let q46 : Int := (↑x_1 : Int) + q7;
 let q47 : Bool := q43 != q25;
 let q48 : Bool := true && bif q47 then false else true;
 let q49 : Prop := q48 = true -> True;
 let q50 : Prop := (q48 && bif q29 then false else true) = true -> True;
 let q51 : Prop := (q48 && bif q30 then true else false) = true -> True;
 let q52 : Bool := bif q47 then true else bif q30 then q25 != q21 else false;
 x_1 <= q9 -> dFact (Ty.int IntKind.i64) q43 /\ dFact (Ty.int IntKind.i64) (↑x_1 : Int) /\ True -> q2 /\ (q44 = true -> ((True /\ True /\ True /\ True /\ True /\ (q24 /\ Sp.lanesOk q20 /\ -q13 <= (↑x_1 : Int) /\ (↑x_1 : Int) <= q13) /\ q45.length <= (1000000 : Nat) /\ q8) /\ True) /\ ((True /\ inK IntKind.i64 q46 /\ True /\ True) /\ True) /\ ∃ (y : Nat), y <= q9 /\ q9 - y < q9 - x_1 /\ Max.max q43 (↑(Sp.segs q45).length : Int) = (↑(Sp.maxSegs (x.1.tmod q10) q27 y) : tI.den) /\ q46 = (↑y : Int) /\ q28) /\ (q44 = false -> ((True /\ True /\ True /\ True /\ q49 /\ q49 /\ q49 /\ q50 /\ q50 /\ q49 /\ q49 /\ q51 /\ q51 /\ q51 /\ q51 /\ q49 /\ True /\ True) /\ True) /\ (q52 = true -> q3) /\ (q52 = false -> q0 /\ ((True /\ True /\ True /\ Sp.usable q15 /\ True /\ True /\ q33 /\ q33 /\ q33 /\ (q32 -> Sp.usable q16) /\ q33 /\ (q32 -> q35) /\ (q32 -> q37) /\ q33 /\ True /\ True /\ q41 /\ q41 /\ q41 /\ (q40 -> Sp.usable q18) /\ q41 /\ (q40 -> q35) /\ (q40 -> q37) /\ q41 /\ True /\ True /\ ((true && bif q42 then true else false) = true -> True) /\ q1) /\ True) /\ (bif q42 then true else false) = true))))) := by kernel_rfl
end Go.User
namespace Go.User
open Go.Proofs Go.Lf
set_option maxRecDepth 100000
theorem vc12 : (funI C12 (stpS C12) S12 L12 Tryd.f12) = (
let q0 : Prop := True /\ True /\ True;
let q1 : Prop := q0 /\ True;
let q2 : Prop := True /\ q0;
let q3 : Prop := True /\ q2;
let q4 : Prop := q3 /\ True;
let q5 : Int := (0 : Int);
let q6 : Prop := True /\ q3;
let q7 : Prop := (True /\ True) /\ True;
let q8 : Nat := (16 : Nat);
let q9 : Int := (16 : Int);
let q10 : Int := (1 : Int);
let q11 : Prop := q9 ≠ q5;
let q12 : Int := (2 : Int);
∀ (x : (Bool × Int × Int × Int × (Int × Int × Int × Unit) × Unit) × Int × Int × Unit),
 let q13 : List Int := Sp.lanes x.2.1 x.2.2.1;
 let q14 : Nat := q13.length;
 let q15 : Int := (↑q14 : Int);
 let q16 : Bool := q15 == q5;
 let q17 : Prop := (true && bif q16 then false else true) = true -> True;
 let q18 : Bool := bif q16 then true else x.1.1;
 let q19 : Int := Sp.static x.1 q13;
 let q20 : Int := x.1.2.1 + x.1.2.2.1;
 let q21 : Int × Int × Int × Unit := x.1.2.2.2.2.1;
 let q22 : Int := q21.1;
 let q23 : Int := q21.2.1;
 let q24 : Bool := q22 == q23;
 let q25 : Prop := x.1 = x.1;
 let q26 : Prop := q13 = q13;
 let q27 : Prop := q20 = q20;
 let q28 : Prop := q25 /\ q26 /\ q27 /\ True;
 let q29 : Nat := q13.length;
 let q30 : Bool := decide (q20 < q5);
 let q31 : Int := q5 - q20;
 let q32 : Int := q15 - q10;
 let q33 : Prop := inK IntKind.i64 q32;
 let q34 : Prop := inN q32 q14;
 let q35 : Prop := inN q5 q14;
 let q36 : Int := q13.getD q32.toNat q5 - q13.getD q5.toNat q5;
 let q37 : Prop := inK IntKind.i64 q36;
 let q38 : Int := q31 * q36;
 let q39 : Int := q38 + q23;
 let q40 : Int := q39 - q22;
 let q41 : Int := q40 - q10;
 let q42 : Int := q41.tdiv q9;
 let q43 : Int := q42 + q12;
 let q44 : Int := q20 * q36;
 let q45 : Int := q44 + q23;
 let q46 : Int := q45 - q22;
 let q47 : Int := q46 - q10;
 let q48 : Int := q47.tdiv q9;
 let q49 : Int := q48 + q12;
 Sp.usable x.1 ->
 dFact (Ty.bool.prod ((Ty.int IntKind.i64).prod ((Ty.int IntKind.i64).prod ((Ty.int IntKind.i64).prod (((Ty.int IntKind.i64).prod ((Ty.int IntKind.i64).prod ((Ty.int IntKind.i64).prod Ty.unit))).prod Ty.unit))))) x.1 /\ dFact (Ty.int IntKind.i64) x.2.1 /\ dFact (Ty.int IntKind.u64) x.2.2.1 /\ True ->
 q1 /\
 q4 /\
 ((True /\ True /\ True /\ True /\ q17 /\ q17 /\ True /\ True) /\ True) /\
 (q18 = true -> (q2 /\ True) /\ q15 = q19) /\
 (q18 = false ->
 ((True /\ True /\ True /\ True /\ inK IntKind.i64 q20 /\ True /\ True) /\ True) /\
 ((True /\ True /\ q6) /\ True) /\
 (q24 = true ->
 q7 /\
 q7 /\
 (∃ (x_1 : Nat), x_1 <= q8 /\ q5 = (↑(Sp.maxSegs (Sp.sOf x.1) q13 x_1) : tI.den) /\ q5 = (↑x_1 : Int) /\ q28) /\
 ∀ (x_1 : Nat),
 let q50 : Int := (↑(Sp.maxSegs (Sp.sOf x.1) q13 x_1) : tI.den);
 let q51 : Bool := decide ((↑x_1 : Int) < q9);
 let q52 : Prop := q25 /\ q26 /\ q27 /\ q50 = q50 /\ (↑x_1 : Int) = (↑x_1 : Int) /\ True;
 let q53 : Int := (↑x_1 : Int) + q10;
 x_1 <= q8 ->
 dFact (Ty.int IntKind.i64) q50 /\ dFact (Ty.int IntKind.i64) (↑x_1 : Int) /\ True ->
 q1 /\
 (q51 = true ->
 q1 /\
 q7 /\
 (∃ (x_2 : Nat), x_2 <= q29 /\ ([] : List tI.den) = Sp.segsAt (Sp.sOf x.1) (↑x_1 : Int) (List.take x_2 q13) /\ q5 = (↑x_2 : Int) /\ q52) /\
 ∀ (x_2 : Nat),
 let q54 : List Int := Sp.segsAt (Sp.sOf x.1) (↑x_1 : Int) (List.take x_2 q13);
 let q55 : Bool := decide ((↑x_2 : Int) < q15);
 let q56 : Int := q20 * q13.getD (↑x_2 : Int).toNat q5;
 let q57 : Int := (↑x_1 : Int) + q56;
 let q58 : Nat := q54.length;
 let q59 : Int := (↑x_2 : Int) + q10;
 x_2 <= q29 -> dFact (Ty.int IntKind.i64).slice q54 /\ dFact (Ty.int IntKind.i64) (↑x_2 : Int) /\ True -> q4 /\ (q55 = true -> ((True /\ True /\ True /\ True /\ True /\ inN (↑x_2 : Int) q14 /\ True /\ inK IntKind.i64 q56 /\ inK IntKind.i64 q57 /\ True /\ (q58 <= (1000000 : Nat) /\ Sp.incr q54) /\ True /\ True) /\ True) /\ ((True /\ inK IntKind.i64 q59 /\ True /\ True) /\ True) /\ ∃ (y : Nat), y <= q29 /\ q29 - y < q29 - x_2 /\ Sp.added q54 (q57 / (16 : tI.den)) = Sp.segsAt (Sp.sOf x.1) (↑x_1 : Int) (List.take y q13) /\ q59 = (↑y : Int) /\ q52) /\ (q55 = false -> (q6 /\ True) /\ ((True /\ inK IntKind.i64 q53 /\ True /\ True) /\ True) /\ ∃ (y : Nat), y <= q8 /\ q8 - y < q8 - x_1 /\ Max.max q50 (↑q58 : Int) = (↑(Sp.maxSegs (Sp.sOf x.1) q13 y) : tI.den) /\ q53 = (↑y : Int) /\ q28)) /\
 (q51 = false -> q1 /\ q50 = q19)) /\
 (q24 = false -> q1 /\ (q30 = true -> ((True /\ inK IntKind.i64 q31 /\ True /\ True) /\ True) /\ ((True /\ True /\ True /\ True /\ q33 /\ q34 /\ True /\ True /\ q35 /\ True /\ q37 /\ inK IntKind.i64 q38 /\ True /\ True /\ True /\ inK IntKind.i64 q39 /\ True /\ True /\ True /\ inK IntKind.i64 q40 /\ True /\ True) /\ True) /\ ((True /\ True /\ True /\ inK IntKind.i64 q41 /\ (q11 /\ inK IntKind.i64 q42) /\ inK IntKind.i64 q43 /\ q0) /\ True) /\ Min.min q15 q43 = q19) /\ (q30 = false -> ((True /\ True /\ True /\ True /\ q33 /\ q34 /\ True /\ True /\ q35 /\ True /\ q37 /\ inK IntKind.i64 q44 /\ True /\ True /\ True /\ inK IntKind.i64 q45 /\ True /\ True /\ True /\ inK IntKind.i64 q46 /\ True /\ True) /\ True) /\ ((True /\ True /\ True /\ inK IntKind.i64 q47 /\ (q11 /\ inK IntKind.i64 q48) /\ inK IntKind.i64 q49 /\ q0) /\ True) /\ Min.min q15 q49 = q19)))) := by kernel_rfl
theorem vc17 : (funI C17 (stpS C17) S17 L17 Tryd.f17) = (
let q0 : Nat := (1000 : Nat);
let q1 : Prop := (True /\ True) /\ True;
let q2 : Int := (0 : Int);
let q3 : Prop := True /\ True /\ True;
let q4 : Prop := (True /\ True /\ q3) /\ True;
let q5 : Prop := q3 /\ True;
let q6 : Int × Int × Int × Int × Int × Int × Int × Int × Int × Unit := (q2, q2, q2, q2, q2, q2, q2, q2, q2, ());
let q7 : Int := (1 : Int);
∀ (x : List (Int × Int × Int × Int × Int × Int × Int × Int × Int × Unit) × List (List UInt8 × Int × Int × Int × Unit) × Unit),
 let q8 : Nat := x.1.length;
 let q9 : Nat := x.2.1.length;
 let q10 : Prop := x.1 = x.1;
 let q11 : Prop := x.2.1 = x.2.1;
 let q12 : Prop := q10 /\ q11 /\ True;
 q8 <= q0 /\ q9 <= q0 ->
 dFact ((Ty.int IntKind.i64).prod ((Ty.int IntKind.i64).prod ((Ty.int IntKind.i64).prod ((Ty.int IntKind.i64).prod ((Ty.int IntKind.i64).prod ((Ty.int IntKind.i64).prod ((Ty.int IntKind.i64).prod ((Ty.int IntKind.i64).prod ((Ty.int IntKind.i32).prod Ty.unit))))))))).slice x.1 /\ dFact (Ty.str.prod ((Ty.int IntKind.i64).prod ((Ty.int IntKind.i64).prod ((Ty.int IntKind.i64).prod Ty.unit)))).slice x.2.1 /\ True ->
 q1 /\
 q1 /\
 q1 /\
 (∃ (x_1 : Nat), x_1 <= q9 /\ q2 = (↑(Sp.movesTo x.1 x.2.1 x_1) : tI.den) /\ q2 = (↑x_1 : Int) /\ q12) /\
 ∀ (x_1 : Nat),
 let q13 : Int := (↑(Sp.movesTo x.1 x.2.1 x_1) : tI.den);
 let q14 : Bool := decide ((↑x_1 : Int) < (↑q9 : Int));
 let q15 : Prop := q10 /\ q11 /\ q13 = q13 /\ (↑x_1 : Int) = (↑x_1 : Int) /\ True;
 let q16 : Int := (↑x_1 : Int) + q7;
 x_1 <= q9 ->
 dFact (Ty.int IntKind.i64) q13 /\ dFact (Ty.int IntKind.i64) (↑x_1 : Int) /\ True ->
 q4 /\
 (q14 = true ->
 q5 /\
 q1 /\
 (∃ (x_2 : Nat), x_2 <= q8 /\ ([] : List tI.den) = Sp.segs (Sp.wordsAt (List.take x_2 x.1) x.2.1 (↑x_1 : Int)) /\ q2 = (↑x_2 : Int) /\ q15) /\
 ∀ (x_2 : Nat),
 let q17 : List Int := Sp.segs (Sp.wordsAt (List.take x_2 x.1) x.2.1 (↑x_1 : Int));
 let q18 : Bool := decide ((↑x_2 : Int) < (↑q8 : Int));
 let q19 : Prop := inN (↑x_2 : Int) q8;
 let q20 : Int × Int × Int × Int × Int × Int × Int × Int × Int × Unit := x.1.getD (↑x_2 : Int).toNat q6;
 let q21 : Int × Int × Int × Unit := q20.2.2.2.2.2.2;
 let q22 : Bool := q21.1 == (↑x_1 : Int);
 let q23 : Prop := (true && bif q22 then true else false) = true;
 let q24 : Prop := q23 -> True;
 let q25 : Bool := bif q22 then Sp.counts q20 x.2.1 else false;
 let q26 : Nat := q17.length;
 let q27 : Int := (↑x_2 : Int) + q7;
 let q28 : Prop := (True /\ inK IntKind.i64 q27 /\ True /\ True) /\ True;
 let q29 : Int := q13 + (↑q26 : Int);
 x_2 <= q8 -> dFact (Ty.int IntKind.i64).slice q17 /\ dFact (Ty.int IntKind.i64) (↑x_2 : Int) /\ True -> q4 /\ (q18 = true -> ((True /\ True /\ q19 /\ True /\ True /\ True /\ True /\ True /\ q24 /\ q24 /\ (q23 -> q19) /\ q24 /\ q24 /\ q24 /\ True /\ True) /\ True) /\ (q25 = true -> ((True /\ True /\ True /\ q19 /\ True /\ True /\ True /\ (q26 <= (1000000 : Nat) /\ Sp.incr q17) /\ True /\ True) /\ True) /\ q28 /\ ∃ (y : Nat), y <= q8 /\ q8 - y < q8 - x_2 /\ Sp.added q17 (q21.2.1 / (16 : tI.den)) = Sp.segs (Sp.wordsAt (List.take y x.1) x.2.1 (↑x_1 : Int)) /\ q27 = (↑y : Int) /\ q15) /\ (q25 = false -> q28 /\ ∃ (y : Nat), y <= q8 /\ q8 - y < q8 - x_2 /\ q17 = Sp.segs (Sp.wordsAt (List.take y x.1) x.2.1 (↑x_1 : Int)) /\ q27 = (↑y : Int) /\ q15)) /\ (q18 = false -> ((True /\ True /\ True /\ inK IntKind.i64 q29 /\ True /\ True) /\ True) /\ ((True /\ inK IntKind.i64 q16 /\ True /\ True) /\ True) /\ ∃ (y : Nat), y <= q9 /\ q9 - y < q9 - x_1 /\ q29 = (↑(Sp.movesTo x.1 x.2.1 y) : tI.den) /\ q16 = (↑y : Int) /\ q12)) /\
 (q14 = false -> q5 /\ q13 = Sp.moves x.1 x.2.1)) := by kernel_rfl
theorem vc20 : (funI C20 (stpS C20) S20 L20 Tryd.f20) = (
let q0 : Int := (2199023255552 : (AK.val tI).den);
let q1 : Prop := True /\ True /\ True;
let q2 : Prop := q1 /\ True;
let q3 : Int := (0 : Int);
let q4 : Prop := (True /\ True /\ q1) /\ True;
let q5 : Int := (1 : Int);
∀ (x : (Bool × Int × Int × Int × (Int × Int × Int × Unit) × Unit) × List Int × Int × List Int × Unit),
 let q6 : Nat := x.2.1.length;
 let q7 : List Int := Sp.words x.1 x.2.1 x.2.2.1 x.2.2.2.1;
 let q8 : Prop := x.2.1 = x.2.1 /\ x.2.2.1 = x.2.2.1 /\ x.2.2.2.1 = x.2.2.2.1 /\ x.1 = x.1 /\ True;
 let q9 : Int × Int × Int × Unit := x.1.2.2.2.2.1;
 let q10 : Int × Int × Unit := q9.2;
 let q11 : Int := q10.2.1;
 let q12 : Bool := decide (q11 > q3);
 let q13 : Prop := (true && bif q12 then true else false) = true -> True;
 let q14 : Nat := x.2.2.2.1.length;
 let q15 : Int := (↑q14 : Int);
 let q16 : Bool := bif q12 then decide (q15 > q3) else false;
 let q17 : Int := q9.1;
 let q18 : Int := q10.1 - q17;
 let q19 : Int := q18.tdiv q11;
 let q20 : Int := q19 + q5;
 let q21 : Int := x.1.2.1 + x.1.2.2.1;
 let q22 : Prop := inK IntKind.i64 q21;
 Sp.usable x.1 /\ Sp.lanesOk x.2.1 /\ -q0 <= x.2.2.1 /\ x.2.2.1 <= q0 ->
 dFact (Ty.bool.prod ((Ty.int IntKind.i64).prod ((Ty.int IntKind.i64).prod ((Ty.int IntKind.i64).prod (((Ty.int IntKind.i64).prod ((Ty.int IntKind.i64).prod ((Ty.int IntKind.i64).prod Ty.unit))).prod Ty.unit))))) x.1 /\ dFact (Ty.int IntKind.i64).slice x.2.1 /\ dFact (Ty.int IntKind.i64) x.2.2.1 /\ dFact (Ty.int IntKind.u16).slice x.2.2.2.1 /\ True ->
 q2 /\
 ((True /\ True) /\ True /\ True) /\
 ((True /\ True) /\ True) /\
 (∃ (x : Nat), x <= q6 /\ ([] : List tI.den) = List.take x q7 /\ q3 = (↑x : Int) /\ q8) /\
 ∀ (x_1 : Nat),
 let q23 : List Int := List.take x_1 q7;
 let q24 : Bool := decide ((↑x_1 : Int) < (↑q6 : Int));
 let q25 : Int := (↑x_1 : Int).tmod q15;
 let q26 : Int := q11 * Int.tmod (x.2.2.2.1.getD q25.toNat q3) q20;
 let q27 : Int := q17 + q26;
 let q28 : Prop := inN (↑x_1 : Int) q6;
 let q29 : Int := q21 * x.2.1.getD (↑x_1 : Int).toNat q3;
 let q30 : Prop := inK IntKind.i64 q29;
 let q31 : Int := x.2.2.1 + q29;
 let q32 : Prop := inK IntKind.i64 q31;
 let q33 : Int := q31 + q27;
 let q34 : Nat := q23.length;
 let q35 : List Int := q33 :: ([] : List tI.den);
 let q36 : Int := (↑x_1 : Int) + q5;
 let q37 : Prop := (True /\ inK IntKind.i64 q36 /\ True /\ True) /\ True;
 let q38 : Int := q31 + q17;
 let q39 : List Int := q38 :: ([] : List tI.den);
 x_1 <= q6 -> dFact (Ty.int IntKind.i64).slice q23 /\ dFact (Ty.int IntKind.i64) (↑x_1 : Int) /\ True -> q4 /\ (q24 = true -> q4 /\ ((True /\ True /\ True /\ True /\ True /\ q13 /\ q13 /\ q13 /\ True /\ True) /\ True) /\ (q16 = true -> ((True /\ True /\ True /\ True /\ True /\ True /\ inK IntKind.i64 q18 /\ True /\ True /\ True /\ (q11 ≠ q3 /\ inK IntKind.i64 q19) /\ inK IntKind.i64 q20 /\ True /\ True) /\ True) /\ ((True /\ True /\ True /\ True /\ True /\ True /\ True /\ True /\ q15 ≠ q3 /\ inN q25 q14 /\ True /\ True /\ True /\ q20 ≠ q3 /\ inK IntKind.i64 q26 /\ inK IntKind.i64 q27 /\ True /\ True) /\ True) /\ ((True /\ True /\ True /\ True /\ True /\ True /\ q22 /\ True /\ True /\ q28 /\ True /\ q30 /\ q32 /\ True /\ inK IntKind.i64 q33 /\ True /\ True) /\ (↑(q34 + q35.length) : Int) <= maxNew /\ True /\ True) /\ q37 /\ ∃ (y : Nat), y <= q6 /\ q6 - y < q6 - x_1 /\ q23 ++ q35 = List.take y q7 /\ q36 = (↑y : Int) /\ q8) /\ (q16 = false -> ((True /\ True /\ True /\ True /\ True /\ True /\ q22 /\ True /\ True /\ q28 /\ True /\ q30 /\ q32 /\ True /\ inK IntKind.i64 q38 /\ True /\ True) /\ (↑(q34 + q39.length) : Int) <= maxNew /\ True /\ True) /\ q37 /\ ∃ (y : Nat), y <= q6 /\ q6 - y < q6 - x_1 /\ q23 ++ q39 = List.take y q7 /\ q36 = (↑y : Int) /\ q8)) /\ (q24 = false -> q2 /\ q23 = q7)) := by kernel_rfl
theorem vc22 : (funI C22 (stpS C22) S22 L22 Tryd.f22) = (
let q0 : Int := (0 : Int);
let q1 : Int := (1 : Int);
let q2 : Prop := True /\ True /\ True;
let q3 : Prop := True /\ True /\ q2;
let q4 : Prop := True /\ q3;
let q5 : Int := (2 : Int);
let q6 : Int := (4 : Int);
let q7 : Int := (8 : Int);
let q8 : Int := (16 : Int);
let q9 : Int := (32 : Int);
let q10 : Nat := (64 : Nat);
let q11 : Int := (2 : (Ty.int IntKind.u64).den);
∀ (x : Int × Unit),
 let q12 : Int := IntKind.u64.wrap (IntKind.u64.wrap (↑(BitVec.ofInt q10 (x.1 / q11 ^ shiftN IntKind.u64 q1) &&& BitVec.ofInt q10 (6148914691236517205 : Int)).toNat : Int) + IntKind.u64.wrap (↑(BitVec.ofInt q10 x.1 &&& BitVec.ofInt q10 (6148914691236517205 : Int)).toNat : Int));
 let q13 : Int := IntKind.u64.wrap (IntKind.u64.wrap (↑(BitVec.ofInt q10 (q12 / q11 ^ shiftN IntKind.u64 q5) &&& BitVec.ofInt q10 (3689348814741910323 : Int)).toNat : Int) + IntKind.u64.wrap (↑(BitVec.ofInt q10 q12 &&& BitVec.ofInt q10 (3689348814741910323 : Int)).toNat : Int));
 let q14 : Int := IntKind.u64.wrap (↑(BitVec.ofInt q10 (IntKind.u64.wrap (q13 / q11 ^ shiftN IntKind.u64 q6 + q13)) &&& BitVec.ofInt q10 (1085102592571150095 : Int)).toNat : Int);
 let q15 : Int := IntKind.u64.wrap (q14 + q14 / q11 ^ shiftN IntKind.u64 q7);
 let q16 : Int := IntKind.u64.wrap (q15 + q15 / q11 ^ shiftN IntKind.u64 q8);
 True -> dFact (Ty.int IntKind.u64) x.1 /\ True -> ((True /\ True) /\ True) /\ ((True /\ q0 <= q1 /\ q4) /\ True) /\ ((True /\ q0 <= q5 /\ q4) /\ True) /\ ((True /\ q0 <= q6 /\ q3) /\ True) /\ ((True /\ True /\ q0 <= q7 /\ q2) /\ True) /\ ((True /\ True /\ q0 <= q8 /\ q2) /\ True) /\ ((True /\ True /\ q0 <= q9 /\ q2) /\ True) /\ (q3 /\ True) /\ IntKind.i64.wrap (↑(BitVec.ofInt q10 (IntKind.i64.wrap (IntKind.u64.wrap (q16 + q16 / q11 ^ shiftN IntKind.u64 q9))) &&& BitVec.ofInt q10 (127 : Int)).toNat : Int) = Sp.ones x.1) := by kernel_rfl
end Go.User
