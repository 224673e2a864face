/- The maker of codes: instructions. -/
import Derived.Test.YtdcbiadlojcaoaaLfh
import Derived.KernelRfl
import Derived.Test.YtdcbiadlojcaoaaProg
import Derived.Test.YtdcbiadlojcaoaaRows
import Derived.WalkKit
import Derived.Lib.Walk
import Derived.Lib.SliceRun
import Derived.Deep.LoopGhost
import Derived.Deep.OwnRows
import Derived.Deep.Cut
import Derived.Deep.Light
import Derived.Deep.CutRange
import Derived.CellFam
import Derived.BigGuard
import Derived.BigQuiet
import Derived.ArgAppend
import Derived.Deep.RegionHeld3
import Derived.Deep.RegionLaw
import Derived.Shelf.SortM.Plain
import Derived.Shelf.SortM.SortNone
import Derived.Shelf.SlicesG.CompactI
import Derived.Ground.SlgmProg
import Derived.Ground.SlgnProg
set_option linter.unusedVariables false
set_option linter.unusedSimpArgs false
namespace Sp
abbrev Opd := Int × Int × Int × Unit
abbrev Inst := Int × Int × Int × Opd × Opd × Opd × Opd × Unit
abbrev Term := Int × Int × Opd × Opd × Opd × List Int × Unit
abbrev Block := List Inst × Term × Unit
abbrev Arr := List UInt8 × Int × Int × Int × Unit
abbrev Loop := Int × Int × Int × Unit
abbrev Code := Int × Int × Int × Int × Int × List Arr × List Loop × List Block × Unit
abbrev Mk := List Int × Int × Code × Unit
abbrev Ord := List (List Int) × Unit
abbrev Done := Code × Ord × Unit
abbrev Chg := Int × Int × Int × Int × Bool × Unit
abbrev Acs := Int × Int × Bool × Bool × Bool × Unit
end Sp
namespace Go.User
open Go.Lf Go.Proofs
abbrev tI : Ty := .int .i64
abbrev tU8 : Ty := .int .u8
abbrev tRaw : Ty := .prod (.slice tU8) .unit
abbrev aQ : Ty := .prod tI (.prod tI (.prod (.int .i32) .unit))
abbrev aL : Ty := .prod tI (.prod tI (.prod tI (.prod aQ (.prod aQ (.prod aQ (.prod aQ .unit))))))
abbrev tTerm : Ty := .prod tI (.prod tI (.prod aQ (.prod aQ (.prod aQ (.prod (.arr 2 tI) .unit)))))
abbrev fY : Ty := .prod (.slice aL) (.prod tTerm .unit)
abbrev cG : Ty := .prod .str (.prod tI (.prod tI (.prod tI .unit)))
abbrev bF : Ty := .prod tI (.prod tI (.prod tI .unit))
abbrev bT : Ty := .prod tI (.prod tI (.prod tI (.prod tI (.prod tI (.prod (.slice cG) (.prod (.slice bF) (.prod (.slice fY) .unit)))))))
abbrev tMk : Ty := .prod (.slice tU8) (.prod tI (.prod bT .unit))
abbrev fW : Ty := .prod (.slice (.slice tI)) .unit
abbrev tDone : Ty := .prod bT (.prod fW .unit)
abbrev tChg : Ty := .prod tU8 (.prod tU8 (.prod tU8 (.prod tI (.prod .bool .unit))))
abbrev tAcs : Ty := .prod tI (.prod tI (.prod .bool (.prod .bool (.prod .bool .unit))))
end Go.User
namespace Go.User
open Go.Lf Go.Proofs
def cS (q : Nat) : List (TypeId × Ty) := [(2, tI), (3, tI), (4, .bool), (5, tU8), (9, .str), (21, .int .i32), (22, .slice tU8), (23, tRaw), (24, tRaw), (25, tChg), (26, tChg), (27, .arr 2 tChg), (29, .slice cG), (30, .slice bF), (31, .slice fY), (32, bT), (33, bT), (35, .slice (.slice tI)), (36, fW), (37, fW), (38, tDone), (39, tDone), (43, .slice aL), (44, aQ), (45, aQ), (46, .arr 2 tI), (47, tTerm), (48, tTerm), (49, fY), (50, fY), (52, aL), (53, aL), (55, .slice fW), (57, tI), (60, .arr 2 tU8), (61, .slice tI), (75, tAcs), (76, tAcs), (83, cG), (84, cG), (86, bF), (87, bF), (92, tMk), (93, tMk), (106, .slice (.slice .bool)), (108, .slice .bool), (114, .slice aQ)]
def eqs : List TypeId := [45, 46, 48, 53, 84, 87]

theorem rows_all {P : Program} {tys0 : List (TypeId × Ty)} : ∀ (l : List (TypeId × Ty)), (∀ x ∈ l, bD P tys0 x.1 x.2) -> ∀ T τ, Lf.look l T = some τ -> bD P tys0 T τ
 | [], _, T, τ, h => by cases h
 | x :: l, h, T, τ, hl => by
  simp only [Lf.look] at hl;cases hb : Nat.beq x.1 T
  ·rw [hb] at hl; exact rows_all l (fun y hy => h y (by simp [hy])) T τ hl
  ·rw [hb] at hl
   have := Nat.eq_of_beq_eq_true hb
   simp only [cond_true, Option.some.injEq] at hl;rw [<- this, <- hl]; exact h x (by simp)
theorem row2 (q : Nat) : bD Try.prog (cS q) 2 (tI) := ⟨Try.t2, _, by kernel_rfl, Try.underlying2, by kernel_rfl, by decide, by kernel_rfl, by kernel_rfl⟩
theorem row3 (q : Nat) : bD Try.prog (cS q) 3 (tI) := ⟨Try.t3, _, by kernel_rfl, Try.underlying3, by kernel_rfl, by decide, by kernel_rfl, by kernel_rfl⟩
theorem row4 (q : Nat) : bD Try.prog (cS q) 4 (.bool) := ⟨Try.t4, _, by kernel_rfl, Try.underlying4, by kernel_rfl, by decide, by kernel_rfl, by kernel_rfl⟩
theorem row5 (q : Nat) : bD Try.prog (cS q) 5 (tU8) := ⟨Try.t5, _, by kernel_rfl, Try.underlying5, by kernel_rfl, by decide, by kernel_rfl, by kernel_rfl⟩
theorem row9 (q : Nat) : bD Try.prog (cS q) 9 (.str) := ⟨Try.t9, _, by kernel_rfl, Try.underlying9, by kernel_rfl, by decide, by kernel_rfl, by kernel_rfl⟩
theorem row21 (q : Nat) : bD Try.prog (cS q) 21 (.int .i32) := ⟨Try.t21, _, by kernel_rfl, Try.underlying21, by kernel_rfl, by decide, by kernel_rfl, by kernel_rfl⟩
theorem row22 (q : Nat) : bD Try.prog (cS q) 22 (.slice tU8) := ⟨Try.t22, _, by kernel_rfl, Try.underlying22, by kernel_rfl, by decide, by kernel_rfl, by kernel_rfl⟩
theorem row23 (q : Nat) : bD Try.prog (cS q) 23 (tRaw) := ⟨Try.t23, _, by kernel_rfl, Try.underlying23, by kernel_rfl, by decide, by kernel_rfl, by kernel_rfl⟩
theorem row24 (q : Nat) : bD Try.prog (cS q) 24 (tRaw) := ⟨Try.t24, _, by kernel_rfl, Try.underlying24, by kernel_rfl, by decide, by kernel_rfl, by kernel_rfl⟩
theorem row25 (q : Nat) : bD Try.prog (cS q) 25 (tChg) := ⟨Try.t25, _, by kernel_rfl, Try.underlying25, by kernel_rfl, by decide, by kernel_rfl, by kernel_rfl⟩
theorem row26 (q : Nat) : bD Try.prog (cS q) 26 (tChg) := ⟨Try.t26, _, by kernel_rfl, Try.underlying26, by kernel_rfl, by decide, by kernel_rfl, by kernel_rfl⟩
theorem row27 (q : Nat) : bD Try.prog (cS q) 27 (.arr 2 tChg) := ⟨Try.t27, _, by kernel_rfl, Try.underlying27, by kernel_rfl, by decide, by kernel_rfl, by kernel_rfl⟩
theorem row29 (q : Nat) : bD Try.prog (cS q) 29 (.slice cG) := ⟨Try.t29, _, by kernel_rfl, Try.underlying29, by kernel_rfl, by decide, by kernel_rfl, by kernel_rfl⟩
theorem row30 (q : Nat) : bD Try.prog (cS q) 30 (.slice bF) := ⟨Try.t30, _, by kernel_rfl, Try.underlying30, by kernel_rfl, by decide, by kernel_rfl, by kernel_rfl⟩
theorem row31 (q : Nat) : bD Try.prog (cS q) 31 (.slice fY) := ⟨Try.t31, _, by kernel_rfl, Try.underlying31, by kernel_rfl, by decide, by kernel_rfl, by kernel_rfl⟩
theorem row32 (q : Nat) : bD Try.prog (cS q) 32 (bT) := ⟨Try.t32, _, by kernel_rfl, Try.underlying32, by kernel_rfl, by decide, by kernel_rfl, by kernel_rfl⟩
theorem row33 (q : Nat) : bD Try.prog (cS q) 33 (bT) := ⟨Try.t33, _, by kernel_rfl, Try.underlying33, by kernel_rfl, by decide, by kernel_rfl, by kernel_rfl⟩
theorem row35 (q : Nat) : bD Try.prog (cS q) 35 (.slice (.slice tI)) := ⟨Try.t35, _, by kernel_rfl, Try.underlying35, by kernel_rfl, by decide, by kernel_rfl, by kernel_rfl⟩
theorem row36 (q : Nat) : bD Try.prog (cS q) 36 (fW) := ⟨Try.t36, _, by kernel_rfl, Try.underlying36, by kernel_rfl, by decide, by kernel_rfl, by kernel_rfl⟩
theorem row37 (q : Nat) : bD Try.prog (cS q) 37 (fW) := ⟨Try.t37, _, by kernel_rfl, Try.underlying37, by kernel_rfl, by decide, by kernel_rfl, by kernel_rfl⟩
theorem row38 (q : Nat) : bD Try.prog (cS q) 38 (tDone) := ⟨Try.t38, _, by kernel_rfl, Try.underlying38, by kernel_rfl, by decide, by kernel_rfl, by kernel_rfl⟩
theorem row39 (q : Nat) : bD Try.prog (cS q) 39 (tDone) := ⟨Try.t39, _, by kernel_rfl, Try.underlying39, by kernel_rfl, by decide, by kernel_rfl, by kernel_rfl⟩
theorem row43 (q : Nat) : bD Try.prog (cS q) 43 (.slice aL) := ⟨Try.t43, _, by kernel_rfl, Try.underlying43, by kernel_rfl, by decide, by kernel_rfl, by kernel_rfl⟩
theorem row44 (q : Nat) : bD Try.prog (cS q) 44 (aQ) := ⟨Try.t44, _, by kernel_rfl, Try.underlying44, by kernel_rfl, by decide, by kernel_rfl, by kernel_rfl⟩
theorem row45 (q : Nat) : bD Try.prog (cS q) 45 (aQ) := ⟨Try.t45, _, by kernel_rfl, Try.underlying45, by kernel_rfl, by decide, by kernel_rfl, by kernel_rfl⟩
theorem row46 (q : Nat) : bD Try.prog (cS q) 46 (.arr 2 tI) := ⟨Try.t46, _, by kernel_rfl, Try.underlying46, by kernel_rfl, by decide, by kernel_rfl, by kernel_rfl⟩
theorem row47 (q : Nat) : bD Try.prog (cS q) 47 (tTerm) := ⟨Try.t47, _, by kernel_rfl, Try.underlying47, by kernel_rfl, by decide, by kernel_rfl, by kernel_rfl⟩
theorem row48 (q : Nat) : bD Try.prog (cS q) 48 (tTerm) := ⟨Try.t48, _, by kernel_rfl, Try.underlying48, by kernel_rfl, by decide, by kernel_rfl, by kernel_rfl⟩
theorem row49 (q : Nat) : bD Try.prog (cS q) 49 (fY) := ⟨Try.t49, _, by kernel_rfl, Try.underlying49, by kernel_rfl, by decide, by kernel_rfl, by kernel_rfl⟩
theorem row50 (q : Nat) : bD Try.prog (cS q) 50 (fY) := ⟨Try.t50, _, by kernel_rfl, Try.underlying50, by kernel_rfl, by decide, by kernel_rfl, by kernel_rfl⟩
theorem row52 (q : Nat) : bD Try.prog (cS q) 52 (aL) := ⟨Try.t52, _, by kernel_rfl, Try.underlying52, by kernel_rfl, by decide, by kernel_rfl, by kernel_rfl⟩
theorem row53 (q : Nat) : bD Try.prog (cS q) 53 (aL) := ⟨Try.t53, _, by kernel_rfl, Try.underlying53, by kernel_rfl, by decide, by kernel_rfl, by kernel_rfl⟩
theorem row55 (q : Nat) : bD Try.prog (cS q) 55 (.slice fW) := ⟨Try.t55, _, by kernel_rfl, Try.underlying55, by kernel_rfl, by decide, by kernel_rfl, by kernel_rfl⟩
theorem row57 (q : Nat) : bD Try.prog (cS q) 57 (tI) := ⟨Try.t57, _, by kernel_rfl, Try.underlying57, by kernel_rfl, by decide, by kernel_rfl, by kernel_rfl⟩
theorem row60 (q : Nat) : bD Try.prog (cS q) 60 (.arr 2 tU8) := ⟨Try.t60, _, by kernel_rfl, Try.underlying60, by kernel_rfl, by decide, by kernel_rfl, by kernel_rfl⟩
theorem row61 (q : Nat) : bD Try.prog (cS q) 61 (.slice tI) := ⟨Try.t61, _, by kernel_rfl, Try.underlying61, by kernel_rfl, by decide, by kernel_rfl, by kernel_rfl⟩
theorem row75 (q : Nat) : bD Try.prog (cS q) 75 (tAcs) := ⟨Try.t75, _, by kernel_rfl, Try.underlying75, by kernel_rfl, by decide, by kernel_rfl, by kernel_rfl⟩
theorem row76 (q : Nat) : bD Try.prog (cS q) 76 (tAcs) := ⟨Try.t76, _, by kernel_rfl, Try.underlying76, by kernel_rfl, by decide, by kernel_rfl, by kernel_rfl⟩
theorem row83 (q : Nat) : bD Try.prog (cS q) 83 (cG) := ⟨Try.t83, _, by kernel_rfl, Try.underlying83, by kernel_rfl, by decide, by kernel_rfl, by kernel_rfl⟩
theorem row84 (q : Nat) : bD Try.prog (cS q) 84 (cG) := ⟨Try.t84, _, by kernel_rfl, Try.underlying84, by kernel_rfl, by decide, by kernel_rfl, by kernel_rfl⟩
theorem row86 (q : Nat) : bD Try.prog (cS q) 86 (bF) := ⟨Try.t86, _, by kernel_rfl, Try.underlying86, by kernel_rfl, by decide, by kernel_rfl, by kernel_rfl⟩
theorem row87 (q : Nat) : bD Try.prog (cS q) 87 (bF) := ⟨Try.t87, _, by kernel_rfl, Try.underlying87, by kernel_rfl, by decide, by kernel_rfl, by kernel_rfl⟩
theorem row92 (q : Nat) : bD Try.prog (cS q) 92 (tMk) := ⟨Try.t92, _, by kernel_rfl, Try.underlying92, by kernel_rfl, by decide, by kernel_rfl, by kernel_rfl⟩
theorem row93 (q : Nat) : bD Try.prog (cS q) 93 (tMk) := ⟨Try.t93, _, by kernel_rfl, Try.underlying93, by kernel_rfl, by decide, by kernel_rfl, by kernel_rfl⟩
theorem row106 (q : Nat) : bD Try.prog (cS q) 106 (.slice (.slice .bool)) := ⟨Try.t106, _, by kernel_rfl, Try.underlying106, by kernel_rfl, by decide, by kernel_rfl, by kernel_rfl⟩
theorem row108 (q : Nat) : bD Try.prog (cS q) 108 (.slice .bool) := ⟨Try.t108, _, by kernel_rfl, Try.underlying108, by kernel_rfl, by decide, by kernel_rfl, by kernel_rfl⟩
theorem row114 (q : Nat) : bD Try.prog (cS q) 114 (.slice aQ) := ⟨Try.t114, _, by kernel_rfl, Try.underlying114, by kernel_rfl, by decide, by kernel_rfl, by kernel_rfl⟩
theorem tysQ_ok (q : Nat) : ∀ T τ, Lf.look (cS q) T = some τ -> bD Try.prog (cS q) T τ := by
 refine rows_all (cS q) ?_
 intro x hx
 simp only [cS, List.mem_cons, List.not_mem_nil, or_false] at hx
 rcases hx with rfl | rfl | rfl | rfl | rfl | rfl | rfl | rfl | rfl | rfl | rfl | rfl | rfl | rfl | rfl | rfl | rfl | rfl | rfl | rfl | rfl | rfl | rfl | rfl | rfl | rfl | rfl | rfl | rfl | rfl | rfl | rfl | rfl | rfl | rfl | rfl | rfl | rfl | rfl | rfl | rfl | rfl | rfl | rfl | rfl | rfl | rfl
 ·exact row2 q
 ·exact row3 q
 ·exact row4 q
 ·exact row5 q
 ·exact row9 q
 ·exact row21 q
 ·exact row22 q
 ·exact row23 q
 ·exact row24 q
 ·exact row25 q
 ·exact row26 q
 ·exact row27 q
 ·exact row29 q
 ·exact row30 q
 ·exact row31 q
 ·exact row32 q
 ·exact row33 q
 ·exact row35 q
 ·exact row36 q
 ·exact row37 q
 ·exact row38 q
 ·exact row39 q
 ·exact row43 q
 ·exact row44 q
 ·exact row45 q
 ·exact row46 q
 ·exact row47 q
 ·exact row48 q
 ·exact row49 q
 ·exact row50 q
 ·exact row52 q
 ·exact row53 q
 ·exact row55 q
 ·exact row57 q
 ·exact row60 q
 ·exact row61 q
 ·exact row75 q
 ·exact row76 q
 ·exact row83 q
 ·exact row84 q
 ·exact row86 q
 ·exact row87 q
 ·exact row92 q
 ·exact row93 q
 ·exact row106 q
 ·exact row108 q
 ·exact row114 q
theorem look_flat (q : Nat) {T : TypeId} {τ : Ty} (h : Lf.look (cS q) T = some τ) (h3 : T = 3 ∨ T = 9 ∨ T = 21) : τ.isAgg = false := by
 rcases h3 with rfl | rfl | rfl
 ·have e : Lf.look (cS q) 3 = some (tI) := by kernel_rfl
  rw [e] at h;injection h with h;rw [<- h]; rfl
 ·have e : Lf.look (cS q) 9 = some (.str) := by kernel_rfl
  rw [e] at h;injection h with h;rw [<- h]; rfl
 ·have e : Lf.look (cS q) 21 = some (.int .i32) := by kernel_rfl
  rw [e] at h;injection h with h;rw [<- h]; rfl
theorem eqs_ok (q : Nat) : ∀ T, T ∈ eqs -> EqRow Try.prog (cS q) eqs T := by
 have key : ∀ fs : List Field, (∀ f ∈ fs, f.name ≠ "_" /\ ((f.type = 3 ∨ f.type = 9 ∨ f.type = 21) ∨ f.type ∈ eqs)) -> ∀ f ∈ fs, f.name ≠ "_" /\ ∀ τ, Lf.look (cS q) f.type = some τ -> τ.isAgg = true -> f.type ∈ eqs := by
  intro fs h f hf;refine ⟨(h f hf).1, fun τ h1 h2 => ?_⟩
  rcases (h f hf).2 with h3 | h3
  ·rw [look_flat q h1 h3] at h2; cases h2
  ·exact h3
 intro T hT
 simp only [eqs, List.mem_cons, List.not_mem_nil, or_false] at hT
 rcases hT with rfl | rfl | rfl | rfl | rfl | rfl
 ·refine ⟨by kernel_rfl, by kernel_rfl, ?_⟩
  rw [Try.underlying45];exact key _ (by decide)
 ·refine ⟨by kernel_rfl, by kernel_rfl, ?_⟩
  rw [Try.underlying46];exact key _ (by decide)
 ·refine ⟨by kernel_rfl, by kernel_rfl, ?_⟩
  rw [Try.underlying48];exact key _ (by decide)
 ·refine ⟨by kernel_rfl, by kernel_rfl, ?_⟩
  rw [Try.underlying53];exact key _ (by decide)
 ·refine ⟨by kernel_rfl, by kernel_rfl, ?_⟩
  rw [Try.underlying84];exact key _ (by decide)
 ·refine ⟨by kernel_rfl, by kernel_rfl, ?_⟩
  rw [Try.underlying87];exact key _ (by decide)
theorem mixed_ok : Try.prog.follows .mixedOrders = true := by kernel_rfl
theorem ctx_okQ {C : Ctx} (q : Nat) (h1 : C.tys = cS q) (h2 : C.eqs = eqs) (h3 : ∀ f s, Lf.look C.fns f = some s -> FOk Try.prog f s)
  (h4 : ∀ f s, Lf.look C.ptrs f = some s -> ∃ o, POk Try.prog f s o /\ ∀ q, o = some q -> C.pin.isSome = true /\ q = C.q) (h5 : ∀ t, C.thk = some t -> TOk Try.prog C.q t) (h6 : ∀ t, C.clo = some t -> ClOk Try.prog t)
  (h7 : ∀ f s, Lf.look C.ins f = some s -> IOk Try.prog f s) (h8 : ∀ t, C.kno = some t -> KnOK Try.prog C.q t) : aF Try.prog C :=
 ⟨by rw [h1]; exact tysQ_ok q, h3, mixed_ok, by rw [h1, h2]; exact eqs_ok q, h4, h5, h6, h7, h8⟩
theorem ins_nil {P : Program} : ∀ f s, Lf.look ([] : List (FuncId × ISpec)) f = some s -> IOk P f s := fun _ _ h => by cases h
theorem eI {P : Program} {C : Ctx} : ∀ f s, Lf.look ([] : List (FuncId × cX)) f = some s -> ∃ o, POk P f s o /\ ∀ q, o = some q -> C.pin.isSome = true /\ q = C.q := fun _ _ h => by cases h
theorem aO {P : Program} : ∀ f s, Lf.look ([] : List (FuncId × bG)) f = some s -> FOk P f s := fun _ _ h => by cases h
theorem aE {P : Program} {g : FuncId} {t : bG} {l : List (FuncId × bG)} (h : FOk P g t) (hl : ∀ f s, Lf.look l f = some s -> FOk P f s) : ∀ f s, Lf.look ((g, t) :: l) f = some s -> FOk P f s := by
 intro f s hs
 simp only [Lf.look] at hs
 cases hb : Nat.beq g f
 ·rw [hb] at hs; exact hl f s hs
 ·rw [hb] at hs
  have := Nat.eq_of_beq_eq_true hb
  simp only [cond_true, Option.some.injEq] at hs;rw [<- this, <- hs]; exact h
theorem b9 {P : Program} {C : Ctx} {g : FuncId} {t : cX} {l : List (FuncId × cX)} (h : POk P g t) (hl : ∀ f s, Lf.look l f = some s -> ∃ o, POk P f s o /\ ∀ q, o = some q -> C.pin.isSome = true /\ q = C.q) :
  ∀ f s, Lf.look ((g, t) :: l) f = some s -> ∃ o, POk P f s o /\ ∀ q, o = some q -> C.pin.isSome = true /\ q = C.q := by
 intro f s hs
 simp only [Lf.look] at hs
 cases hb : Nat.beq g f
 ·rw [hb] at hs; exact hl f s hs
 ·rw [hb] at hs
  have := Nat.eq_of_beq_eq_true hb
  simp only [cond_true, Option.some.injEq] at hs;rw [<- this, <- hs]; exact ⟨none, h, fun q hq => by cases hq⟩
theorem okC {C : Ctx} (h : ∀ f s, Lf.look C.fns f = some s -> FOk Try.prog f s) (h1 : C.tys = cS 0) (h2 : C.eqs = eqs) (h3 : C.ptrs = []) (h4 : C.thk = none) (h5 : C.clo = none) (h6 : C.ins = []) (h7 : C.kno = none) : aF Try.prog C :=
 ctx_okQ 0 h1 h2 h (by rw [h3]; exact eI) (fun _ h => by rw [h4] at h; cases h) (fun _ h => by rw [h5] at h; cases h) (by rw [h6]; exact ins_nil) (fun _ h => by rw [h7] at h; cases h)
def mkC (n : Nat) (fns : List (FuncId × bG)) (g : Nat := 0) : Ctx := { N := n, tys := cS 0, fns := fns, eqs := eqs, glb := g }
theorem okA {n g : Nat} {fns : List (FuncId × bG)} (h : ∀ f s, Lf.look fns f = some s -> FOk Try.prog f s) : aF Try.prog (mkC n fns g) := okC h rfl rfl rfl rfl rfl rfl rfl
theorem lim_eq : lim = 140737488355328 := rfl
theorem maxNew_eq : maxNew = 2147483648 := rfl
theorem inK_of {z : Int} (h1 : -9223372036854775808 <= z) (h2 : z <= 9223372036854775807) : inK .i64 z := ⟨h1, h2⟩
theorem aS {z : Int} (h0 : -1000000000 <= z) (h1 : z <= 1000000000) : inK .i64 z := inK_of (by omega) (by omega)
theorem d9 {i n : Nat} (h : (i : Int) < (n : Int)) (hn : n <= lim) : inK .i64 ((i : Int) + 1) := by rw [lim_eq] at hn; exact inK_of (by omega) (by omega)
theorem bB {i n : Nat} (h : (i : Int) < (n : Int)) : inN (i : Int) n := ⟨by omega, h⟩
end Go.User
namespace Go.Proofs.Ytdcbiadlojcaoaa
theorem Try.own : ownKnob Try.prog.godebug = none := by kernel_rfl
theorem Try.laidOut : laidOutB Try.prog = true := by kernel_rfl
end Go.Proofs.Ytdcbiadlojcaoaa
namespace Go.User
open Go Go.Proofs Go.RowKit Go.Lib Go.Lf
theorem Mk.info4 : (Try.prog.info? 4).map (fun i => (i.zero, i.size, i.bytes)) = some (some (.bool false), 1, 1) := by kernel_rfl
theorem Mk.info108 : (Try.prog.info? 108).map (fun i => (i.zero, i.size, i.bytes)) = some (some (.slice none 0 0), 1, 24) := by kernel_rfl

def Mk.SS (v0 v1 v2 v3 v4 v5 v6 v7 : Value) (b lb lo c r : Nat) (I : Nat -> Nat -> Value) (w' : World) : Prop := w'.cell? ⟨b, 0, none⟩ = some v0 /\ w'.cell? ⟨b, 1, none⟩ = some v1 /\ w'.cell? ⟨b, 2, none⟩ = some v2 /\ w'.cell? ⟨b, 3, none⟩ = some v3 /\ w'.cell? ⟨b, 4, none⟩ = some v4 /\ w'.cell? ⟨b, 5, none⟩ = some v5 /\ w'.cell? ⟨b, 6, none⟩ = some v6 /\ w'.cell? ⟨b, 7, none⟩ = some v7 /\ w'.cell? ⟨lb, lo + c * 15, none⟩ = some (I c 0) /\ w'.cell? ⟨lb, lo + c * 15 + 1, none⟩ = some (I c 1) /\ w'.cell? ⟨lb, lo + c * 15 + 2, none⟩ = some (I c 2) /\ w'.cell? ⟨lb, lo + c * 15 + 3, none⟩ = some (I c 3) /\ w'.cell? ⟨lb, lo + c * 15 + 4, none⟩ = some (I c 4) /\ w'.cell? ⟨lb, lo + c * 15 + 5, none⟩ = some (I c 5) /\ w'.cell? ⟨lb, lo + c * 15 + 6, none⟩ = some (I c 6) /\ w'.cell? ⟨lb, lo + c * 15 + 7, none⟩ = some (I c 7) /\ w'.cell? ⟨lb, lo + c * 15 + 8, none⟩ = some (I c 8) /\ w'.cell? ⟨lb, lo + c * 15 + 9, none⟩ = some (I c 9) /\ w'.cell? ⟨lb, lo + c * 15 + 10, none⟩ = some (I c 10) /\ w'.cell? ⟨lb, lo + c * 15 + 11, none⟩ = some (I c 11) /\ w'.cell? ⟨lb, lo + c * 15 + 12, none⟩ = some (I c 12) /\ w'.cell? ⟨lb, lo + c * 15 + 13, none⟩ = some (I c 13) /\ w'.cell? ⟨lb, lo + c * 15 + 14, none⟩ = some (I c 14) /\ w'.cell? ⟨lb, lo + r * 15, none⟩ = some (I r 0) /\ w'.cell? ⟨lb, lo + r * 15 + 1, none⟩ = some (I r 1) /\ w'.cell? ⟨lb, lo + r * 15 + 2, none⟩ = some (I r 2) /\ w'.cell? ⟨lb, lo + r * 15 + 3, none⟩ = some (I r 3) /\ w'.cell? ⟨lb, lo + r * 15 + 4, none⟩ = some (I r 4) /\ w'.cell? ⟨lb, lo + r * 15 + 5, none⟩ = some (I r 5) /\ w'.cell? ⟨lb, lo + r * 15 + 6, none⟩ = some (I r 6) /\ w'.cell? ⟨lb, lo + r * 15 + 7, none⟩ = some (I r 7) /\ w'.cell? ⟨lb, lo + r * 15 + 8, none⟩ = some (I r 8) /\ w'.cell? ⟨lb, lo + r * 15 + 9, none⟩ = some (I r 9) /\ w'.cell? ⟨lb, lo + r * 15 + 10, none⟩ = some (I r 10) /\ w'.cell? ⟨lb, lo + r * 15 + 11, none⟩ = some (I r 11) /\ w'.cell? ⟨lb, lo + r * 15 + 12, none⟩ = some (I r 12) /\ w'.cell? ⟨lb, lo + r * 15 + 13, none⟩ = some (I r 13) /\ w'.cell? ⟨lb, lo + r * 15 + 14, none⟩ = some (I r 14)
theorem Mk.newc (W : World) (d : Value) : ∀ (j : Nat) u, [d][j]? = some u -> (W.alloc (.cells #[d] 4)).cell? ((⟨W.heap.size, 0, none⟩ : Addr).add j) = some u := by
 intro j u hj
 cases j with
 | zero =>
  simp at hj
  subst hj;have h := (World.rowIs_alloc W #[d] 4 (fun _ => d) (fun i hi => by (obtain rfl : i = 0 := by simpa using hi); rfl)).cell (i := 0) (by simp)
  exact h
 | succ j => simp at hj
def Mk.long (n : Nat) (D : Nat -> Nat -> Bool) (i j : Nat) : Nat -> Value := fun p => .bool (if p / n < i /\ p % n < p / n ∨ p / n = i /\ p % n < j then D (p % n) (p / n) else false)
def Mk.top (A n : Nat) (i : Nat) (last : Nat -> Value) : Nat -> Value := fun r => if r < i then .slice (some ⟨A, r * n, none⟩) r n else last r
structure Mk.St (w wr : World) (n : Nat) (D : Nat -> Nat -> Bool) (v : Nat -> Value) (i j : Nat) (f : Nat -> Value) : Prop where
 since : w.Since w.heap.size wr
 size : w.heap.size + 3 <= wr.heap.size
 box : wr.rowIs w.heap.size 33 8 v
 long : wr.rowIs (w.heap.size + 1) 4 (n * n) (Mk.long n D i j)
 top : wr.rowIs (w.heap.size + 1 + 1) 108 n f
theorem Mk.St.bel {w wr W : World} {n : Nat} {D : Nat -> Nat -> Bool} {v : Nat -> Value} {i j : Nat} {f : Nat -> Value} (h : Mk.St w wr n D v i j f) (hB : Below wr.heap.size wr W) : Mk.St w W n D v i j f := by
 have hs := h.size
 exact ⟨⟨hB.os.trans h.since.os, hB.tape.trans h.since.tape, hB.output.trans h.since.output, Nat.le_trans h.since.size hB.size, fun k hk => (hB.block k (by omega)).trans (h.since.block k hk)⟩, Nat.le_trans hs hB.size,
  h.box.of_block (hB.block _ (by omega)), h.long.of_block (hB.block _ (by omega)), h.top.of_block (hB.block _ (by omega))⟩
theorem Mk.St.al {w W : World} {n : Nat} {D : Nat -> Nat -> Bool} {v : Nat -> Value} {i j : Nat} {f : Nat -> Value} (h : Mk.St w W n D v i j f) (o : Obj) : Mk.St w (W.alloc o) n D v i j f := by
 have hs := h.size
 exact ⟨h.since.alloc (by omega) o, by simp; omega, h.box.alloc o, h.long.alloc o, h.top.alloc o⟩
theorem Mk.St.congr {w W : World} {n : Nat} {D : Nat -> Nat -> Bool} {v : Nat -> Value} {i j : Nat} {f g : Nat -> Value} (h : Mk.St w W n D v i j f) (e : ∀ k, k < n -> f k = g k) : Mk.St w W n D v i j g :=
 ⟨h.since, h.size, h.box, h.long, h.top.congr e⟩
theorem Mk.St.tp {w W : World} {n : Nat} {D : Nat -> Nat -> Bool} {v : Nat -> Value} {i j : Nat} {f : Nat -> Value} (h : Mk.St w W n D v i j f) (r : Nat) (x : Value) : Mk.St w (W.setCell ⟨w.heap.size + 1 + 1, r, none⟩ x) n D v i j (fun k => if k = r then x else f k) := by
 have hs := h.size
 exact ⟨h.since.setCell (by show w.heap.size <= w.heap.size + 1 + 1; omega) x, by simpa [World.setCell] using hs, h.box.setOther (by show w.heap.size ≠ w.heap.size + 1 + 1; omega) x, h.long.setOther (by show w.heap.size + 1 ≠ w.heap.size + 1 + 1; omega) x, h.top.set r x⟩
theorem Mk.div {n r c : Nat} (h : c < n) : (r * n + c) / n = r /\ (r * n + c) % n = c := by
 have hn : 0 < n := by omega
 constructor
 ·rw [Nat.mul_comm, Nat.mul_add_div hn, Nat.div_eq_of_lt h, Nat.add_zero]
 ·rw [Nat.mul_comm, Nat.mul_add_mod, Nat.mod_eq_of_lt h]
theorem Mk.St.ap {w W : World} {n : Nat} {D : Nat -> Nat -> Bool} {v : Nat -> Value} {r c : Nat} {f : Nat -> Value} (h : Mk.St w W n D v r c f) (hc : c < r) (hr : r < n) : Mk.St w (W.setCells (w.heap.size + 1) (r * n + c) [.bool (D c r)]) n D v r (c + 1) f := by
 have hs := h.size
 show Mk.St w (W.setCell ⟨w.heap.size + 1, r * n + c, none⟩ (.bool (D c r))) n D v r (c + 1) f
 refine ⟨h.since.setCell (by show w.heap.size <= w.heap.size + 1; omega) _, by simpa [World.setCell] using hs, h.box.setOther (by show w.heap.size ≠ w.heap.size + 1; omega) _, (h.long.set _ _).congr (fun p hp => ?_), h.top.setOther (by show w.heap.size + 1 + 1 ≠ w.heap.size + 1; omega) _⟩
 obtain ⟨d1, d2⟩ := Mk.div (n := n) (r := r) (c := c) (by omega)
 have hpn : p = p / n * n + p % n := (Nat.div_add_mod' p n).symm
 by_cases hpe : p = r * n + c
 ·rw [if_pos hpe, hpe]
  unfold Mk.long;rw [d1, d2, if_pos (.inr ⟨rfl, Nat.lt_succ_self c⟩)]
 ·rw [if_neg hpe]
  unfold Mk.long
  congr 1
  by_cases h1 : p / n < r /\ p % n < p / n ∨ p / n = r /\ p % n < c
  ·rw [if_pos h1, if_pos (h1.imp id fun h => ⟨h.1, Nat.lt_succ_of_lt h.2⟩)]
  ·rw [if_neg h1, if_neg]
   rintro (h2 | ⟨h2, h3⟩)
   ·exact h1 (.inl h2)
   ·rcases Nat.lt_succ_iff_lt_or_eq.1 h3 with h4 | h4
    ·exact h1 (.inr ⟨h2, h4⟩)
    ·exact hpe (by rw [hpn, h2, h4])
theorem Mk.St.next {w W : World} {n : Nat} {D : Nat -> Nat -> Bool} {v : Nat -> Value} {r : Nat} {f : Nat -> Value} (h : Mk.St w W n D v r r f) : Mk.St w W n D v (r + 1) 0 f := by
 refine ⟨h.since, h.size, h.box, h.long.congr (fun p hp => ?_), h.top⟩
 unfold Mk.long
 congr 1
 by_cases h1 : p / n < r /\ p % n < p / n ∨ p / n = r /\ p % n < r
 ·rw [if_pos h1, if_pos]
  rcases h1 with h1 | h1
  ·exact .inl ⟨by omega, h1.2⟩
  ·exact .inl ⟨by omega, by omega⟩
 ·rw [if_neg h1, if_neg]
  rintro (h2 | h2)
  ·rcases Nat.lt_succ_iff_lt_or_eq.1 h2.1 with h3 | h3
   ·exact h1 (.inl ⟨h3, h2.2⟩)
   ·exact h1 (.inr ⟨h3, by omega⟩)
  ·omega
theorem Mk.start (w : World) (n : Nat) (D : Nat -> Nat -> Bool) (v0 v1 v2 v3 v4 v5 v6 v7 : Value) : Mk.St w (((w.alloc (.cells #[v0, v1, v2, v3, v4, v5, v6, v7] 33)).alloc (.cells (madeCells #[.bool false] (n * n)) 4)).alloc (.cells (madeCells #[.slice none 0 0] n) 108)) n D (fun k => #[v0, v1, v2, v3, v4, v5, v6, v7].getD k undef) 0 0 (Mk.top (w.heap.size + 1) n 0 (fun _ => .slice none 0 0)) := by
 have h1 := World.rowIs_alloc w #[v0, v1, v2, v3, v4, v5, v6, v7] 33 (fun k => #[v0, v1, v2, v3, v4, v5, v6, v7].getD k undef) (fun i hi => by
  have h8 : i < 8 := hi
  rcases i with _ | _ | _ | _ | _ | _ | _ | _ | i <;> first | rfl | omega)
 have h2 := World.rowIs_made (w.alloc (.cells #[v0, v1, v2, v3, v4, v5, v6, v7] 33)) (.bool false) (n * n) 4
 have h3 := World.rowIs_made ((w.alloc (.cells #[v0, v1, v2, v3, v4, v5, v6, v7] 33)).alloc (.cells (madeCells #[.bool false] (n * n)) 4)) (.slice none 0 0) n 108
 have z1 : (w.alloc (.cells #[v0, v1, v2, v3, v4, v5, v6, v7] 33)).heap.size = w.heap.size + 1 := by simp
 have z2 : ((w.alloc (.cells #[v0, v1, v2, v3, v4, v5, v6, v7] 33)).alloc (.cells (madeCells #[.bool false] (n * n)) 4)).heap.size = w.heap.size + 1 + 1 := by simp
 rw [z1] at h2
 rw [z2] at h3
 refine ⟨(((World.Since.refl _ w).alloc (Nat.le_refl _) _).alloc (by omega) _).alloc (by omega) _, by simp, (h1.alloc _).alloc _, (h2.alloc _).congr (fun p _ => ?_), h3.congr (fun r _ => ?_)⟩
 ·unfold Mk.long
  rw [if_neg (by omega)]
 ·unfold Mk.top; dsimp only
  rw [if_neg (Nat.not_lt_zero r)]
set_option maxHeartbeats 8000000 in
set_option maxRecDepth 1000000 in
theorem Mk.walk (v0 v1 v2 v3 v4 v5 v6 v7 : Value) (la : Option Addr) (lb lo n cap : Nat) (I : Nat -> Nat -> Value) (D : Nat -> Nat -> Bool) (w : World) (hla : 0 < n -> la = some ⟨lb, lo, none⟩) (hn : n <= 3000)
  (hI : ∀ j, j < n -> ∀ k, k < 15 -> w.cell? ⟨lb, lo + j * 15 + k, none⟩ = some (I j k))
  (hD : ∀ (W : World), w.Since w.heap.size W -> ∀ i j, i < n -> j < n -> Calls Try.prog 14 #[.agg #[v0, v1, v2, v3, v4, v5, v6, v7], .agg #[I j 0, I j 1, I j 2, I j 3, I j 4, I j 5, I j 6, I j 7, I j 8, I j 9, I j 10, I j 11, I j 12, I j 13, I j 14], .agg #[I i 0, I i 1, I i 2, I i 3, I i 4, I i 5, I i 6, I i 7, I i 8, I i 9, I i 10, I i 11, I i 12, I i 13, I i 14]] W fun e W' => e = .returned (.bool (D j i)) /\ Below W.heap.size W W') :
  Calls Try.prog 65 #[.agg #[v0, v1, v2, v3, v4, v5, v6, v7], .slice la n cap] w fun e w' => e = .returned (.slice (some ⟨w.heap.size + 1 + 1, 0, none⟩) n n) /\ ∃ v f, Mk.St w w' n D v n 0 f /\ ∀ r, r < n -> f r = .slice (some ⟨w.heap.size + 1, r * n, none⟩) r n := by
 obtain ⟨m, hm⟩ : ∃ m, m = n * n := ⟨_, rfl⟩
 have hnn : m <= 9000000 := by rw [hm]; exact Nat.mul_le_mul hn hn
 have hk2 : IntKind.wrap .i64 ((n : Int) * (n : Int)) = (m : Int) := by
  have e : ((n : Int) * (n : Int)) = (m : Int) := by rw [hm]; simp
  rw [e]; exact cP (aS (by omega) (by omega))
 have hm1 := run_make_row' (P := Try.prog) 108 4 (.bool false) 1 Try.underlying108 Mk.info4 rfl .i64 .i64 m (by omega) (by omega)
 have hm2 := run_make_row' (P := Try.prog) 106 108 (.slice none 0 0) 24 Try.underlying106 Mk.info108 rfl .i64 .i64 n (by omega) (by omega)
 go_enter Try.func65, Try.ntmps65
 have HM : Aside (m = n * n) := hm
 have HI : Aside (∀ j, j < n -> ∀ k, k < 15 -> w.cell? ⟨lb, lo + j * 15 + k, none⟩ = some (I j k)) := hI
 have HD : Aside (∀ (W : World), w.Since w.heap.size W -> ∀ i j, i < n -> j < n -> Calls Try.prog 14 #[.agg #[v0, v1, v2, v3, v4, v5, v6, v7], .agg #[I j 0, I j 1, I j 2, I j 3, I j 4, I j 5, I j 6, I j 7, I j 8, I j 9, I j 10, I j 11, I j 12, I j 13, I j 14], .agg #[I i 0, I i 1, I i 2, I i 3, I i 4, I i 5, I i 6, I i 7, I i 8, I i 9, I i 10, I i 11, I i 12, I i 13, I i 14]] W fun e W' => e = .returned (.bool (D j i)) /\ Below W.heap.size W W') := hD
 clear hm hI hD
 go_wp2
 have hS0 := Mk.start w n D v0 v1 v2 v3 v4 v5 v6 v7
 rw [<- HM.out] at hS0
 clear hm1 hm2
 go_loopg [20] n (fun g i wr => ∃ r : Nat, r <= n /\ g = n - r /\ i = .int .i64 r /\ Mk.St w wr n D (fun k => #[v0, v1, v2, v3, v4, v5, v6, v7].getD k undef) r 0 (Mk.top (w.heap.size + 1) n r (fun _ => .slice none 0 0)))
 case atStart => exact ⟨0, Nat.zero_le _, rfl, rfl, hS0⟩
 case round =>
  obtain ⟨r, hr, rfl, rfl, hO⟩ := hrel;by_cases hrn : r < n
  ·obtain rfl := hla (by omega)
   have hrz : (r : Int) < (n : Int) := by omega
   obtain ⟨p, hp⟩ : ∃ p, p = r * n := ⟨_, rfl⟩;have hpm : p + n <= m := by
    rw [HM.out, hp];have := Nat.mul_le_mul_right n (show r + 1 <= n by omega)
    rw [Nat.succ_mul] at this;exact this
   have hk3 : IntKind.wrap .i64 ((r : Int) * (n : Int)) = (p : Int) := by
    have e : ((r : Int) * (n : Int)) = (p : Int) := by rw [hp]; simp
    rw [e]; exact cP (aS (by omega) (by omega))
   have hst1 : wr.cell? ⟨w.heap.size + 1 + 1, r, none⟩ = some (.slice none 0 0) := by
    rw [hO.top.cell hrn];unfold Mk.top; dsimp only;rw [if_neg (Nat.lt_irrefl r)]
   have hst2 : wr.frozen? ⟨w.heap.size + 1 + 1, r, none⟩ = false := hO.top.frozen r
   clear hS0 hk2
   go_wp2
   have hI0 : Mk.St w (wr.setCell ⟨w.heap.size + 1 + 1, r, none⟩ (.slice (some ⟨w.heap.size + 1, r * n, none⟩) 0 n)) n D (fun k => #[v0, v1, v2, v3, v4, v5, v6, v7].getD k undef) r 0 (Mk.top (w.heap.size + 1) n r (fun x => if x = r then .slice (some ⟨w.heap.size + 1, r * n, none⟩) 0 n else .slice none 0 0)) := (hO.tp r _).congr (fun k _ => by
    unfold Mk.top; dsimp only;by_cases hk : k = r
    ·rw [if_pos hk, if_neg (by omega), if_pos hk]
    ·rw [if_neg hk]
     by_cases hk2 : k < r
     ·rw [if_pos hk2, if_pos hk2]
     ·rw [if_neg hk2, if_neg hk2, if_neg hk])
   clear hst1 hst2 hO hk3
   go_loopg [40] r (fun g i wi => ∃ c : Nat, c <= r /\ g = r - c /\ i = .int .i64 c /\ Mk.St w wi n D (fun k => #[v0, v1, v2, v3, v4, v5, v6, v7].getD k undef) r c (Mk.top (w.heap.size + 1) n r (fun x => if x = r then .slice (some ⟨w.heap.size + 1, r * n, none⟩) c n else .slice none 0 0)))
   case atStart => exact ⟨0, Nat.zero_le _, rfl, rfl, hI0⟩
   case round =>
    obtain ⟨c, hc, rfl, rfl, hS⟩ := hrel;clear hI0;by_cases hcr : c < r
    ·have hcz : (c : Int) < (r : Int) := by omega
     have hlb : ∀ j, j < n -> ∀ k, k < 15 -> ∀ W : World, w.Since w.heap.size W -> W.cell? ⟨lb, lo + j * 15 + k, none⟩ = some (I j k) := fun j hj k hk W hW => (hW.cell (a := ⟨lb, lo + j * 15 + k, none⟩) (World.block_lt_of_cell? _ _ (HI.out j hj k hk))).trans (HI.out j hj k hk)
     have hcn' : c < n := by omega
     have t1 : ∀ (W : World) i j, Mk.St w W n D (fun k => #[v0, v1, v2, v3, v4, v5, v6, v7].getD k undef) i j (Mk.top (w.heap.size + 1) n r (fun x => if x = r then .slice (some ⟨w.heap.size + 1, r * n, none⟩) c n else .slice none 0 0)) -> W.cell? ⟨w.heap.size + 1 + 1, r, none⟩ = some (.slice (some ⟨w.heap.size + 1, r * n, none⟩) c n) := fun W i j h => by
      rw [h.top.cell hrn];unfold Mk.top; dsimp only;rw [if_neg (Nat.lt_irrefl r), if_pos rfl]
     have hF : ∀ (W : World) i j f, Mk.St w W n D (fun k => #[v0, v1, v2, v3, v4, v5, v6, v7].getD k undef) i j f -> (Mk.SS v0 v1 v2 v3 v4 v5 v6 v7 w.heap.size lb lo c r I) W := fun W i j f h =>
      ⟨h.box.cell (i := 0) (by decide), h.box.cell (i := 1) (by decide), h.box.cell (i := 2) (by decide), h.box.cell (i := 3) (by decide), h.box.cell (i := 4) (by decide), h.box.cell (i := 5) (by decide), h.box.cell (i := 6) (by decide), h.box.cell (i := 7) (by decide),
       hlb c hcn' 0 (by decide) W h.since, hlb c hcn' 1 (by decide) W h.since, hlb c hcn' 2 (by decide) W h.since, hlb c hcn' 3 (by decide) W h.since, hlb c hcn' 4 (by decide) W h.since, hlb c hcn' 5 (by decide) W h.since, hlb c hcn' 6 (by decide) W h.since, hlb c hcn' 7 (by decide) W h.since, hlb c hcn' 8 (by decide) W h.since, hlb c hcn' 9 (by decide) W h.since, hlb c hcn' 10 (by decide) W h.since, hlb c hcn' 11 (by decide) W h.since, hlb c hcn' 12 (by decide) W h.since, hlb c hcn' 13 (by decide) W h.since, hlb c hcn' 14 (by decide) W h.since, hlb r hrn 0 (by decide) W h.since, hlb r hrn 1 (by decide) W h.since, hlb r hrn 2 (by decide) W h.since, hlb r hrn 3 (by decide) W h.since, hlb r hrn 4 (by decide) W h.since, hlb r hrn 5 (by decide) W h.since, hlb r hrn 6 (by decide) W h.since, hlb r hrn 7 (by decide) W h.since, hlb r hrn 8 (by decide) W h.since, hlb r hrn 9 (by decide) W h.since, hlb r hrn 10 (by decide) W h.since, hlb r hrn 11 (by decide) W h.since, hlb r hrn 12 (by decide) W h.since, hlb r hrn 13 (by decide) W h.since, hlb r hrn 14 (by decide) W h.since⟩
     have t0 := t1 _ _ _ hS
     have f0 := hF _ _ _ _ hS
     go_wp2_with fail
     have hcn : (c : Int) < (n : Int) := by omega
     have hcall : ∀ W : World, Below wr.heap.size wr W -> Calls Try.prog 14 #[.agg #[v0, v1, v2, v3, v4, v5, v6, v7], .agg #[I c 0, I c 1, I c 2, I c 3, I c 4, I c 5, I c 6, I c 7, I c 8, I c 9, I c 10, I c 11, I c 12, I c 13, I c 14], .agg #[I r 0, I r 1, I r 2, I r 3, I r 4, I r 5, I r 6, I r 7, I r 8, I r 9, I r 10, I r 11, I r 12, I r 13, I r 14]] W fun e W' => e = .returned (.bool (D c r)) /\ Below wr.heap.size wr W' := fun W hB =>
      (HD.out W (hS.bel hB).since r c hrn hcn').mono fun e W' h => ⟨h.1, hB.trans (h.2.mono hB.size)⟩
     have hx1 : ∀ W : World, Below wr.heap.size wr W -> W.cell? ⟨w.heap.size + 1 + 1, r, none⟩ = some (.slice (some ⟨w.heap.size + 1, r * n, none⟩) c n) := fun W hB => t1 _ _ _ (hS.bel hB)
     have hx2 : ∀ W : World, Below wr.heap.size wr W -> ∀ o, (W.alloc o).cell? ⟨w.heap.size + 1 + 1, r, none⟩ = some (.slice (some ⟨w.heap.size + 1, r * n, none⟩) c n) := fun W hB o => t1 _ _ _ ((hS.bel hB).al o)
     have hx3 : ∀ W : World, Below wr.heap.size wr W -> ∀ o, ((W.alloc o).setCells (w.heap.size + 1) (r * n + c) [.bool (D c r)]).cell? ⟨w.heap.size + 1 + 1, r, none⟩ = some (.slice (some ⟨w.heap.size + 1, r * n, none⟩) c n) := fun W hB o => t1 _ _ _ (((hS.bel hB).al o).ap hcr hrn)
     have hx4 : ∀ W : World, Below wr.heap.size wr W -> ∀ o, ((W.alloc o).setCells (w.heap.size + 1) (r * n + c) [.bool (D c r)]).frozen? ⟨w.heap.size + 1 + 1, r, none⟩ = false := fun W hB o => (((hS.bel hB).al o).ap hcr hrn).top.frozen r
     have hx5 : ∀ W : World, Below wr.heap.size wr W -> ∀ o, ∀ j, j < 1 -> ((W.alloc o).cell? ⟨w.heap.size + 1, r * n + c * 1 + j, none⟩).isSome = true /\ (W.alloc o).frozen? ⟨w.heap.size + 1, r * n + c * 1 + j, none⟩ = false := fun W hB o j hj => by
      have h := (hS.bel hB).al o
      have hlt : r * n + c * 1 + j < n * n := by rw [<- HM.out]; omega
      exact ⟨by rw [h.long.cell hlt]; rfl, h.long.frozen _⟩
     have hend : ∀ W : World, Below wr.heap.size wr W -> ∀ o, Mk.St w (((W.alloc o).setCells (w.heap.size + 1) (r * n + c) [.bool (D c r)]).setCell ⟨w.heap.size + 1 + 1, r, none⟩ (.slice (some ⟨w.heap.size + 1, r * n, none⟩) (c + 1) n)) n D (fun k => #[v0, v1, v2, v3, v4, v5, v6, v7].getD k undef) r (c + 1) (Mk.top (w.heap.size + 1) n r (fun x => if x = r then .slice (some ⟨w.heap.size + 1, r * n, none⟩) (c + 1) n else .slice none 0 0)) := fun W hB o =>
      ((((hS.bel hB).al o).ap hcr hrn).tp r _).congr (fun k _ => by
       unfold Mk.top; dsimp only;by_cases hk : k = r
       ·rw [if_pos hk, if_neg (by omega), if_pos hk]
       ·rw [if_neg hk]
        by_cases hk2 : k < r
        ·rw [if_pos hk2, if_pos hk2]
        ·rw [if_neg hk2, if_neg hk2, if_neg hk, if_neg hk])
     have hf1 : (Mk.SS v0 v1 v2 v3 v4 v5 v6 v7 w.heap.size lb lo c r I) wr := f0
     have hf2 : ∀ W : World, Below wr.heap.size wr W -> (Mk.SS v0 v1 v2 v3 v4 v5 v6 v7 w.heap.size lb lo c r I) W := fun W hB => hF _ _ _ _ (hS.bel hB)
     have hf3 : ∀ W : World, Below wr.heap.size wr W -> ∀ o, (Mk.SS v0 v1 v2 v3 v4 v5 v6 v7 w.heap.size lb lo c r I) (W.alloc o) := fun W hB o => hF _ _ _ _ ((hS.bel hB).al o)
     have hf4 : ∀ W : World, Below wr.heap.size wr W -> ∀ o, (Mk.SS v0 v1 v2 v3 v4 v5 v6 v7 w.heap.size lb lo c r I) ((W.alloc o).setCells (w.heap.size + 1) (r * n + c) [.bool (D c r)]) := fun W hB o => hF _ _ _ _ (((hS.bel hB).al o).ap hcr hrn)
     have hf4b : ∀ W : World, Below wr.heap.size wr W -> ∀ o, (Mk.SS v0 v1 v2 v3 v4 v5 v6 v7 w.heap.size lb lo c r I) ((W.alloc o).setCells (w.heap.size + 1) (r * n + c * 1) [.bool (D c r)]) := by
      rw [Nat.mul_one]; exact hf4
     have hf5 : ∀ W : World, Below wr.heap.size wr W -> ∀ o v, (Mk.SS v0 v1 v2 v3 v4 v5 v6 v7 w.heap.size lb lo c r I) (((W.alloc o).setCells (w.heap.size + 1) (r * n + c) [.bool (D c r)]).setCell ⟨w.heap.size + 1 + 1, r, none⟩ v) := fun W hB o v => hF _ _ _ _ ((((hS.bel hB).al o).ap hcr hrn).tp r v)
     have hf5b : ∀ W : World, Below wr.heap.size wr W -> ∀ o v, (Mk.SS v0 v1 v2 v3 v4 v5 v6 v7 w.heap.size lb lo c r I) (((W.alloc o).setCells (w.heap.size + 1) (r * n + c * 1) [.bool (D c r)]).setCell ⟨w.heap.size + 1 + 1, r, none⟩ v) := by
      rw [Nat.mul_one]; exact hf5
     obtain ⟨ti, hti, hz1⟩ : ∃ ti, Try.prog.info? 4 = some ti /\ ti.size = 1 := ⟨_, rfl, rfl⟩;clear hS hla hnn hcr hc t1 hF hlb f0 hcn';refine wp_region_noPanic ?_
     refine wp_region_held_drew (S := (fun w' : World => w'.cell? ⟨w.heap.size, 0, none⟩ = some v0 /\ w'.cell? ⟨w.heap.size, 1, none⟩ = some v1 /\ w'.cell? ⟨w.heap.size, 2, none⟩ = some v2 /\ w'.cell? ⟨w.heap.size, 3, none⟩ = some v3 /\ w'.cell? ⟨w.heap.size, 4, none⟩ = some v4 /\ w'.cell? ⟨w.heap.size, 5, none⟩ = some v5 /\ w'.cell? ⟨w.heap.size, 6, none⟩ = some v6 /\ w'.cell? ⟨w.heap.size, 7, none⟩ = some v7 /\ w'.cell? ⟨lb, lo + c * 15, none⟩ = some (I c 0) /\ w'.cell? ⟨lb, lo + c * 15 + 1, none⟩ = some (I c 1) /\ w'.cell? ⟨lb, lo + c * 15 + 2, none⟩ = some (I c 2) /\ w'.cell? ⟨lb, lo + c * 15 + 3, none⟩ = some (I c 3) /\ w'.cell? ⟨lb, lo + c * 15 + 4, none⟩ = some (I c 4) /\ w'.cell? ⟨lb, lo + c * 15 + 5, none⟩ = some (I c 5) /\ w'.cell? ⟨lb, lo + c * 15 + 6, none⟩ = some (I c 6) /\ w'.cell? ⟨lb, lo + c * 15 + 7, none⟩ = some (I c 7) /\ w'.cell? ⟨lb, lo + c * 15 + 8, none⟩ = some (I c 8) /\ w'.cell? ⟨lb, lo + c * 15 + 9, none⟩ = some (I c 9) /\ w'.cell? ⟨lb, lo + c * 15 + 10, none⟩ = some (I c 10) /\ w'.cell? ⟨lb, lo + c * 15 + 11, none⟩ = some (I c 11) /\ w'.cell? ⟨lb, lo + c * 15 + 12, none⟩ = some (I c 12) /\ w'.cell? ⟨lb, lo + c * 15 + 13, none⟩ = some (I c 13) /\ w'.cell? ⟨lb, lo + c * 15 + 14, none⟩ = some (I c 14) /\ w'.cell? ⟨lb, lo + r * 15, none⟩ = some (I r 0) /\ w'.cell? ⟨lb, lo + r * 15 + 1, none⟩ = some (I r 1) /\ w'.cell? ⟨lb, lo + r * 15 + 2, none⟩ = some (I r 2) /\ w'.cell? ⟨lb, lo + r * 15 + 3, none⟩ = some (I r 3) /\ w'.cell? ⟨lb, lo + r * 15 + 4, none⟩ = some (I r 4) /\ w'.cell? ⟨lb, lo + r * 15 + 5, none⟩ = some (I r 5) /\ w'.cell? ⟨lb, lo + r * 15 + 6, none⟩ = some (I r 6) /\ w'.cell? ⟨lb, lo + r * 15 + 7, none⟩ = some (I r 7) /\ w'.cell? ⟨lb, lo + r * 15 + 8, none⟩ = some (I r 8) /\ w'.cell? ⟨lb, lo + r * 15 + 9, none⟩ = some (I r 9) /\ w'.cell? ⟨lb, lo + r * 15 + 10, none⟩ = some (I r 10) /\ w'.cell? ⟨lb, lo + r * 15 + 11, none⟩ = some (I r 11) /\ w'.cell? ⟨lb, lo + r * 15 + 12, none⟩ = some (I r 12) /\ w'.cell? ⟨lb, lo + r * 15 + 13, none⟩ = some (I r 13) /\ w'.cell? ⟨lb, lo + r * 15 + 14, none⟩ = some (I r 14))) (by kernel_rfl) ?_ (fun hHeld => ?_)
     ·try dsimp only
      first | exact hf1 | exact hf2 _ (by assumption) | exact hf3 _ (by assumption) _ | exact hf4 _ (by assumption) _ | exact hf5 _ (by assumption) _ _ | exact hf4b _ (by assumption) _ | exact hf5b _ (by assumption) _ _
     refine wpAnyH_take (i := 0) (v := ?_) rfl (by kernel_rfl) (by kernel_rfl) (by kernel_rfl) (fun _ _ _ h => h) (Or.inl ⟨by rfl, ?_⟩) (by assumption) ?_
     rotate_left
     ·intro w1 hSw
      try dsimp only at hSw
      go_simp
      try with_reducible rfl
     try simp only [Act.put, List.setIfInBounds_toArray, List.set_cons_zero, List.set_cons_succ]
     refine wpAnyH_take (i := 1) (v := ?_) rfl (by kernel_rfl) (by kernel_rfl) (by kernel_rfl) (fun _ _ _ h => h) (Or.inl ⟨by rfl, ?_⟩) (by assumption) ?_
     rotate_left
     ·intro w1 hSw
      try dsimp only at hSw
      go_simp
      try with_reducible rfl
     try simp only [Act.put, List.setIfInBounds_toArray, List.set_cons_zero, List.set_cons_succ]
     refine wpAnyH_take (i := 2) (v := ?_) rfl (by kernel_rfl) (by kernel_rfl) (by kernel_rfl) (fun _ _ _ h => h) (Or.inl ⟨by rfl, ?_⟩) (by assumption) ?_
     rotate_left
     ·intro w1 hSw
      try dsimp only at hSw
      go_simp
      try with_reducible rfl
     try simp only [Act.put, List.setIfInBounds_toArray, List.set_cons_zero, List.set_cons_succ]
     refine wpAnyH_take (i := 3) (v := ?_) rfl (by kernel_rfl) (by kernel_rfl) (by kernel_rfl) (fun _ _ _ h => h) (Or.inl ⟨by rfl, ?_⟩) (by assumption) ?_
     rotate_left
     ·intro w1 hSw
      try dsimp only at hSw
      go_simp
      try with_reducible rfl
     try simp only [Act.put, List.setIfInBounds_toArray, List.set_cons_zero, List.set_cons_succ]
     refine wpAnyH_take (i := 4) (v := ?_) rfl (by kernel_rfl) (by kernel_rfl) (by kernel_rfl) (fun _ _ _ h => h) (Or.inl ⟨by rfl, ?_⟩) (by assumption) ?_
     rotate_left
     ·intro w1 hSw
      try dsimp only at hSw
      go_simp
      try with_reducible rfl
     try simp only [Act.put, List.setIfInBounds_toArray, List.set_cons_zero, List.set_cons_succ]
     refine wpAnyH_take (i := 6) (v := ?_) rfl (by kernel_rfl) (by kernel_rfl) (by kernel_rfl) (fun _ _ _ h => h) (Or.inl ⟨by rfl, ?_⟩) (by assumption) ?_
     rotate_left
     ·intro w1 hSw
      try dsimp only at hSw
      go_simp
      try with_reducible rfl
     try simp only [Act.put, List.setIfInBounds_toArray, List.set_cons_zero, List.set_cons_succ]
     refine wpAnyH_take (i := 7) (v := ?_) rfl (by kernel_rfl) (by kernel_rfl) (by kernel_rfl) (fun _ _ _ h => h) (Or.inl ⟨by rfl, ?_⟩) (by assumption) ?_
     rotate_left
     ·intro w1 hSw
      try dsimp only at hSw
      go_simp
      try with_reducible rfl
     try simp only [Act.put, List.setIfInBounds_toArray, List.set_cons_zero, List.set_cons_succ]
     refine wpAnyH_take (i := 8) (v := ?_) rfl (by kernel_rfl) (by kernel_rfl) (by kernel_rfl) (fun _ _ _ h => h) (Or.inl ⟨by rfl, ?_⟩) (by assumption) ?_
     rotate_left
     ·intro w1 hSw
      try dsimp only at hSw
      go_simp
      try with_reducible rfl
     try simp only [Act.put, List.setIfInBounds_toArray, List.set_cons_zero, List.set_cons_succ]
     refine wpAnyH_take (i := 9) (v := ?_) rfl (by kernel_rfl) (by kernel_rfl) (by kernel_rfl) (fun _ _ _ h => h) (Or.inl ⟨by rfl, ?_⟩) (by assumption) ?_
     rotate_left
     ·intro w1 hSw
      try dsimp only at hSw
      go_simp
      try with_reducible rfl
     try simp only [Act.put, List.setIfInBounds_toArray, List.set_cons_zero, List.set_cons_succ]
     refine wpAnyH_take (i := 10) (v := ?_) rfl (by kernel_rfl) (by kernel_rfl) (by kernel_rfl) (fun _ _ _ h => h) (Or.inl ⟨by rfl, ?_⟩) (by assumption) ?_
     rotate_left
     ·intro w1 hSw
      try dsimp only at hSw
      go_simp
      try with_reducible rfl
     try simp only [Act.put, List.setIfInBounds_toArray, List.set_cons_zero, List.set_cons_succ]
     refine wpAnyH_take (i := 11) (v := ?_) rfl (by kernel_rfl) (by kernel_rfl) (by kernel_rfl) (fun _ _ _ h => h) (Or.inl ⟨by rfl, ?_⟩) (by assumption) ?_
     rotate_left
     ·intro w1 hSw
      try dsimp only at hSw
      go_simp
      try with_reducible rfl
     try simp only [Act.put, List.setIfInBounds_toArray, List.set_cons_zero, List.set_cons_succ]
     refine wpAnyH_take (i := 12) (v := ?_) rfl (by kernel_rfl) (by kernel_rfl) (by kernel_rfl) (fun _ _ _ h => h) (Or.inl ⟨by rfl, ?_⟩) (by assumption) ?_
     rotate_left
     ·intro w1 hSw
      try dsimp only at hSw
      go_simp
      try with_reducible rfl
     try simp only [Act.put, List.setIfInBounds_toArray, List.set_cons_zero, List.set_cons_succ]
     refine wpAnyH_take (i := 13) (v := ?_) rfl (by kernel_rfl) (by kernel_rfl) (by kernel_rfl) (fun _ _ _ h => h) (Or.inl ⟨by rfl, ?_⟩) (by assumption) ?_
     rotate_left
     ·intro w1 hSw
      try dsimp only at hSw
      go_simp
      try with_reducible rfl
     try simp only [Act.put, List.setIfInBounds_toArray, List.set_cons_zero, List.set_cons_succ]
     refine wpAnyH_take (i := 14) (v := ?_) rfl (by kernel_rfl) (by kernel_rfl) (by kernel_rfl) (fun _ _ _ h => h) (Or.inl ⟨by rfl, ?_⟩) (by assumption) ?_
     rotate_left
     ·intro w1 hSw
      try dsimp only at hSw
      go_simp
      try with_reducible rfl
     try simp only [Act.put, List.setIfInBounds_toArray, List.set_cons_zero, List.set_cons_succ]
     refine wpAnyH_ready (rs := [5, 15]) (by kernel_rfl) (by simp) ?_
     refine AllReadyH.cons rfl (fun K hK => ?_) ?_
     ·skip
      go_simp
      refine hK.out _ _ ?_ (fun hHeld => ?_)
      ·try dsimp only
       first | exact hf1 | exact hf2 _ (by assumption) | exact hf3 _ (by assumption) _ | exact hf4 _ (by assumption) _ | exact hf5 _ (by assumption) _ _ | exact hf4b _ (by assumption) _ | exact hf5b _ (by assumption) _ _
      clear hK K
      try simp only [Act.put, List.setIfInBounds_toArray, List.set_cons_zero, List.set_cons_succ]
      refine wpAnyH_ready (rs := [15]) (by kernel_rfl) (by simp) ?_
      refine AllReadyH.cons rfl (fun K hK => ?_) ?_
      ·skip
       go_simp
       go_at_call 14
       refine (hcall _ (by first | exact Below.refl _ _ | exact (Below.refl _ _).drew | assumption)).mono ?_
       rintro e W' ⟨rfl, hB⟩
       have y1 := hx1 _ hB
       have y2 := hx2 _ hB
       have y3 := hx3 _ hB
       have y4 := hx4 _ hB
       go_wp2_with fail
       refine hK.out _ _ ?_ (fun hHeld => ?_)
       ·try dsimp only
        first | exact hf1 | exact hf2 _ (by assumption) | exact hf3 _ (by assumption) _ | exact hf4 _ (by assumption) _ | exact hf5 _ (by assumption) _ _ | exact hf4b _ (by assumption) _ | exact hf5b _ (by assumption) _ _
       clear hK K
       try simp only [Act.put, List.setIfInBounds_toArray, List.set_cons_zero, List.set_cons_succ]
       refine wpAnyH_ready (rs := [16]) (by kernel_rfl) (by simp) ?_
       refine AllReadyH.cons rfl (fun K hK => ?_) ?_
       ·skip
        go_simp
        refine hK.out _ _ ?_ (fun hHeld => ?_)
        ·try dsimp only
         first | exact hf1 | exact hf2 _ (by assumption) | exact hf3 _ (by assumption) _ | exact hf4 _ (by assumption) _ | exact hf5 _ (by assumption) _ _ | exact hf4b _ (by assumption) _ | exact hf5b _ (by assumption) _ _
        clear hK K
        try simp only [Act.put, List.setIfInBounds_toArray, List.set_cons_zero, List.set_cons_succ]
        refine wpAnyH_ready (rs := [17]) (by kernel_rfl) (by simp) ?_
        refine AllReadyH.cons rfl (fun K hK => ?_) ?_
        ·skip
         refine step_append_room rfl (.tmp 48) (.tmp 59) 108 rfl 4 ti 1 Try.underlying108 hti hz1 (w.heap.size + 1) (r * n) c n (by simp [Act.eval, Act.put]) _ 1 1 [.bool (D c r)] (by simp [Act.eval, Act.put]) rfl (Mk.newc _ _) (by intro u hu; simp at hu; subst hu; rfl) (by omega) (hx5 _ (by assumption) _) ?_
         refine hK.out _ _ ?_ (fun hHeld => ?_)
         ·try dsimp only
          first | exact hf1 | exact hf2 _ (by assumption) | exact hf3 _ (by assumption) _ | exact hf4 _ (by assumption) _ | exact hf5 _ (by assumption) _ _ | exact hf4b _ (by assumption) _ | exact hf5b _ (by assumption) _ _
         clear hK K
         try simp only [Act.put, List.setIfInBounds_toArray, List.set_cons_zero, List.set_cons_succ]
         refine wpAnyH_take (i := 18) (v := ?_) rfl (by kernel_rfl) (by kernel_rfl) (by kernel_rfl) (fun _ _ _ h => h) (Or.inl ⟨by rfl, ?_⟩) (by assumption) ?_
         rotate_left
         ·intro w1 hSw
          try dsimp only at hSw
          go_simp
          try with_reducible rfl
         try simp only [Act.put, List.setIfInBounds_toArray, List.set_cons_zero, List.set_cons_succ]
         refine wpAnyH_ready (rs := [19]) (by kernel_rfl) (by simp) ?_
         refine AllReadyH.cons rfl (fun K hK => ?_) ?_
         ·skip
          go_simp
          refine hK.out _ _ ?_ (fun hHeld => ?_)
          ·try dsimp only
           first | exact hf1 | exact hf2 _ (by assumption) | exact hf3 _ (by assumption) _ | exact hf4 _ (by assumption) _ | exact hf5 _ (by assumption) _ _ | exact hf4b _ (by assumption) _ | exact hf5b _ (by assumption) _ _
          clear hK K
          try simp only [Act.put, List.setIfInBounds_toArray, List.set_cons_zero, List.set_cons_succ]
          refine wpAnyH_done (by kernel_rfl) ?_ _
          refine NoPanic.normal ?_
          go_wp2
          go_roundg (r - (c + 1))
          case measure => go_light; omega
          case rel => go_light; exact ⟨c + 1, by omega, rfl, by simp, hend _ (by assumption) _⟩
         exact AllReadyH.nil
        exact AllReadyH.nil
       exact AllReadyH.nil
      exact AllReadyH.nil
     refine AllReadyH.cons rfl (fun K hK => ?_) ?_
     ·skip
      go_simp
      go_at_call 14
      refine (hcall _ (by first | exact Below.refl _ _ | exact (Below.refl _ _).drew | assumption)).mono ?_
      rintro e W' ⟨rfl, hB⟩
      have y1 := hx1 _ hB
      have y2 := hx2 _ hB
      have y3 := hx3 _ hB
      have y4 := hx4 _ hB
      go_wp2_with fail
      refine hK.out _ _ ?_ (fun hHeld => ?_)
      ·try dsimp only
       first | exact hf1 | exact hf2 _ (by assumption) | exact hf3 _ (by assumption) _ | exact hf4 _ (by assumption) _ | exact hf5 _ (by assumption) _ _ | exact hf4b _ (by assumption) _ | exact hf5b _ (by assumption) _ _
      clear hK K
      try simp only [Act.put, List.setIfInBounds_toArray, List.set_cons_zero, List.set_cons_succ]
      refine wpAnyH_ready (rs := [5, 16]) (by kernel_rfl) (by simp) ?_
      refine AllReadyH.cons rfl (fun K hK => ?_) ?_
      ·skip
       go_simp
       refine hK.out _ _ ?_ (fun hHeld => ?_)
       ·try dsimp only
        first | exact hf1 | exact hf2 _ (by assumption) | exact hf3 _ (by assumption) _ | exact hf4 _ (by assumption) _ | exact hf5 _ (by assumption) _ _ | exact hf4b _ (by assumption) _ | exact hf5b _ (by assumption) _ _
       clear hK K
       try simp only [Act.put, List.setIfInBounds_toArray, List.set_cons_zero, List.set_cons_succ]
       refine wpAnyH_ready (rs := [16]) (by kernel_rfl) (by simp) ?_
       refine AllReadyH.cons rfl (fun K hK => ?_) ?_
       ·skip
        go_simp
        refine hK.out _ _ ?_ (fun hHeld => ?_)
        ·try dsimp only
         first | exact hf1 | exact hf2 _ (by assumption) | exact hf3 _ (by assumption) _ | exact hf4 _ (by assumption) _ | exact hf5 _ (by assumption) _ _ | exact hf4b _ (by assumption) _ | exact hf5b _ (by assumption) _ _
        clear hK K
        try simp only [Act.put, List.setIfInBounds_toArray, List.set_cons_zero, List.set_cons_succ]
        refine wpAnyH_ready (rs := [17]) (by kernel_rfl) (by simp) ?_
        refine AllReadyH.cons rfl (fun K hK => ?_) ?_
        ·skip
         refine step_append_room rfl (.tmp 48) (.tmp 59) 108 rfl 4 ti 1 Try.underlying108 hti hz1 (w.heap.size + 1) (r * n) c n (by simp [Act.eval, Act.put]) _ 1 1 [.bool (D c r)] (by simp [Act.eval, Act.put]) rfl (Mk.newc _ _) (by intro u hu; simp at hu; subst hu; rfl) (by omega) (hx5 _ (by assumption) _) ?_
         refine hK.out _ _ ?_ (fun hHeld => ?_)
         ·try dsimp only
          first | exact hf1 | exact hf2 _ (by assumption) | exact hf3 _ (by assumption) _ | exact hf4 _ (by assumption) _ | exact hf5 _ (by assumption) _ _ | exact hf4b _ (by assumption) _ | exact hf5b _ (by assumption) _ _
         clear hK K
         try simp only [Act.put, List.setIfInBounds_toArray, List.set_cons_zero, List.set_cons_succ]
         refine wpAnyH_take (i := 18) (v := ?_) rfl (by kernel_rfl) (by kernel_rfl) (by kernel_rfl) (fun _ _ _ h => h) (Or.inl ⟨by rfl, ?_⟩) (by assumption) ?_
         rotate_left
         ·intro w1 hSw
          try dsimp only at hSw
          go_simp
          try with_reducible rfl
         try simp only [Act.put, List.setIfInBounds_toArray, List.set_cons_zero, List.set_cons_succ]
         refine wpAnyH_ready (rs := [19]) (by kernel_rfl) (by simp) ?_
         refine AllReadyH.cons rfl (fun K hK => ?_) ?_
         ·skip
          go_simp
          refine hK.out _ _ ?_ (fun hHeld => ?_)
          ·try dsimp only
           first | exact hf1 | exact hf2 _ (by assumption) | exact hf3 _ (by assumption) _ | exact hf4 _ (by assumption) _ | exact hf5 _ (by assumption) _ _ | exact hf4b _ (by assumption) _ | exact hf5b _ (by assumption) _ _
          clear hK K
          try simp only [Act.put, List.setIfInBounds_toArray, List.set_cons_zero, List.set_cons_succ]
          refine wpAnyH_done (by kernel_rfl) ?_ _
          refine NoPanic.normal ?_
          go_wp2
          go_roundg (r - (c + 1))
          case measure => go_light; omega
          case rel => go_light; exact ⟨c + 1, by omega, rfl, by simp, hend _ (by assumption) _⟩
         exact AllReadyH.nil
        exact AllReadyH.nil
       exact AllReadyH.nil
      refine AllReadyH.cons rfl (fun K hK => ?_) ?_
      ·skip
       go_simp
       refine hK.out _ _ ?_ (fun hHeld => ?_)
       ·try dsimp only
        first | exact hf1 | exact hf2 _ (by assumption) | exact hf3 _ (by assumption) _ | exact hf4 _ (by assumption) _ | exact hf5 _ (by assumption) _ _ | exact hf4b _ (by assumption) _ | exact hf5b _ (by assumption) _ _
       clear hK K
       try simp only [Act.put, List.setIfInBounds_toArray, List.set_cons_zero, List.set_cons_succ]
       refine wpAnyH_ready (rs := [5]) (by kernel_rfl) (by simp) ?_
       refine AllReadyH.cons rfl (fun K hK => ?_) ?_
       ·skip
        go_simp
        refine hK.out _ _ ?_ (fun hHeld => ?_)
        ·try dsimp only
         first | exact hf1 | exact hf2 _ (by assumption) | exact hf3 _ (by assumption) _ | exact hf4 _ (by assumption) _ | exact hf5 _ (by assumption) _ _ | exact hf4b _ (by assumption) _ | exact hf5b _ (by assumption) _ _
        clear hK K
        try simp only [Act.put, List.setIfInBounds_toArray, List.set_cons_zero, List.set_cons_succ]
        refine wpAnyH_ready (rs := [17]) (by kernel_rfl) (by simp) ?_
        refine AllReadyH.cons rfl (fun K hK => ?_) ?_
        ·skip
         refine step_append_room rfl (.tmp 48) (.tmp 59) 108 rfl 4 ti 1 Try.underlying108 hti hz1 (w.heap.size + 1) (r * n) c n (by simp [Act.eval, Act.put]) _ 1 1 [.bool (D c r)] (by simp [Act.eval, Act.put]) rfl (Mk.newc _ _) (by intro u hu; simp at hu; subst hu; rfl) (by omega) (hx5 _ (by assumption) _) ?_
         refine hK.out _ _ ?_ (fun hHeld => ?_)
         ·try dsimp only
          first | exact hf1 | exact hf2 _ (by assumption) | exact hf3 _ (by assumption) _ | exact hf4 _ (by assumption) _ | exact hf5 _ (by assumption) _ _ | exact hf4b _ (by assumption) _ | exact hf5b _ (by assumption) _ _
         clear hK K
         try simp only [Act.put, List.setIfInBounds_toArray, List.set_cons_zero, List.set_cons_succ]
         refine wpAnyH_take (i := 18) (v := ?_) rfl (by kernel_rfl) (by kernel_rfl) (by kernel_rfl) (fun _ _ _ h => h) (Or.inl ⟨by rfl, ?_⟩) (by assumption) ?_
         rotate_left
         ·intro w1 hSw
          try dsimp only at hSw
          go_simp
          try with_reducible rfl
         try simp only [Act.put, List.setIfInBounds_toArray, List.set_cons_zero, List.set_cons_succ]
         refine wpAnyH_ready (rs := [19]) (by kernel_rfl) (by simp) ?_
         refine AllReadyH.cons rfl (fun K hK => ?_) ?_
         ·skip
          go_simp
          refine hK.out _ _ ?_ (fun hHeld => ?_)
          ·try dsimp only
           first | exact hf1 | exact hf2 _ (by assumption) | exact hf3 _ (by assumption) _ | exact hf4 _ (by assumption) _ | exact hf5 _ (by assumption) _ _ | exact hf4b _ (by assumption) _ | exact hf5b _ (by assumption) _ _
          clear hK K
          try simp only [Act.put, List.setIfInBounds_toArray, List.set_cons_zero, List.set_cons_succ]
          refine wpAnyH_done (by kernel_rfl) ?_ _
          refine NoPanic.normal ?_
          go_wp2
          go_roundg (r - (c + 1))
          case measure => go_light; omega
          case rel => go_light; exact ⟨c + 1, by omega, rfl, by simp, hend _ (by assumption) _⟩
         exact AllReadyH.nil
        exact AllReadyH.nil
       exact AllReadyH.nil
      exact AllReadyH.nil
     exact AllReadyH.nil
    ·have hce : c = r := by omega
     subst hce
     go_wp2
     go_roundg (n - (c + 1))
     case measure => go_light; omega
     case rel =>
      go_light
      refine ⟨c + 1, by omega, rfl, by simp, hS.next.congr (fun k _ => ?_)⟩
      unfold Mk.top; dsimp only;by_cases hk : k = c
      ·rw [if_neg (by omega), if_pos hk, if_pos (by omega), hk]
      ·by_cases hk2 : k < c
       ·rw [if_pos hk2, if_pos (by omega)]
       ·rw [if_neg hk2, if_neg hk, if_neg (by omega)]
  ·have hre : r = n := by omega
   subst hre
   go_wp2
   go_ret
   refine ⟨rfl, _, _, hO, fun k hk => ?_⟩
   unfold Mk.top; dsimp only;rw [if_pos hk]
end Go.User
namespace Go.Proofs
open Go.Shelf
def Try.sortA_ren : Go.Shelf.Ren := ⟨fun | 5 => 73 | 8 => 77 | 7 => 76 | 19 => 87 | 20 => 88 | 10 => 78 | 11 => 79 | 12 => 80 | 13 => 81 | 14 => 82 | 15 => 83 | 16 => 84 | 17 => 85 | 18 => 86 | 30 => 89 | 31 => 90 | 32 => 91 | 33 => 92 | 34 => 93 | 35 => 94 | 40 => 95 | n => n, fun | 23 => 61 | 25 => 3 | 3 => 3 | 32 => 122 | 22 => 61 | 0 => 0 | 44 => 133 | 46 => 135 | 4 => 4 | 36 => 125 | 35 => 124 | 41 => 130 | 5 => 5 | 9 => 9 | 53 => 136 | 57 => 140 | 63 => 143 | 64 => 144 | n => n, fun | n => n⟩
theorem Try.sortA : Go.Proofs.SlLaysM.n5 Try.prog Try.sortA_ren := {
 mixed := by kernel_rfl
 f5 := ⟨Try.f73.name, by decide, Try.func73.trans (congrArg some (by kernel_rfl))⟩
 f7 := ⟨Try.f76.name, by decide, Try.func76.trans (congrArg some (by kernel_rfl))⟩
 f8 := Try.func77.trans (congrArg some (by kernel_rfl))
 f10 := ⟨Try.f78.name, by decide, Try.func78.trans (congrArg some (by kernel_rfl))⟩
 f11 := ⟨Try.f79.name, by decide, Try.func79.trans (congrArg some (by kernel_rfl))⟩
 f12 := ⟨Try.f80.name, by decide, Try.func80.trans (congrArg some (by kernel_rfl))⟩
 f13 := ⟨Try.f81.name, by decide, Try.func81.trans (congrArg some (by kernel_rfl))⟩
 f14 := ⟨Try.f82.name, by decide, Try.func82.trans (congrArg some (by kernel_rfl))⟩
 f15 := ⟨Try.f83.name, by decide, Try.func83.trans (congrArg some (by kernel_rfl))⟩
 f16 := ⟨Try.f84.name, by decide, Try.func84.trans (congrArg some (by kernel_rfl))⟩
 f17 := ⟨Try.f85.name, by decide, Try.func85.trans (congrArg some (by kernel_rfl))⟩
 f18 := ⟨Try.f86.name, by decide, Try.func86.trans (congrArg some (by kernel_rfl))⟩
 f19 := Try.func87.trans (congrArg some (by kernel_rfl))
 f20 := Try.func88.trans (congrArg some (by kernel_rfl))
 f30 := ⟨Try.f89.name, by decide, Try.func89.trans (congrArg some (by kernel_rfl))⟩
 f31 := Try.func90.trans (congrArg some (by kernel_rfl))
 f32 := Try.func91.trans (congrArg some (by kernel_rfl))
 f33 := ⟨Try.f92.name, by decide, Try.func92.trans (congrArg some (by kernel_rfl))⟩
 f34 := ⟨Try.f93.name, by decide, Try.func93.trans (congrArg some (by kernel_rfl))⟩
 f35 := ⟨Try.f94.name, by decide, Try.func94.trans (congrArg some (by kernel_rfl))⟩
 f40 := ⟨Try.f95.name, by decide, Try.func95.trans (congrArg some (by kernel_rfl))⟩
 t0 := Try.underlying0
 a0 := Try.isAgg0
 z0 := Try.sizeOf0
 v0 := Try.zeroValue0
 t3 := Try.underlying3
 a3 := Try.isAgg3
 z3 := Try.sizeOf3
 v3 := Try.zeroValue3
 t4 := Try.underlying4
 a4 := Try.isAgg4
 z4 := Try.sizeOf4
 v4 := Try.zeroValue4
 t5 := Try.underlying5
 a5 := Try.isAgg5
 z5 := Try.sizeOf5
 v5 := Try.zeroValue5
 t9 := Try.underlying9
 a9 := Try.isAgg9
 z9 := Try.sizeOf9
 v9 := Try.zeroValue9
 t22 := Try.underlying61
 a22 := Try.isAgg61
 z22 := Try.sizeOf61
 v22 := Try.zeroValue61
 t23 := Try.underlying61
 a23 := Try.isAgg61
 z23 := Try.sizeOf61
 v23 := Try.zeroValue61
 t25 := Try.underlying3
 a25 := Try.isAgg3
 z25 := Try.sizeOf3
 v25 := Try.zeroValue3
 t32 := Try.underlying122
 a32 := Try.isAgg122
 z32 := Try.sizeOf122
 v32 := Try.zeroValue122
 t35 := Try.underlying124
 a35 := Try.isAgg124
 z35 := Try.sizeOf124
 v35 := Try.zeroValue124
 t36 := Try.underlying125
 a36 := Try.isAgg125
 z36 := Try.sizeOf125
 v36 := Try.zeroValue125
 t41 := Try.underlying130
 a41 := Try.isAgg130
 z41 := Try.sizeOf130
 v41 := Try.zeroValue130
 t44 := Try.underlying133
 a44 := Try.isAgg133
 z44 := Try.sizeOf133
 v44 := Try.zeroValue133
 t46 := Try.underlying135
 a46 := Try.isAgg135
 z46 := Try.sizeOf135
 v46 := Try.zeroValue135
 t53 := Try.underlying136
 a53 := Try.isAgg136
 z53 := Try.sizeOf136
 v53 := Try.zeroValue136
 t57 := Try.underlying140
 a57 := Try.isAgg140
 z57 := Try.sizeOf140
 v57 := Try.zeroValue140
 t63 := Try.underlying143
 a63 := Try.isAgg143
 z63 := Try.sizeOf143
 v63 := Try.zeroValue143
 t64 := Try.underlying144
 a64 := Try.isAgg144
 z64 := Try.sizeOf144
 v64 := Try.zeroValue144 }
def Try.cmpA_ren : Go.Shelf.Ren := ⟨fun | 43 => 74 | n => n, fun | 22 => 61 | 23 => 3 | 3 => 3 | 4 => 4 | 0 => 0 | n => n, fun | n => n⟩
theorem Try.cmpA : Go.Proofs.SlLaysN.n43 Try.prog Try.cmpA_ren := {
 mixed := by kernel_rfl
 f43 := ⟨Try.f74.name, by decide, Try.func74.trans (congrArg some (by kernel_rfl))⟩
 t0 := Try.underlying0
 a0 := Try.isAgg0
 z0 := Try.sizeOf0
 v0 := Try.zeroValue0
 t3 := Try.underlying3
 a3 := Try.isAgg3
 z3 := Try.sizeOf3
 v3 := Try.zeroValue3
 t4 := Try.underlying4
 a4 := Try.isAgg4
 z4 := Try.sizeOf4
 v4 := Try.zeroValue4
 t22 := Try.underlying61
 a22 := Try.isAgg61
 z22 := Try.sizeOf61
 v22 := Try.zeroValue61
 t23 := Try.underlying3
 a23 := Try.isAgg3
 z23 := Try.sizeOf3
 v23 := Try.zeroValue3
 i23 := by kernel_rfl }
end Go.Proofs
namespace Go.Lf

structure NSpec where
 τ : Ty
 m : Md := .shr
 T : TypeId
 p : cD
 res : Ty
 pre : τ.den -> Prop
 num : τ.den -> Int
 out : τ.den -> res.den

def NOk (P : Program) (f : FuncId) (s : NSpec) : Prop :=
 FnDef P f /\ ∀ (w : World) (F S0 : aA) (b off : Nat) (cs : List Value) (x : s.τ.den), b < w.heap.size -> (∀ k, F k -> k < w.heap.size) -> (∀ k, S0 k -> k < w.heap.size /\ ¬ F k) ->
  eU F S0 w (.mem b 0) s.τ.size cs -> Own F w s.τ s.m S0 cs x -> s.pre x -> loc w s.p s.τ (.mem b 0) = some (.int .i64, .mem b off) ->
  inK .i64 (s.num x) /\ Calls P f #[.pointer (some ⟨b, 0, none⟩)] w fun e w' => ∃ w1 v, (storeVar s.T ⟨b, off, none⟩ (.int .i64 (s.num x))).run P w = .ok () w1 /\ RowKit.Below w1.heap.size w1 w' /\ e = .returned v /\ aP F w' s.res .shr none' v (s.out x)

def isI64 : Option (Σ σ : Ty, σ.den) -> Bool
 | some ⟨.int .i64, _⟩ => true
 | _ => false
def isSm {α : Type} : Option α -> Bool
 | some _ => true
 | none => false
def numE (C : Ctx) (d : Nat) (st : St) (s : NSpec) (v : aK) : Option (Prop × St) :=
 match v.addr? with
 | some l => match l.p with
  | [] => bif (s.τ.flat || decide (l.m = s.m)) && s.res.flat && decide (look C.tys s.T = some (.int .i64)) && statP s.p && isI64 (aJ s.p l.τ l.x) && isSm (bE s.p l.τ l.m) then (match bU (τ := l.τ) (σ := s.τ) l.x with
   | some x => match dU s.p l.τ l.x (.int .i64) (s.num x) with
    | some x' => some (s.pre x, put (upd (keepS st l.r l.τ) l.r (dF (st l.r) l.τ l.m x')) d (mkE C d s.res .shr (s.out x)))
    | none => none
   | none => none) else none
  | _ => none
 | none => none
def numC (ns : List (FuncId × NSpec)) (C : Ctx) (st : St) (o : Oper) (q : Call) : Option (Prop × St) :=
 match q.callee, q.args.toList, o.dst with
 | .value (.func f), [z], some d => match look ns f with
  | some s => bif wrB C d then numE C d st s (bR st z) else none
  | none => none
 | _, _, _ => none
def stpN (ns : List (FuncId × NSpec)) (C : Ctx) (st : St) (o : Oper) : Option (Prop × St) :=
 match o.op with
 | .call q => match numC ns C st o q with
  | some r => some r
  | none => cN C st o
 | _ => cN C st o

section
variable {P : Program} {C : Ctx} {w0 : World} {F0 H : aA} {env : St} {a : Act} {w : World} {F : aA} {S : Nat -> aA} {d : Nat}

theorem numE_ok (hC : aF P C) (hi : aM P C.np w0 F0 H env a w F S) (hd : Wr C.np d) {f : FuncId} {s : NSpec} (hs : NOk P f s) {z : Operand} {args : Array Operand} (hargs : args.toList = [z]) {ts : Array TypeId} {o : Oper}
  (ho : o.op = .call { callee := .value (.func f), args, argTypes := ts }) (hod : o.dst = some d)
  {c : Prop} {env' : St} (h : numE C d env s (bR env z) = some (c, env')) (hc : c) {K : Act -> World -> Prop} {Q : Exit -> Act -> World -> Prop} (hK : ∀ a' w', Inv P C.np w0 F0 H env' a' w' -> K a' w') : o.wp P a w K Q := by
 have hv := bA hi z
 unfold numE at h
 split at h
 ·rename_i l hl
  split at h
  ·rename_i hp
   cases hf : ((s.τ.flat || decide (l.m = s.m)) && s.res.flat && decide (look C.tys s.T = some (.int .i64)) && statP s.p && isI64 (aJ s.p l.τ l.x) && isSm (bE s.p l.τ l.m))
   ·rw [hf] at h; cases h
   rw [hf] at h;simp only [cond_true] at h;simp only [Bool.and_eq_true, Bool.or_eq_true, decide_eq_true_eq] at hf;obtain ⟨⟨⟨⟨⟨hfm, hres⟩, hT⟩, hst⟩, hget⟩, hgm⟩ := hf;split at h
   ·rename_i x hx
    have := aT hx
    obtain ⟨σ, y0, μ, pl, S0, cs, b, off, hA, hval⟩ := fI hi hv hl;obtain ⟨lr, lp, lτ, lm, lx⟩ := l;simp only at hp hx this h hfm hget hgm;subst hp;injection this with e1 e2;subst e1; cases e2;split at h
    ·rename_i x' hset
     simp only [Option.some.injEq, Prod.mk.injEq] at h;obtain ⟨rfl, rfl⟩ := h;have hroot := hA.root;have hloc := hA.loc;simp only [Go.Lf.loc, Option.some.injEq, Prod.mk.injEq] at hloc;obtain ⟨rfl, hpl⟩ := hloc;subst hpl;simp only at hroot;have hsb : S lr b := hroot.isB rfl;obtain ⟨hbox, hS0, hvr⟩ : env lr = .box s.τ lm x /\ S0 = (fun k => S lr k /\ k ≠ b) /\ off = 0 /\ a.tmps.getD lr undef = .pointer (some ⟨b, 0, none⟩) := by
      rcases hroot.1 with ⟨_, h, _⟩ | ⟨h, b', h2, h3, h4, _⟩
      ·cases h
      ·injection h2 with h2 h5
       subst h2;exact ⟨h, h3, h5, h4⟩
     obtain ⟨rfl, hvr⟩ := hvr;have hb := hi.sb lr b hsb;have hown : Own F w s.τ s.m S0 cs x := by
      rcases hfm with hf | hf
      ·exact hroot.2.2.flat hf
      ·rw [<- hf]; exact hroot.2.2
     obtain ⟨y1, hy1⟩ : ∃ y1 : Int, aJ s.p s.τ x = some ⟨.int .i64, y1⟩ := by
      unfold isI64 at hget;split at hget
      ·rename_i y1 hg; exact ⟨y1, hg⟩
      ·cases hget
     obtain ⟨ν, hν⟩ : ∃ ν, bE s.p s.τ lm = some ν := by
      unfold isSm at hgm;split at hgm
      ·rename_i ν hg; exact ⟨ν, hg⟩
      ·cases hgm
     have hin : inR s.p s.τ x := (statP_getP (x2 := x) hst (by rw [hy1]; rfl)).2
     obtain ⟨pl2, cs2, S2, hfoc⟩ := focus s.p (fun k hk => by rw [hS0] at hk; exact (hi.sb lr k hk.1).2.2) hroot.2.2 hroot.2.1 hy1 hν hin
     obtain ⟨b1, off1, hpl2⟩ : ∃ b1 off1, pl2 = .mem b1 off1 := by
      cases pl2 with
      | val cs =>
       exfalso
       have : ∀ {p : cD} {τ : Ty} {o : Nat} {σ : Ty} {cs : List Value}, statP p = true -> loc w p τ (.mem b o) = some (σ, .val cs) -> False := by
        intro p
        induction p with
        | nil => intro τ o σ cs _ h; simp only [loc, Option.some.injEq, Prod.mk.injEq] at h; cases h.2
        | cons st p ih =>
         intro τ o σ cs h1 h2;cases st with
         | idx i => cases h1
         | fst => cases τ <;> first | exact ih h1 h2 | cases h2
         | snd => cases τ <;> first | exact ih h1 h2 | cases h2
       exact this hst hfoc.loc
      | mem b1 off1 => exact ⟨b1, off1, rfl⟩
     subst hpl2;have hb1 : b1 = b := statP_blk hst hfoc.loc;subst hb1;obtain ⟨hnum, hcall⟩ := hs.2 w F S0 b1 off1 cs x hb.2.1 hi.fb (fun k hk => by
      rw [hS0] at hk;exact ⟨(hi.sb lr k hk.1).2.1, (hi.sb lr k hk.1).2.2⟩) hroot.2.1 hown hc hfoc.loc
     have hrun : (execOp a.eval o).run P w = .ok (.enter f #[.pointer (some ⟨b1, 0, none⟩)]) w := by
      simp only [execOp, ho, resolve, Sem.run_bind, Act.eval, Deferred.ofValue, Sem.run_pure, Result.andThen, invoke];have := hs.1 #[.pointer (some ⟨b1, 0, none⟩)] w;rw [<- this]
      congr 1
      congr 1
      apply Array.ext'
      simp [hargs, <- hval]
     unfold Oper.wp;rw [hrun, Oper.upon_enter];refine hcall.mono ?_;rintro e w' ⟨w1, v, h1, h2, rfl, h3⟩;rw [hod];obtain ⟨w2, g1, F2, S3, g2⟩ := store_scal (σ := .int .i64) hC hi hT hroot hfoc rfl (S1 := none') (v := .int .i64 (s.num x)) (y := s.num x) ⟨[.int .i64 (s.num x)], rfl, rfl, hnum⟩ hset;rw [h1] at g1;injection g1 with _ g1;subst g1;obtain ⟨F4, S4, hh⟩ := g2.putNew (C := C) (d := d) (F' := F2) (Sd := none') (m := .shr) hd h2 (fun _ h => h) (fun k hk => Nat.lt_of_lt_of_le (g2.fb k hk) h2.size) (fun k q1 q2 => absurd q1 q2) (fun k hk => hk.elim) (by
      obtain ⟨c1, q1, q2⟩ := h3;exact ⟨c1, q1, q2.flat hres⟩ : aP F2 w' s.res .shr none' v (s.out x))
     exact hK _ _ ⟨F4, S4, hh⟩
    ·cases h
   ·cases h
  ·cases h
 ·cases h

theorem stpN_ok {ns : List (FuncId × NSpec)} (hC : aF P C) (hn : ∀ f s, look ns f = some s -> NOk P f s) : eD P C (stpN ns C) := by
 intro w0 F0 H env env' a w o c hi h hc K Q hK
 unfold stpN at h
 split at h
 ·rename_i q hop
  split at h
  ·rename_i r hr
   simp only [Option.some.injEq] at h;subst h;obtain ⟨F, S, hi⟩ := hi;obtain ⟨callee, args, ts⟩ := q;unfold numC at hr;simp only at hr;split at hr
   ·rename_i f z d hargs hod
    split at hr
    ·rename_i s hs
     cases hw : wrB C d
     ·rw [hw] at hr; cases hr
     rw [hw] at hr;exact numE_ok hC hi (d6 hw) (hn f s hs) hargs hop hod hr hc hK
    ·cases hr
   ·cases hr
  ·exact aR hC hi h hc K Q hK
 ·exact aR hC hi h hc K Q hK
end
end Go.Lf
namespace Go.Lf

structure VSpec where
 e : Ty
 me : Md := .shr
 pre : List e.den -> Prop
 fn : List e.den -> List e.den
 ret : Bool

def VPost (F S0 : aA) (w : World) (s : VSpec) (v : Value) (y : List s.e.den) (en : Ending) (w' : World) : Prop :=
 ∃ v' Sr, en = .returned (bif s.ret then v' else .tuple #[]) /\ (s.ret = false -> v' = v) /\ w'.os = w.os /\ w'.tape = w.tape /\ w'.output = w.output /\ w.heap.size <= w'.heap.size /\
  (∀ k, k < w.heap.size -> ¬ S0 k -> w'.heap[k]? = w.heap[k]?) /\ (∀ k, Sr k -> (w.heap.size <= k ∨ S0 k) /\ k < w'.heap.size /\ ¬ F k) /\ aP F w' (.slice s.e) (.own s.me) Sr v' y
def VOk (P : Program) (f : FuncId) (s : VSpec) : Prop := FnDef P f /\ ∀ (w : World) (F S0 : aA) (v : Value) (x : List s.e.den), (∀ k, F k -> k < w.heap.size) -> (∀ k, S0 k -> k < w.heap.size /\ ¬ F k) ->
 aP F w (.slice s.e) (.own s.me) S0 v x -> s.pre x -> Calls P f #[v] w (VPost F S0 w s v (s.fn x))

def placeE (C : Ctx) (st : St) (d : Nat) (s : VSpec) (r : Nat) : Option (Prop × St) := match st r with
 | .own τ m x => bif wrB C d && !Nat.beq d r && decide (m = .own s.me) then (match bU (τ := τ) (σ := .slice s.e) x with
  | some (x : List s.e.den) => some (s.pre x, bif s.ret then put (drop st r) d (mkE C d (.slice s.e) (.own s.me) (s.fn x)) else put (upd (drop st r) r (.own (.slice s.e) (.own s.me) (s.fn x))) d .dead)
  | none => none) else none
 | _ => none
def placeC (vs : List (FuncId × VSpec)) (C : Ctx) (st : St) (o : Oper) (q : Call) : Option (Prop × St) :=
 match q.callee, q.args.toList, o.dst with
 | .value (.func f), [.tmp t], some d => match look vs f, st t with
  | some s, .sub r [] => placeE C st d s r
  | _, _ => none
 | _, _, _ => none
def stpV (vs : List (FuncId × VSpec)) (C : Ctx) (st : St) (o : Oper) : Option (Prop × St) := match o.op with
 | .call q => (match placeC vs C st o q with
  | some r => some r
  | none => cN C st o)
 | _ => cN C st o

section
variable {P : Program} {C : Ctx} {N : NP} {w0 : World} {F0 H : aA} {env : St} {a : Act} {w : World} {F : aA} {S : Nat -> aA}
theorem aM.setOwn (hi : aM P N w0 F0 H env a w F S) {r : Nat} {τ : Ty} {m : Md} {x : τ.den} {Sr : aA} (hroot : ∀ t, (env t).root ≠ some r) (hSr : ∀ k, ¬ S r k)
  (hS : ∀ b, Sr b -> (w0.heap.size <= b ∨ H b) /\ b < w.heap.size /\ ¬ F b /\ ∀ t, ¬ S t b) (hv : aP F w τ m Sr (a.tmps.getD r undef) x) :
  aM P N w0 F0 H (upd env r (.own τ m x)) a w F (fun t => if t = r then Sr else S t) := by
 refine ⟨hi.os, hi.tape, hi.output, hi.size, hi.block, hi.fb, hi.f0, hi.fn, ?_, ?_, ?_, hi.defers, hi.slots⟩
 ·intro t b ht
  by_cases h : t = r
  ·simp only [h, if_true] at ht; exact ⟨(hS b ht).1, (hS b ht).2.1, (hS b ht).2.2.1⟩
  ·simp only [h, if_false] at ht; exact hi.sb t b ht
 ·intro t u htu b h1 h2
  by_cases h : t = r
  ·simp only [h, if_true] at h1
   by_cases h' : u = r
   ·exact htu (h.trans h'.symm)
   ·simp only [h', if_false] at h2
    exact (hS b h1).2.2.2 u h2
  ·simp only [h, if_false] at h1
   by_cases h' : u = r
   ·simp only [h', if_true] at h2
    exact (hS b h2).2.2.2 t h1
   ·simp only [h', if_false] at h2
    exact hi.sd t u htu b h1 h2
 ·intro t
  by_cases h : t = r
  ·subst h
   rw [bZ];obtain ⟨cs, h1, h2⟩ := hv;refine ⟨.val cs, Sr, cs, .inl ⟨rfl, rfl, ?_, h1⟩, rfl, h2⟩
   simp
  ·rw [bN _ _ h]
   refine aC.keep (fun _ h => h) (fun _ _ => rfl) rfl ?_ ?_ (hi.ent t)
   ·intro q hq
    have hqr : q ≠ r := fun e => hroot t (e ▸ hq)
    exact ⟨fun ho => bN _ _ hqr, fun _ => rfl, by simp [hqr], fun _ _ => rfl, fun b h1 h2 => absurd h1 h2, fun b hb => (hi.sb q b hb).2.2⟩
   ·intro _
    exact ⟨by simp [h], fun _ _ => rfl, fun b h1 h2 => absurd h1 h2⟩
theorem drop_root (env : St) (r t : Nat) : (drop env r t).root ≠ some r := by
 unfold drop
 by_cases h : t = r
 ·subst h; rw [bZ]; exact fun h => by cases h
 ·rw [bN _ _ h]
  rcases c8 env r t with h' | ⟨h', hne⟩
  ·rw [h']; exact fun h => by cases h
  ·rw [h']; exact hne
theorem placeE_ok (hC : aF P C) (hi : aM P C.np w0 F0 H env a w F S) {t r d : Nat} {s : VSpec} {f : FuncId} (hs : VOk P f s) (ht : env t = .sub r []) {args : Array Operand} (hargs : args.toList = [.tmp t]) {ts : Array TypeId} {o : Oper}
  (ho : o.op = .call { callee := .value (.func f), args, argTypes := ts }) (hod : o.dst = some d) {c : Prop} {env' : St} (h : placeE C env d s r = some (c, env')) (hc : c)
  {K : Act -> World -> Prop} {Q : Exit -> Act -> World -> Prop} (hK : ∀ a' w', Inv P C.np w0 F0 H env' a' w' -> K a' w') : o.wp P a w K Q := by
 unfold placeE at h
 split at h
 ·rename_i τ m x hr
  cases hb : (wrB C d && !Nat.beq d r && decide (m = .own s.me))
  ·rw [hb] at h; cases h
  rw [hb] at h;simp only [cond_true] at h;simp only [Bool.and_eq_true, decide_eq_true_eq, Bool.not_eq_true'] at hb;obtain ⟨⟨hd, hdr⟩, rfl⟩ := hb;have hdr : d ≠ r := fun e => by rw [e, Nat.beq_refl] at hdr; cases hdr
  have hd := d6 hd
  split at h
  ·rename_i x1 hx
   have h5 := aT hx
   injection h5 with e1 e2;subst e1; cases e2;simp only [Option.some.injEq, Prod.mk.injEq] at h;obtain ⟨rfl, rfl⟩ := h;have hr1 := hi.ent r;rw [hr] at hr1;obtain ⟨pl, S0, cs, hrt⟩ := hr1;obtain ⟨_, _, e3, e4, e5⟩ := hrt.own_inj;subst e4;have hO : aP F w (.slice s.e) (.own s.me) (S r) (a.tmps.getD r undef) x1 := ⟨cs, e5, hrt.2.2⟩;have hVt : a.tmps.getD t undef = a.tmps.getD r undef := by
    have ht1 := hi.ent t
    rw [ht] at ht1;obtain ⟨τ1, m1, x2, pl1, S1, cs1, σ, μ, pl', cs', g1, g2, g3, g4, _, _, _⟩ := ht1;rw [hr] at g1;obtain ⟨q1, _, q3, q4, q5⟩ := g1.own_inj;injection q1 with q1 q2;subst q1;subst q3;simp only [loc, Option.some.injEq, Prod.mk.injEq] at g2;obtain ⟨rfl, rfl⟩ := g2;have hlen : cs1.length = Ty.size (.slice s.e) := g1.2.2.len;have : cs' = cs1 := by
     simp only [aD.read] at g3
     first | exact (Option.some.inj g3).symm | (rw [if_pos hlen] at g3; exact (Option.some.inj g3).symm)
    rw [this] at g4;exact g4.trans q5.symm
   obtain ⟨k1, k2⟩ := hs;have hcall := k2 w F (S r) _ x1 hi.fb (fun k hk => ⟨(hi.sb r k hk).2.1, (hi.sb r k hk).2.2⟩) hO hc
   have hav : (args.toList.map a.eval).toArray = #[a.tmps.getD r undef] := by
    rw [hargs, <- hVt]
    rfl
   have hrun : (execOp a.eval o).run P w = .ok (.enter f #[a.tmps.getD r undef]) w := by
    simp only [execOp, ho, resolve, Sem.run_bind, Act.eval, Deferred.ofValue, Sem.run_pure, Result.andThen, invoke];have := k1 ((args.toList.map a.eval).toArray) w;rw [<- hav, <- this]
    congr 1
    congr 1
    apply Array.ext'
    simp
   have hi1 := hi.drop r
   unfold Oper.wp;rw [hrun, Oper.upon_enter];refine hcall.mono ?_;intro en w' hpost;obtain ⟨v', Sr, rfl, q0, q1, q2, q3, q4, q5, q9, q10⟩ := hpost;have hnt : ∀ k, S r k -> ∀ u, ¬ (fun u => if u = r then none' else S u) u k := by
    intro k hk u hu;by_cases hur : u = r
    ·simp only [hur, if_true] at hu; exact hu
    ·simp only [hur, if_false] at hu; exact hi.sd u r hur k hu hk
   have hfb' : ∀ b, F b -> b < w'.heap.size := fun b hb => Nat.lt_of_lt_of_le (hi.fb b hb) q4
   have hi2 := hi1.worldZ (Z := S r) q1 q2 q3 q4 q5 (fun k hk => ⟨(hi.sb r k hk).1, (hi.sb r k hk).2.2, hnt k hk⟩) (fun _ h => h) hfb' (fun k g1 g2 => absurd g1 g2)
   have hSr : ∀ b, Sr b -> (w0.heap.size <= b ∨ H b) /\ b < w'.heap.size /\ ¬ F b /\ ∀ u, ¬ (fun u => if u = r then none' else S u) u b := by
    intro b hb;obtain ⟨g1, g2, g3⟩ := q9 b hb;refine ⟨?_, g2, g3, ?_⟩
    ·rcases g1 with g1 | g1
     ·exact .inl (Nat.le_trans hi.size g1)
     ·exact (hi.sb r b g1).1
    ·intro u hu
     rcases g1 with g1 | g1
     ·have := (hi1.sb u b hu).2.1; omega
     ·exact hnt b g1 u hu
   rw [hod];cases hret : s.ret
   ·rw [hret] at q0
    have q0 := q0 rfl
    subst q0;simp only [hret, cond_false] at hK ⊢;have hi3 := hi2.setOwn (r := r) (τ := .slice s.e) (m := .own s.me) (Sr := Sr) (x := s.fn x1) (fun u => drop_root env r u) (fun k hk => by
     have hk : (if r = r then none' else S r) k := hk
     rw [if_pos rfl] at hk;exact hk) hSr q10
    have hi4 := hi3.put (d := d) (e := .dead) (v := .tuple #[]) (w' := w') (F' := F) (Sd := none') hd (RowKit.Below.refl _ _) (fun _ h => h) hfb' (fun b g1 g2 => absurd g1 g2) (fun _ h => h.elim) trivial
    exact hK _ _ ⟨_, _, hi4⟩
   ·simp only [hret, cond_true] at hK ⊢
    obtain ⟨F2, S2, hh⟩ := hi2.putNew (C := C) (d := d) hd (RowKit.Below.refl _ _) (fun _ h => h) hfb' (fun k g1 g2 => absurd g1 g2) hSr q10
    exact hK _ _ ⟨F2, S2, hh⟩
  ·cases h
 ·cases h
theorem stpV_ok {vs : List (FuncId × VSpec)} (hC : aF P C) (hn : ∀ f s, look vs f = some s -> VOk P f s) : eD P C (stpV vs C) := by
 intro w0 F0 H env env' a w o c hi h hc K Q hK
 unfold stpV at h
 split at h
 ·rename_i q hop
  split at h
  ·rename_i r hr
   simp only [Option.some.injEq] at h;subst h;obtain ⟨F, S, hi⟩ := hi;obtain ⟨callee, args, ts⟩ := q;unfold placeC at hr;simp only at hr;split at hr
   ·rename_i f t d hargs hod
    split at hr
    ·rename_i s r hs ht
     exact placeE_ok hC hi (hn f s hs) ht hargs hop hod hr hc hK
    ·cases hr
   ·cases hr
  ·exact aR hC hi h hc K Q hK
 ·exact aR hC hi h hc K Q hK
end
end Go.Lf
namespace Sp
def dD : Opd := (0, 0, 0, ())
def term0 : Term := (0, 0, dD, dD, dD, [0, 0], ())
def inst0 : Inst := (0, 0, 0, dD, dD, dD, dD, ())
def blk0 : Block := ([], term0, ())
def cZ (n : Int) : Opd := (2, n, 0, ())
def conO (v : Int) : Opd := (1, 0, v, ())
def arrs : List Arr := [([97], 1, 1, 8, ()), ([102], 1, 2, 4, ()), ([115], 2, 1, 8, ()), ([112], 3, 1, 4, ()), ([98], 2, 3, 4, ())]
def nxM (s : Mk) : Mk := (s.1, s.2.1 + 1, s.2.2)
def nxV (s : Mk) : Int := if (List.length s.1 : Int) < s.2.1 + 1 then 0 else s.1.getD s.2.1.toNat 0
def fK (c : Code) (B : List Block) : Code := (c.1, c.2.1, c.2.2.1, c.2.2.2.1, c.2.2.2.2.1, c.2.2.2.2.2.1, c.2.2.2.2.2.2.1, B, ())
def cB (c : Code) : List Block := c.2.2.2.2.2.2.2.1
def cL (c : Code) : List Loop := c.2.2.2.2.2.2.1
def cA (c : Code) : List Arr := c.2.2.2.2.2.1
def wB (s : Mk) (B : List Block) : Mk := (s.1, s.2.1, fK s.2.2.1 B, ())
def putB (B : List Block) (i : Inst) : List Block := B.set (B.length - 1) ((B.getD (B.length - 1) blk0).1 ++ [i], (B.getD (B.length - 1) blk0).2)
def eB (s : Mk) (i : Inst) : Mk := wB s (putB (cB s.2.2.1) i)
def fH (s : Mk) : Mk := wB s (cB s.2.2.1 ++ [blk0])
def eN (s : Mk) : Opd := cZ (Int.tmod (nxV s) 6)
def eY (s : Mk) : Opd := if Int.tmod (nxV s) 3 = 0 then conO (Go.IntKind.wrap .i32 (Go.IntKind.wrap .i32 (Int.tdiv (nxV s) 3) - 20)) else cZ (Int.tmod (Int.tdiv (nxV s) 3) 6)
structure aG (n : Nat) (s : Mk) : Prop where
 at0 : 0 <= s.2.1
 at1 : s.2.1 <= n
 arr : cA s.2.2.1 = arrs
 blk : (cB s.2.2.1).length <= n
 ins : ∀ b ∈ cB s.2.2.1, b.1.length <= n
 lps : (cL s.2.2.1).length <= n
def has (s : Mk) : Prop := 0 < (cB s.2.2.1).length
end Sp
namespace Go.User
open Go.Lf
abbrev mCode : Md := .pair .shr (.pair .shr (.pair .shr (.pair .shr (.pair .shr (.pair .shr (.pair (.own .shr) (.pair (.own (.pair (.own .shr) .shr)) .shr)))))))
abbrev mMk : Md := .pair .shr (.pair .shr (.pair mCode .shr))
def mkM (n q : Nat) (fns : List (FuncId × bG)) (ptrs : List (FuncId × cX)) : Ctx := { N := n, tys := cS q, fns := fns, eqs := eqs, pin := some 0, q := q, ptrs := ptrs }
def S46 : bG := { args := [], multi := false, res := .slice cG, mode := .shr, pre := fun _ => True, fn := fun _ => Sp.arrs }
def C46 : Ctx := { mkC 7 [] with mds := [(6, .shr)] }
def L46 (x : aN S46.args) : List aW := []
def S54 : bG := { args := [.val tI], multi := false, res := aQ, mode := .shr, pre := fun _ => True, fn := fun x => Sp.cZ x.1 }
def C54 : Ctx := mkC 5 []
def L54 (x : aN S54.args) : List aW := []
def S55 : bG := { args := [.val (.int .i32)], multi := false, res := aQ, mode := .shr, pre := fun _ => True, fn := fun x => Sp.conO x.1 }
def C55 : Ctx := mkC 5 []
def L55 (x : aN S55.args) : List aW := []
def S45 : cX := { τ := tMk, m := mMk, multi := false, res := tI, pre := fun s _ => Sp.aG 5000 s, fn := fun s _ => Sp.nxM s, out := fun s _ => Sp.nxV s }
def C45 (q : Nat) : Ctx := mkM 32 q [] []
def L45 (q : Nat) (x : S45.τ.den) (y : aN S45.args) : List aW := []
def S66 : cX := { τ := tMk, m := mMk, args := [.val aL], pre := fun s _ => Sp.aG 5000 s /\ Sp.has s, fn := fun s y => Sp.eB s y.1, out := fun _ _ => () }
def C66 (q : Nat) : Ctx := mkM 32 q [] []
def L66 (q : Nat) (x : S66.τ.den) (y : aN S66.args) : List aW := []
def S49 : cX := { τ := tMk, m := mMk, pre := fun s _ => Sp.aG 5000 s, fn := fun s y => Sp.fH s, out := fun _ _ => () }
def C49 (q : Nat) : Ctx := { mkM 14 q [] [] with mds := [(8, .pair (.own .shr) .shr), (9, .own (.pair (.own .shr) .shr))] }
def L49 (q : Nat) (x : S49.τ.den) (y : aN S49.args) : List aW := []
def S50 : cX := { τ := tMk, m := mMk, multi := false, res := aQ, pre := fun s _ => Sp.aG 5000 s, fn := fun s _ => Sp.nxM s, out := fun s _ => Sp.eN s }
def C50 (q : Nat) : Ctx := mkM 7 q [(54, S54)] [(45, S45)]
def L50 (q : Nat) (x : S50.τ.den) (y : aN S50.args) : List aW := []
def S51 : cX := { τ := tMk, m := mMk, multi := false, res := aQ, pre := fun s _ => Sp.aG 5000 s, fn := fun s _ => Sp.nxM s, out := fun s _ => Sp.eY s }
def C51 (q : Nat) : Ctx := mkM 18 q [(54, S54), (55, S55)] [(45, S45)]
def L51 (q : Nat) (x : S51.τ.den) (y : aN S51.args) : List aW := []
end Go.User
namespace Go.User
open Go.Proofs Go.Lf
set_option maxRecDepth 100000
theorem vc46 : (c9 C46 (cN C46) S46 L46 Try.f46) = (
let q0 : Int := (1 : Int);
let q1 : Int × Int × Unit := (q0, (8 : Int), ());
let q2 : Int := (2 : Int);
let q3 : Int × Unit := ((4 : Int), ());
let q4 : Int := (3 : Int);
∀ (x : Unit), True -> True -> ((True /\ True) /\ True) /\ ((True /\ True /\ True /\ True /\ True /\ True /\ True) /\ True /\ True) /\ (((97 : UInt8) :: ([] : List UInt8)), q0, q1) :: (((102 : UInt8) :: ([] : List UInt8)), q0, q2, q3) :: (((115 : UInt8) :: ([] : List UInt8)), q2, q1) :: (((112 : UInt8) :: ([] : List UInt8)), q4, q0, q3) :: (((98 : UInt8) :: ([] : List UInt8)), q2, q4, q3) :: ([] : List cG.den) = Sp.arrs) := by kernel_rfl
theorem vc54 : (c9 C54 (cN C54) S54 L54 Try.f54) = (
∀ (x : Int × Unit), True -> aB tI x.1 /\ True -> ((True /\ True) /\ True) /\ ((True /\ True /\ True) /\ True /\ True) /\ ((2 : Int), x.1, (0 : Int), ()) = Sp.cZ x.1) := by kernel_rfl
theorem vc55 : (c9 C55 (cN C55) S55 L55 Try.f55) = (
∀ (x : Int × Unit), True -> aB (Ty.int IntKind.i32) x.1 /\ True -> ((True /\ True) /\ True) /\ ((True /\ True /\ True) /\ True /\ True) /\ ((1 : Int), (0 : Int), x.1, ()) = Sp.conO x.1) := by kernel_rfl
theorem vc45 : (∀ q : Nat, funP (C45 q) (cN (C45 q)) S45 (L45 q) Try.f45) = (
let q0 : Prop := (True /\ True) /\ True;
let q1 : Int := (1 : Int);
let q2 : Prop := True /\ True /\ True;
let q3 : Prop := True /\ q2;
let q4 : Int := (0 : Int);
∀ (q : Nat) (x : Sp.Mk),
 let q5 : Int := x.2.1 + q1;
 let q6 : Nat := x.1.length;
 let q7 : Bool := decide (q5 > (↑q6 : Int));
 let q8 : Prop := (x.1, q5, x.2.2) = Sp.nxM x;
 let q9 : Int := q5 - q1;
 ∀ (y : Unit), Sp.aG (5000 : Nat) x -> aB tMk x -> True -> q0 /\ ((True /\ True /\ True /\ True /\ inK IntKind.i64 q5 /\ q2) /\ True /\ True) /\ ((True /\ True /\ True /\ True /\ True /\ True /\ True /\ q3) /\ True) /\ (q7 = true -> q0 /\ q8 /\ q4 = Sp.nxV x /\ false = false) /\ (q7 = false -> ((True /\ True /\ True /\ True /\ True /\ True /\ True /\ True /\ inK IntKind.i64 q9 /\ inN q9 q6 /\ q3) /\ True) /\ q8 /\ x.1.getD q9.toNat q4 = Sp.nxV x /\ false = false)) := by kernel_rfl
theorem vc66 : (∀ q : Nat, funP (C66 q) (cN (C66 q)) S66 (L66 q) Try.f66) = (
let q0 : Nat := (2 : Nat);
let q1 : Int := (0 : Int);
let q2 : Sp.Opd := (q1, q1, q1, ());
let q3 : Prop := Step.fst = Step.fst /\ True;
let q4 : Prop := Step.snd = Step.snd /\ Step.snd = Step.snd /\ Step.fst = Step.fst /\ Step.snd = Step.snd /\ Step.snd = Step.snd /\ Step.snd = Step.snd /\ Step.snd = Step.snd /\ Step.snd = Step.snd /\ Step.snd = Step.snd /\ Step.snd = Step.snd /\ q3;
let q5 : Prop := True /\ True /\ True;
let q6 : Prop := True /\ True /\ True /\ q5;
∀ (q : Nat) (x : Sp.Mk),
 let q7 : Int × Int × Int × List Sp.Arr × List Sp.Opd × List Sp.Block × Unit := x.2.2.1.2.2;
 let q8 : Int × Int × List Sp.Arr × List Sp.Opd × List Sp.Block × Unit := q7.2;
 let q9 : Int × List Sp.Arr × List Sp.Opd × List Sp.Block × Unit := q8.2;
 let q10 : List Sp.Arr × List Sp.Opd × List Sp.Block × Unit := q9.2;
 let q11 : List Sp.Opd × List Sp.Block × Unit := q10.2;
 let q12 : List Sp.Block × Unit := q11.2;
 let q13 : List Sp.Block := q12.1;
 let q14 : Nat := q13.length;
 let q15 : Int := (↑q14 : Int) - (1 : Int);
 let q16 : Prop := inN q15 q14;
 let q17 : Nat := q15.toNat;
 let q18 : Sp.Block := q13.getD q17 (([] : List aL.den), (q1, q1, q2, q2, q2, List.replicate q0 q1, ()), ());
 let q19 : List Sp.Inst := q18.1;
 let q20 : List Step := Step.snd :: Step.snd :: Step.fst :: Step.snd :: Step.snd :: Step.snd :: Step.snd :: Step.snd :: Step.snd :: Step.snd :: Step.fst :: Step.idx q17 :: Step.fst :: ([] : List Step);
 ∀ (y : Sp.Inst × Unit),
 let q21 : List Sp.Inst := y.1 :: ([] : List aL.den);
 Sp.aG (5000 : Nat) x /\ Sp.has x -> aB (tU8.slice.prod (tI.prod ((tI.prod (tI.prod (tI.prod (tI.prod (tI.prod (cG.slice.prod (bF.slice.prod ((aL.slice.prod ((tI.prod (tI.prod (aQ.prod (aQ.prod (aQ.prod ((Ty.arr q0 tI).prod Ty.unit)))))).prod Ty.unit)).slice.prod Ty.unit)))))))).prod Ty.unit))) x -> aB aL y.1 /\ True -> ((True /\ True) /\ True) /\ ((True /\ True /\ True /\ True /\ True /\ True /\ inK IntKind.i64 q15 /\ True /\ True) /\ True) /\ (((True /\ True /\ True /\ True /\ True /\ True /\ True /\ True /\ True /\ True /\ True /\ True /\ q16 /\ True /\ True /\ True /\ True /\ (↑(q19.length + q21.length) : Int) <= maxNew /\ q16 /\ True /\ True) /\ True /\ True /\ True /\ True /\ True /\ True /\ True /\ True /\ True /\ True /\ True /\ True /\ True /\ True /\ True /\ True /\ True /\ ((True /\ True /\ True /\ True /\ q4 /\ True /\ True /\ True /\ True /\ True /\ q4 /\ True /\ True /\ True /\ (Step.snd = Step.snd /\ Step.snd = Step.snd /\ Step.fst = Step.fst /\ Step.snd = Step.snd /\ Step.snd = Step.snd /\ Step.snd = Step.snd /\ Step.snd = Step.snd /\ Step.snd = Step.snd /\ Step.snd = Step.snd /\ Step.snd = Step.snd /\ Step.fst = Step.fst /\ Step.idx q17 = Step.idx q17 /\ q3) /\ q6) /\ True /\ True /\ True /\ True /\ True /\ True /\ True /\ True /\ True /\ True /\ True /\ True /\ True /\ True /\ True /\ True /\ True /\ True /\ True /\ True /\ True /\ True /\ q4 /\ True /\ True /\ True /\ True /\ q6) /\ q5) /\ q20 = q20 /\ True) /\ (x.1, x.2.1, (x.2.2.1.1, x.2.2.1.2.1, q7.1, q8.1, q9.1, q10.1, q11.1, q13.set q17 (q19 ++ q21, q18.2), q12.2), x.2.2.2) = Sp.eB x y.1 /\ (([] : List Go.ResultVar)).toArray.toList = ([] : List Go.ResultVar) /\ Ty.unit = Ty.unit) := by kernel_rfl
theorem vc49 : (∀ q : Nat, funP (C49 q) (cN (C49 q)) S49 (L49 q) Try.f49) = (
let q0 : Nat := (2 : Nat);
let q1 : Int := (0 : Int);
let q2 : Sp.Opd := (q1, q1, q1, ());
let q3 : List Sp.Block := (([] : List aL.den), (q1, q1, q2, q2, q2, List.replicate q0 q1, ()), ()) :: ([] : List fY.den);
let q4 : List Step := Step.snd :: Step.snd :: Step.fst :: Step.snd :: Step.snd :: Step.snd :: Step.snd :: Step.snd :: Step.snd :: Step.snd :: Step.fst :: ([] : List Step);
∀ (q : Nat) (x : Sp.Mk),
 let q5 : Int × Int × Int × List Sp.Arr × List Sp.Opd × List Sp.Block × Unit := x.2.2.1.2.2;
 let q6 : Int × Int × List Sp.Arr × List Sp.Opd × List Sp.Block × Unit := q5.2;
 let q7 : Int × List Sp.Arr × List Sp.Opd × List Sp.Block × Unit := q6.2;
 let q8 : List Sp.Arr × List Sp.Opd × List Sp.Block × Unit := q7.2;
 let q9 : List Sp.Opd × List Sp.Block × Unit := q8.2;
 let q10 : List Sp.Block × Unit := q9.2;
 let q11 : List Sp.Block := q10.1;
 ∀ (y : Unit), Sp.aG (5000 : Nat) x -> aB (tU8.slice.prod (tI.prod ((tI.prod (tI.prod (tI.prod (tI.prod (tI.prod (cG.slice.prod (bF.slice.prod ((aL.slice.prod ((tI.prod (tI.prod (aQ.prod (aQ.prod (aQ.prod ((Ty.arr q0 tI).prod Ty.unit)))))).prod Ty.unit)).slice.prod Ty.unit)))))))).prod Ty.unit))) x -> True -> ((True /\ True /\ True /\ True /\ True /\ True /\ True /\ True /\ True) /\ (↑(q11.length + q3.length) : Int) <= maxNew /\ True /\ True /\ True /\ q4 = q4 /\ True) /\ (x.1, x.2.1, (x.2.2.1.1, x.2.2.1.2.1, q5.1, q6.1, q7.1, q8.1, q9.1, q11 ++ q3, q10.2), x.2.2.2) = Sp.fH x /\ (([] : List Go.ResultVar)).toArray.toList = ([] : List Go.ResultVar) /\ Ty.unit = Ty.unit) := by kernel_rfl
theorem vc50 : (∀ q : Nat, funP (C50 q) (cN (C50 q)) S50 (L50 q) Try.f50) = (
let q0 : Nat := (5000 : Nat);
let q1 : Int := (6 : Int);
∀ (q : Nat) (x : Sp.Mk) (y : Unit), Sp.aG q0 x -> aB tMk x -> True -> ((True /\ True) /\ True) /\ ((True /\ True) /\ Sp.aG q0 x /\ q1 ≠ (0 : Int) /\ True /\ True /\ True) /\ Sp.nxM x = Sp.nxM x /\ Sp.cZ ((Sp.nxV x).tmod q1) = Sp.eN x) := by kernel_rfl
theorem vc51 : (∀ q : Nat, funP (C51 q) (cN (C51 q)) S51 (L51 q) Try.f51) = (
let q0 : Nat := (5000 : Nat);
let q1 : Int := (3 : Int);
let q2 : Int := (0 : Int);
let q3 : Prop := q1 ≠ q2;
let q4 : Int := (6 : Int);
∀ (q : Nat) (x : Sp.Mk),
 let q5 : Bool := (Sp.nxV x).tmod q1 == q2;
 let q6 : Int := (Sp.nxV x).tdiv q1;
 let q7 : Prop := q3 /\ inK IntKind.i64 q6;
 let q8 : Prop := Sp.nxM x = Sp.nxM x;
 ∀ (y : Unit), Sp.aG q0 x -> aB tMk x -> True -> ((True /\ True) /\ True) /\ ((True /\ True) /\ Sp.aG q0 x /\ True /\ True) /\ ((True /\ q3 /\ True /\ True) /\ True) /\ (q5 = true -> ((True /\ q7 /\ True /\ True /\ True /\ True) /\ True /\ True) /\ q8 /\ Sp.conO (IntKind.i32.wrap (IntKind.i32.wrap q6 - (20 : Int))) = Sp.eY x) /\ (q5 = false -> ((True /\ q7 /\ q4 ≠ q2 /\ True /\ True) /\ True /\ True) /\ q8 /\ Sp.cZ (q6.tmod q4) = Sp.eY x)) := by kernel_rfl
end Go.User
namespace Sp
theorem aG.mono {n m : Nat} {s : Mk} (h : aG n s) (hm : n <= m) : aG m s :=
 ⟨h.at0, by have := h.at1; omega, h.arr, Nat.le_trans h.blk hm, fun b hb => Nat.le_trans (h.ins b hb) hm, Nat.le_trans h.lps hm⟩
theorem aG.nx {n : Nat} {s : Mk} (h : aG n s) : aG (n + 1) (nxM s) := by
 have h0 := h.at0
 have h1 := h.at1
 exact ⟨by show 0 <= s.2.1 + 1; omega, by show s.2.1 + 1 <= ((n + 1 : Nat) : Int); omega, h.arr, Nat.le_succ_of_le h.blk, fun b hb => Nat.le_succ_of_le (h.ins b hb), Nat.le_succ_of_le h.lps⟩
theorem mem_set_cases {α} {l : List α} {i : Nat} {a b : α} (h : b ∈ l.set i a) : b ∈ l ∨ b = a := List.mem_or_eq_of_mem_set h
theorem aG.put {n : Nat} {s : Mk} (h : aG n s) (i : Inst) : aG (n + 1) (eB s i) := by
 refine ⟨h.at0, by have := h.at1; show s.2.1 <= ((n + 1 : Nat) : Int); omega, h.arr, ?_, ?_, Nat.le_succ_of_le h.lps⟩
 ·show (List.set _ _ _).length <= _
  rw [List.length_set]; exact Nat.le_succ_of_le h.blk
 ·intro b hb
  rcases mem_set_cases (show b ∈ List.set _ _ _ from hb) with hb | rfl
  ·exact Nat.le_succ_of_le (h.ins b hb)
  ·show (List.length (_ ++ [i])) <= n + 1
   rw [List.length_append];have : ((cB s.2.2.1).getD ((cB s.2.2.1).length - 1) blk0).1.length <= n := by
    rcases Nat.lt_or_ge ((cB s.2.2.1).length - 1) (cB s.2.2.1).length with hl | hl
    ·rw [List.getD_eq_getElem?_getD, List.getElem?_eq_getElem hl]; exact h.ins _ (List.getElem_mem hl)
    ·rw [List.getD_eq_getElem?_getD, List.getElem?_eq_none hl]; exact Nat.zero_le _
   simpa using Nat.succ_le_succ this
theorem has.put {s : Mk} (h : has s) (i : Inst) : has (eB s i) := by
 unfold has
 show 0 < (List.set _ _ _).length
 rw [List.length_set]; exact h
theorem aG.bl {n : Nat} {s : Mk} (h : aG n s) : aG (n + 1) (fH s) := by
 refine ⟨h.at0, by have := h.at1; show s.2.1 <= ((n + 1 : Nat) : Int); omega, h.arr, ?_, ?_, Nat.le_succ_of_le h.lps⟩
 ·show (List.length (_ ++ [blk0])) <= n + 1
  rw [List.length_append]; exact Nat.succ_le_succ h.blk
 ·intro b hb
  rcases List.mem_append.1 (show b ∈ cB s.2.2.1 ++ [blk0] from hb) with hb | hb
  ·exact Nat.le_succ_of_le (h.ins b hb)
  ·rw [List.mem_singleton.1 hb]; exact Nat.zero_le _
theorem has.bl {s : Mk} : has (fH s) := by
 show 0 < (List.length (_ ++ [blk0]))
 rw [List.length_append]; exact Nat.succ_pos _
theorem fM (s : Mk) (h : ∀ v ∈ s.1, 0 <= v /\ v <= 255) : 0 <= nxV s /\ nxV s <= 255 := by
 unfold nxV
 split
 ·exact ⟨Int.le_refl _, by omega⟩
 ·rw [List.getD_eq_getElem?_getD]
  rcases Nat.lt_or_ge s.2.1.toNat s.1.length with hl | hl
  ·rw [List.getElem?_eq_getElem hl]; exact h _ (List.getElem_mem hl)
  ·rw [List.getElem?_eq_none hl]; exact ⟨Int.le_refl _, by decide⟩
end Sp
namespace Go.User
open Go.Lf Go.Proofs
theorem okM' {C : Ctx} (q : Nat) (h : ∀ f s, Lf.look C.fns f = some s -> FOk Try.prog f s) (hp : ∀ f s, Lf.look C.ptrs f = some s -> ∃ o, POk Try.prog f s o /\ ∀ q, o = some q -> C.pin.isSome = true /\ q = C.q) (h1 : C.tys = cS q) (h2 : C.eqs = eqs) (h4 : C.thk = none) (h5 : C.clo = none) (h6 : C.ins = []) (h7 : C.kno = none) : aF Try.prog C :=
 ctx_okQ q h1 h2 h hp (fun _ h => by rw [h4] at h; cases h) (fun _ h => by rw [h5] at h; cases h) (by rw [h6]; exact ins_nil) (fun _ h => by rw [h7] at h; cases h)
theorem dM {l : List Int} (h : aB (.slice tU8) l) : ∀ v ∈ l, 0 <= v /\ v <= 255 := by
 intro v hv
 have := h.2 v hv
 exact ⟨this.1, this.2⟩
theorem inN_last {n : Nat} (h : 0 < n) : inN ((n : Int) - 1) n := ⟨by omega, by omega⟩
theorem ok46 : FOk Try.prog 46 S46 := by
 have hC : aF Try.prog C46 := okC aO rfl rfl rfl rfl rfl rfl rfl
 refine FOk.intro hC (aR hC) Try.call46 Try.func46 (by kernel_rfl) (by kernel_rfl) L46 (vc46.mpr ?_)
 simp only [zz, zy]
 rfl
theorem ok54 : FOk Try.prog 54 S54 := by
 refine FOk.intro (okA aO) (aR (okA aO)) Try.call54 Try.func54 (by kernel_rfl) (by kernel_rfl) L54 (vc54.mpr ?_)
 simp only [zz, zy]
 intros; rfl
theorem ok55 : FOk Try.prog 55 S55 := by
 refine FOk.intro (okA aO) (aR (okA aO)) Try.call55 Try.func55 (by kernel_rfl) (by kernel_rfl) L55 (vc55.mpr ?_)
 simp only [zz, zy]
 intros; rfl
theorem pk45 : POk Try.prog 45 S45 := by
 have hC : ∀ q, aF Try.prog (C45 q) := fun q => okM' q aO eI rfl rfl rfl rfl rfl rfl
 refine POk.intro hC (fun q => aR (hC q)) Try.call45 Try.func45 (fun q => rfl) (by kernel_rfl) L45 (vc45.mpr ?_)
 simp only [zz, zy]
 intro x hM hx
 have h0 := hM.at0
 have h1 := hM.at1
 have h1 : x.2.1 <= 5000 := h1
 refine ⟨aS (by omega) (by omega), fun h => ⟨rfl, ?_⟩, fun h => ⟨⟨aS (by omega) (by omega), by show 0 <= _; omega, by show _ < (List.length x.1 : Int); omega⟩, rfl, ?_⟩⟩
 ·show 0 = Sp.nxV x
  unfold Sp.nxV;rw [if_pos h]
 ·show _ = Sp.nxV x
  unfold Sp.nxV;rw [if_neg (by omega)];have e : (x.2.1 + 1 - 1).toNat = x.2.1.toNat := by omega
  show x.1.getD (x.2.1 + 1 - 1).toNat 0 = _
  rw [e]
theorem pk66 : POk Try.prog 66 S66 := by
 have hC : ∀ q, aF Try.prog (C66 q) := fun q => okM' q aO eI rfl rfl rfl rfl rfl rfl
 refine POk.intro hC (fun q => aR (hC q)) Try.call66 Try.func66 (fun q => rfl) (by kernel_rfl) L66 (vc66.mpr ?_)
 simp only [zz, zy]
 intro x y hM hx hy
 have hb := hM.1.blk
 have hi := hM.1.ins
 have hh := hM.2
 unfold Sp.cB at hb hi
 unfold Sp.has Sp.cB at hh
 revert hb hi hh
 obtain ⟨L, A, ⟨c1, c2, c3, c4, c5, c6, c7, B, u⟩, u2⟩ := x
 intro hb hi hh
 have hb : B.length <= 5000 := hb
 have hi : ∀ b ∈ B, b.1.length <= 5000 := hi
 have hh : 0 < B.length := hh
 have e : ((B.length : Int) - 1).toNat = B.length - 1 := by omega
 have hin := inN_last hh
 refine ⟨aS (by omega) (by omega), ⟨hin, ?_, hin⟩, ?_⟩
 ·show ((List.length (List.getD B ((B.length : Int) - 1).toNat Sp.blk0).1 + 1 : Nat) : Int) <= maxNew
  rw [maxNew_eq, e];have : (List.getD B (B.length - 1) Sp.blk0).1.length <= 5000 := by
   rw [List.getD_eq_getElem?_getD, List.getElem?_eq_getElem (by omega)]; exact hi _ (List.getElem_mem _)
  omega
 ·show (L, A, (c1, c2, c3, c4, c5, c6, c7, List.set B ((B.length : Int) - 1).toNat ((List.getD B ((B.length : Int) - 1).toNat Sp.blk0).1 ++ [y.1], (List.getD B ((B.length : Int) - 1).toNat Sp.blk0).2), u), u2) = _
  rw [e]
  rfl
theorem pk49 : POk Try.prog 49 S49 := by
 have hC : ∀ q, aF Try.prog (C49 q) := fun q => okM' q aO eI rfl rfl rfl rfl rfl rfl
 refine POk.intro hC (fun q => aR (hC q)) Try.call49 Try.func49 (fun q => rfl) (by kernel_rfl) L49 ?_
 rw [vc49]
 simp only [zz, zy]
 intro x hM hx
 have hb := hM.blk
 unfold Sp.cB at hb
 refine ⟨?_, rfl⟩
 rw [maxNew_eq]
 have hb' : ((x.2.2.1.2.2.2.2.2.2.2.1.length : Nat) : Int) <= 5000 := Int.ofNat_le.mpr hb
 show ((x.2.2.1.2.2.2.2.2.2.2.1.length + 1 : Nat) : Int) <= 2147483648
 omega
theorem pk50 : POk Try.prog 50 S50 := by
 have hC : ∀ q, aF Try.prog (C50 q) := fun q => okM' q (aE ok54 aO) (b9 pk45 eI) rfl rfl rfl rfl rfl rfl
 refine POk.intro hC (fun q => aR (hC q)) Try.call50 Try.func50 (fun q => rfl) (by kernel_rfl) L50 (vc50.mpr ?_)
 simp only [zz, zy]
 intro x hM hx
 refine ⟨⟨hM, by decide⟩, ?_⟩
 rfl
theorem pk51 : POk Try.prog 51 S51 := by
 have hC : ∀ q, aF Try.prog (C51 q) := fun q => okM' q (aE ok54 (aE ok55 aO)) (b9 pk45 eI) rfl rfl rfl rfl rfl rfl
 refine POk.intro hC (fun q => aR (hC q)) Try.call51 Try.func51 (fun q => rfl) (by kernel_rfl) L51 (vc51.mpr ?_)
 simp only [zz, zy]
 intro x hM hx
 have hb := dM hx.1
 have hv := Sp.fM x hb
 have hk : inK .i64 ((Sp.nxV x).tdiv 3) := by
  have h3 : (Sp.nxV x).tdiv 3 = Sp.nxV x / 3 := Int.tdiv_eq_ediv_of_nonneg hv.1
  rw [h3];exact aS (by omega) (by omega)
 refine ⟨hM, by decide, fun h => ⟨⟨by decide, hk⟩, ?_⟩, fun h => ⟨⟨⟨by decide, hk⟩, by decide⟩, ?_⟩⟩
 ·show _ = Sp.eY x
  unfold Sp.eY;rw [if_pos h]
 ·show _ = Sp.eY x
  unfold Sp.eY;rw [if_neg h]
end Go.User
namespace Sp
def i3 (op sub n : Int) (d a b : Opd) : Inst := (op, sub, n, d, a, b, dD, ())
def plN (s : Mk) (p : Bool) : Int := if Int.tmod (nxV s) 5 = 3 /\ p = false then 0 else Int.tmod (nxV s) 5
def plD (s : Mk) : Opd := eN (nxM s)
def plI (s : Mk) (p : Bool) : Inst := i3 3 17 0 (plD s) (eY (nxM (nxM s))) (conO (Go.IntKind.wrap .i32 ((arrs.getD (plN s p).toNat ([], 0, 0, 0, ())).2.2.2.1 - 1)))
def plM (s : Mk) (p : Bool) : Mk := eB (nxM (nxM (nxM s))) (plI s p)
def inK (s : Mk) : Int := Int.tmod (nxV s) 16
def in0 (s : Mk) : Mk := eB (nxM (nxM s)) (i3 5 (1 + Int.tmod (nxV s) 7) 0 (eN (nxM s)) dD dD)
def in3 (s : Mk) : Mk := eB (nxM (nxM (nxM (nxM s)))) (i3 3 (10 + Int.tmod (nxV s) 20) 0 (eN (nxM s)) (eY (nxM (nxM s))) (eY (nxM (nxM (nxM s)))))
def in7 (s : Mk) : Mk := eB (nxM (nxM (nxM s))) (i3 2 (1 + Int.tmod (nxV s) 5) 0 (eN (nxM s)) (eY (nxM (nxM s))) dD)
def in8 (s : Mk) : Mk := eB (nxM (nxM (nxM (nxM s)))) (4, 0, 0, eN s, eY (nxM s), eY (nxM (nxM s)), eY (nxM (nxM (nxM s))), ())
def in9 (s : Mk) : Mk := eB (nxM (nxM s)) (i3 1 0 0 (eN s) (eY (nxM s)) dD)
def in10 (s : Mk) : Mk := eB (nxM (nxM s)) (i3 6 0 (Int.tmod (nxV s) 3) (eN (nxM s)) dD dD)
def in11 (s : Mk) : Mk := eB (nxM s) (i3 10 (1 + Int.tmod (nxV s) 2) 0 dD dD dD)
def ops6 : List Int := [10, 22, 23, 17, 18, 19]
def in12 (s : Mk) : Mk := eB (nxM (nxM (plM s false))) (i3 9 (ops6.getD (Int.tmod (nxV (plM s false)) 6).toNat 0) (plN s false) dD (plD s) (eY (nxM (plM s false))))
def in13 (s : Mk) : Mk := eB (nxM (plM s true)) (i3 7 0 (plN s true) (eN (plM s true)) (plD s) dD)
def in14 (s : Mk) : Mk := eB (nxM (plM s true)) (i3 8 0 (plN s true) dD (plD s) (eY (plM s true)))
def instF (k : Int) (s : Mk) : Mk :=
 if k < 3 then in0 s else if k < 7 then in3 s else if k = 7 then in7 s else if k = 8 then in8 s else if k = 9 then in9 s else if k = 10 then in10 s
 else if k = 11 then in11 s else if k = 12 then in12 s else if k = 13 then in13 s else in14 s
def bV (s : Mk) : Mk := instF (inK s) (nxM s)
def instN : Nat -> Mk -> Mk
 | 0, s => s
 | k + 1, s => instN k (bV s)
def insM (s : Mk) : Mk := instN (Int.tmod (nxV s) 5).toNat (nxM s)
end Sp
namespace Go.User
open Go.Lf
def S72 : cX := { τ := tMk, m := mMk, args := [.val .bool], multi := true, res := .prod tI (.prod aQ .unit), pre := fun s _ => Sp.aG 4900 s /\ Sp.has s, fn := fun s y => Sp.plM s y.1, out := fun s y => (Sp.plN s y.1, Sp.plD s, ()) }
def C72 (q : Nat) : Ctx := mkM 39 q [(55, S55)] [(45, S45), (50, S50), (51, S51), (66, S66)]
def L72 (q : Nat) (x : S72.τ.den) (y : aN S72.args) : List aW := []
def S67 : cX := { τ := tMk, m := mMk, pre := fun s _ => Sp.aG 4800 s /\ Sp.has s, fn := fun s y => Sp.bV s, out := fun _ _ => () }
def C67 (q : Nat) : Ctx := mkM 133 q [] [(45, S45), (50, S50), (51, S51), (66, S66), (72, S72)]
def L67 (q : Nat) (x : S67.τ.den) (y : aN S67.args) : List aW := []
def S52 : cX := { τ := tMk, m := mMk, pre := fun s _ => Sp.aG 4500 s /\ Sp.has s, fn := fun s y => Sp.insM s, out := fun _ _ => () }
def C52 (q : Nat) : Ctx := mkM 12 q [] [(45, S45), (67, S67)]
def L52 (q : Nat) (x : S52.τ.den) (y : aN S52.args) : List aW := [
 {ι := Nat × Sp.Mk, inv := fun t => t.1 <= 4 /\ Sp.aG (4700 - 10 * t.1) t.2 /\ Sp.has t.2 /\ Sp.instN t.1 t.2 = Sp.insM x, dec := fun t => t.1, ovr := fun t => [(0, .box tMk mMk t.2), (2, .shr tI (t.1 : Int))], keep := [] }]
end Go.User
