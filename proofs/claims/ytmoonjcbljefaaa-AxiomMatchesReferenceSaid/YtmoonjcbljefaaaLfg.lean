/- Lists of events, the relations, whether lists are right: what is computed. Whether a graph is right, and allowed: what is computed. Graphs out of bytes; fixed examples: what is computed. Tests out of bytes; the fixed examples; the law of coherence: what is computed. One operation after the other on a memory; the law of sequential executions: what is computed. The law of fences: what is computed. The law of renaming: what is computed. The reference of the axioms; changes of graphs and tests; the law of the reference: what is computed. Written by gen.py: what is left to show of each function. -/
import Derived.Test.YtmoonjcbljefaaaLff
set_option linter.unusedVariables false
set_option linter.unusedSimpArgs false
namespace Sp
def mkEv (c : Int) (o : LOp) : LEv := (c, o, 0, ())
def evs : Int → List (List LOp) → List LEv
  | _, [] => []
  | c, l :: ls => l.map (mkEv c) ++ evs (c + 1) ls
/-- The numbers below n with a property. -/
def sel (p : Nat → Bool) (n : Nat) : List Int := ((List.range n).filter p).map (fun (i : Nat) => (i : Int))
def wr (e : List LEv) (x : Int) : List Int := sel (fun i => writes (ev e i).2.1 && decide ((ev e i).2.1.2.1 = x)) e.length
def fen (e : List LEv) : List Int := sel (fun i => decide ((ev e i).2.1.1 = 4)) e.length
def shuf : Nat → List Int → List Int → Int → List Int
  | 0, _, _, _ => []
  | n + 1, l, b, i => l.getD ((byteAt b i).tmod (l.length : Int)).toNat 0 :: shuf n (l.eraseIdx ((byteAt b i).tmod (l.length : Int)).toNat) b (i + 1)
def shuffled (l b : List Int) (i : Int) : List Int := shuf l.length l b i
def get2 (r : Rel) (a b : Nat) : Bool := (r.getD a (List.replicate 6 false)).getD b false
def upd2 (r : Rel) (a b : Nat) (v : Bool) : Rel := r.set a ((r.getD a (List.replicate 6 false)).set b v)
def stepB (k a : Nat) (r : Rel) (b : Nat) : Rel := upd2 r a b (get2 r a b || (get2 r a k && get2 r k b))
def rowB (k a : Nat) (r : Rel) (n : Nat) : Rel := (List.range n).foldl (stepB k a) r
def rowA (k : Nat) (r : Rel) (n : Nat) : Rel := (List.range n).foldl (fun r a => rowB k a r 6) r
def closeN (r : Rel) (n : Nat) : Rel := (List.range n).foldl (fun r k => rowA k r 6) r
def close (r : Rel) : Rel := closeN r 6
def round (r : Rel) : Bool := (List.range 6).any fun a => get2 r a a
def mat (f : Nat → Nat → Bool) : Rel := (List.range 6).map fun a => (List.range 6).map fun b => f a b
/-- Ordered by the program, or by the fences. -/
def ordF (e : List LEv) (fo : List Int) (a b : Nat) : Bool :=
  (decide (a < b) && decide (b < e.length) && decide ((ev e a).1 = (ev e b).1)) || (List.range fo.length).any fun j => (List.range j).any fun i => decide (fo.getD i 0 = a) && decide (fo.getD j 0 = b)
def oA (e : List LEv) (i a b : Nat) : Bool := decide (a < i) && ordF e [] a b
def oB (e : List LEv) (i k a b : Nat) : Bool := (decide (a < i) || (decide (a = i) && decide (b < k))) && ordF e [] a b
def fo2 (fo : List Int) (p q a b : Nat) : Bool := decide (fo.getD p 0 = (a : Int)) && decide (fo.getD q 0 = (b : Int))
def oC (e : List LEv) (fo : List Int) (i a b : Nat) : Bool := ordF e [] a b || (List.range i).any fun p => (List.range fo.length).any fun q => decide (p < q) && fo2 fo p q a b
def oD (e : List LEv) (fo : List Int) (i k a b : Nat) : Bool := oC e fo i a b || (List.range k).any fun q => fo2 fo i (i + 1 + q) a b
def order (g : Gr) : Rel := mat (ordF g.1 g.2.2.2.1)
def plc (g : Gr) (n : Int) : Int × Int × Unit :=
  (idx (g.2.2.1.getD (ev g.1 n).2.1.2.1.toNat []) n, idx (g.2.2.1.getD (ev g.1 n).2.1.2.1.toNat []) (g.2.1.getD n.toNat 0), ())
/-- A list has exactly the events of a kind, each once. -/
def isList (l : List Int) (e : List LEv) (is : LOp → Bool) : Bool :=
  decide (l.Nodup ∧ ∀ n ∈ l, 0 ≤ n ∧ n < e.length ∧ is (ev e n).2.1 = true) && decide (∀ n < e.length, is (ev e n).2.1 = true → (n : Int) ∈ l)
def valid (t : Lit) : Bool :=
  decide (1 ≤ t.1.length) && decide (t.1.length ≤ 4) && decide (1 ≤ (evs 0 t.1).length) && decide ((evs 0 t.1).length ≤ 6) && (evs 0 t.1).all fun x => usual x.2.1
end Sp
namespace Go.User
open Go.Lf
-- events, Events
def S41 : FSpec := { args := [.val tLit], multi := false, res := .slice tLEv, mode := .own .shr, pre := fun x => (Sp.evs 0 x.1.1).length ≤ 1000, fn := fun x => Sp.evs 0 x.1.1 }
def C41 : Ctx := mkC 31 []
def L41 (x : kdens S41.args) : List LoopI := [
  { ι := Nat × List Sp.LEv, inv := fun i => i.1 ≤ x.1.1.length ∧ i.2 = Sp.evs 0 (x.1.1.take i.1), dec := fun i => x.1.1.length - i.1, ovr := fun i => [(11, .shr tI (i.1 : Int)), (3, .own (.slice tLEv) (.own .shr) i.2)], keep := [1, 9, 10], sub := fun i => [
    { ι := Nat × List Sp.LEv, inv := fun k => k.1 ≤ (x.1.1.getD i.1 []).length ∧ k.2 = Sp.evs 0 (x.1.1.take i.1) ++ ((x.1.1.getD i.1 []).take k.1).map (Sp.mkEv (i.1 : Int)), dec := fun k => (x.1.1.getD i.1 []).length - k.1, ovr := fun k => [(18, .shr tI (k.1 : Int)), (3, .own (.slice tLEv) (.own .shr) k.2)], keep := [1, 9, 10, 11, 4, 16, 17] }] }]
def S33 := S41
def C33 : Ctx := mkC 38 []
def L33 (x : kdens S41.args) : List LoopI := [
  { ι := Nat × List Sp.LEv, inv := fun i => i.1 ≤ x.1.1.length ∧ i.2 = Sp.evs 0 (x.1.1.take i.1), dec := fun i => x.1.1.length - i.1, ovr := fun i => [(4, .shr tI (i.1 : Int)), (3, .own (.slice tLEv) (.own .shr) i.2)], keep := [1], sub := fun i => [
    { ι := Nat × List Sp.LEv, inv := fun k => k.1 ≤ (x.1.1.getD i.1 []).length ∧ k.2 = Sp.evs 0 (x.1.1.take i.1) ++ ((x.1.1.getD i.1 []).take k.1).map (Sp.mkEv (i.1 : Int)), dec := fun k => (x.1.1.getD i.1 []).length - k.1, ovr := fun k => [(5, .shr tI (k.1 : Int)), (3, .own (.slice tLEv) (.own .shr) k.2)], keep := [1, 4] }] }]
-- Writes, Fences
def S34 : FSpec := { args := [.val (.slice tLEv), .val tI], multi := false, res := .slice tI, mode := .own .shr, pre := fun x => List.length x.1 ≤ 1000, fn := fun x => Sp.wr x.1 x.2.1 }
def C34 : Ctx := mkC 35 [(32, S32)]
def L34 (x : kdens S34.args) : List LoopI := [
  { ι := Nat × List Int, inv := fun i => i.1 ≤ List.length x.1 ∧ i.2 = Sp.sel (fun i => Sp.writes (Sp.ev x.1 i).2.1 && decide ((Sp.ev x.1 i).2.1.2.1 = x.2.1)) i.1, dec := fun i => List.length x.1 - i.1, ovr := fun i => [(6, .shr tI (i.1 : Int)), (5, .own (.slice tI) (.own .shr) i.2)], keep := [0, 1] }]
def S36 : FSpec := { args := [.val (.slice tLEv)], multi := false, res := .slice tI, mode := .own .shr, pre := fun x => List.length x.1 ≤ 1000, fn := fun x => Sp.fen x.1 }
def C36 : Ctx := mkC 24 []
def L36 (x : kdens S36.args) : List LoopI := [
  { ι := Nat × List Int, inv := fun i => i.1 ≤ List.length x.1 ∧ i.2 = Sp.sel (fun i => decide ((Sp.ev x.1 i).2.1.1 = 4)) i.1, dec := fun i => List.length x.1 - i.1, ovr := fun i => [(4, .shr tI (i.1 : Int)), (3, .own (.slice tI) (.own .shr) i.2)], keep := [0] }]
-- shuffled
def S35 : FSpec := { args := [.val (.slice tI), .val (.slice (.int .u8)), .val tI], multi := false, res := .slice tI, mode := .own .shr, pre := fun x => List.length x.1 ≤ 1000 ∧ (0 : Int) ≤ x.2.2.1 ∧ (x.2.2.1 : Int) ≤ 1000, fn := fun x => Sp.shuffled x.1 x.2.1 x.2.2.1 }
def C35 : Ctx := mkC 43 [(38, S38)]
def L35 (x : kdens S35.args) : List LoopI := [
  { ι := List Int × List Int × Int, inv := fun i => i.1.length + i.2.1.length = List.length x.1 ∧ (0 : Int) ≤ i.2.2 ∧ i.2.2 + i.2.1.length = x.2.2.1 + List.length x.1 ∧ i.1 ++ Sp.shuf i.2.1.length i.2.1 x.2.1 i.2.2 = Sp.shuffled x.1 x.2.1 x.2.2.1, dec := fun i => i.2.1.length, ovr := fun i => [(7, .own (.slice tI) (.own .shr) i.1), (8, .own (.slice tI) (.own .shr) i.2.1), (2, .shr tI i.2.2)], keep := [0, 1] }]
-- where
def S53 : FSpec := { args := [.val tGr, .val tI], multi := false, res := tPl, mode := .shr, pre := fun x => inN x.2.1 (List.length x.1.1) ∧ inN x.2.1 (List.length x.1.2.1) ∧ inN (Sp.ev x.1.1 x.2.1).2.1.2.1 (List.length x.1.2.2.1), fn := fun x => Sp.plc x.1 x.2.1 }
def C53 : Ctx := mkC 31 [(63, S63)]
def L53 (x : kdens S53.args) : List LoopI := []
-- close, round
def S51 : PSpec := { τ := tRel, pre := fun _ => True, fn := fun r => Sp.close r }
def C51 : Ctx := { mkC 48 [] with p0 := true }
def L51 (x : S51.τ.den) : List LoopI := [
  { ι := Nat × Sp.Rel, inv := fun i => i.1 ≤ 6 ∧ i.2 = Sp.closeN x i.1, dec := fun i => 6 - i.1, ovr := fun i => [(5, .shr tI (i.1 : Int)), (0, .box tRel .shr i.2)], keep := [], sub := fun i => [
    { ι := Nat × Sp.Rel, inv := fun a => a.1 ≤ 6 ∧ a.2 = Sp.rowA i.1 (Sp.closeN x i.1) a.1, dec := fun a => 6 - a.1, ovr := fun a => [(8, .shr tI (a.1 : Int)), (0, .box tRel .shr a.2)], keep := [5, 2], sub := fun a => [
      { ι := Nat × Sp.Rel, inv := fun b => b.1 ≤ 6 ∧ b.2 = Sp.rowB i.1 a.1 (Sp.rowA i.1 (Sp.closeN x i.1) a.1) b.1, dec := fun b => 6 - b.1, ovr := fun b => [(11, .shr tI (b.1 : Int)), (0, .box tRel .shr b.2)], keep := [5, 2, 8, 3] }] }] }]
def S52 : FSpec := { args := [.sptr tRel], multi := false, res := .bool, mode := .shr, pre := fun _ => True, fn := fun x => Sp.round x.1 }
def C52 : Ctx := mkC 15 []
def L52 (x : kdens S52.args) : List LoopI := [
  { ι := Nat, inv := fun i => i ≤ 6 ∧ ∀ a < i, Sp.get2 x.1 a a = false, dec := fun i => 6 - i, ovr := fun i => [(4, .shr tI (i : Int))], keep := [0] }]
-- order
def S50 : FSpec := { args := [.val tGr], multi := false, res := tRel, mode := .shr, pre := fun x => List.length x.1.1 ≤ 6 ∧ ∀ n ∈ (x.1.2.2.2.1 : List Int), inN n 6, fn := fun x => Sp.order x.1 }
def mRel : Md := .own (.own .shr)
def C50 : Ctx := mkC 68 []
def L50 (x : kdens S50.args) : List LoopI := [
  { ι := Nat, inv := fun i => i ≤ List.length x.1.1, dec := fun i => List.length x.1.1 - i, ovr := fun i => [(13, .shr tI (i : Int)), (3, .box tRel mRel (Sp.mat (Sp.oA x.1.1 i)))], keep := [1, 2, 11, 12], sub := fun i => [
    { ι := Nat, inv := fun k => i < k ∧ k ≤ List.length x.1.1, dec := fun k => List.length x.1.1 - k, ovr := fun k => [(5, .shr tI (k : Int)), (3, .box tRel mRel (Sp.mat (Sp.oB x.1.1 i k)))], keep := [1, 2, 11, 12, 13, 4] }] },
  { ι := Nat, inv := fun i => i ≤ List.length x.1.2.2.2.1, dec := fun i => List.length x.1.2.2.2.1 - i, ovr := fun i => [(46, .shr tI (i : Int)), (3, .box tRel mRel (Sp.mat (Sp.oC x.1.1 x.1.2.2.2.1 i)))], keep := [1, 2, 44, 45], sub := fun i => [
    { ι := Nat, inv := fun k => i + 1 + k ≤ List.length x.1.2.2.2.1, dec := fun k => List.length x.1.2.2.2.1 - k, ovr := fun k => [(57, .shr tI (k : Int)), (3, .box tRel mRel (Sp.mat (Sp.oD x.1.1 x.1.2.2.2.1 i k)))], keep := [1, 2, 44, 45, 46, 6, 7, 55, 56] }] }]
-- isList
def S45 : FSpec := { args := [.val (.slice tI), .val (.slice tLEv), .fn [tLOp] .bool], multi := false, res := .bool, mode := .shr, pre := fun x => List.length x.2.1 ≤ 1000 ∧ ∀ o, x.2.2.1.pre (o, ()), fn := fun x => Sp.isList x.1 x.2.1 (fun o => x.2.2.1.fn (o, ())) }
def C45 : Ctx := mkC 68 []
def L45 (x : kdens S45.args) : List LoopI := [
  { ι := Nat × List Bool, inv := fun i => i.1 ≤ List.length x.1 ∧ i.2.length = List.length x.2.1 ∧ (List.take i.1 x.1).Nodup ∧ (∀ n ∈ (List.take i.1 x.1 : List Int), 0 ≤ n ∧ n < (List.length x.2.1 : Int) ∧ x.2.2.1.fn ((Sp.ev x.2.1 n).2.1, ()) = true) ∧ ∀ n < List.length x.2.1, (i.2.getD n false = true ↔ (n : Int) ∈ (List.take i.1 x.1 : List Int)), dec := fun i => List.length x.1 - i.1, ovr := fun i => [(16, .shr tI (i.1 : Int)), (7, .own (.slice .bool) (.own .shr) i.2)], keep := [0, 1, 2, 14, 15] },
  { ι := Nat, inv := fun i => i ≤ List.length x.2.1 ∧ ∀ n < i, x.2.2.1.fn ((Sp.ev x.2.1 n).2.1, ()) = true → (n : Int) ∈ (x.1 : List Int), dec := fun i => List.length x.2.1 - i, ovr := fun i => [(50, .shr tI (i : Int))], keep := [0, 1, 2, 7, 48, 49] }]
-- Valid
def S21 : FSpec := { args := [.val tLit], multi := false, res := .bool, mode := .shr, pre := fun x => (Sp.evs 0 x.1.1).length ≤ 1000, fn := fun x => Sp.valid x.1 }
def C21 : Ctx := mkC 31 [(41, S41), (60, S60), (61, S61)]
def L21 (x : kdens S21.args) : List LoopI := []
end Go.User
namespace Sp
def coh (g : Gr) (a b : Int) : Bool :=
  let low := if writes (ev g.1 a).2.1 = true then (plc g a).1 else (plc g a).2.1
  !(reads (ev g.1 b).2.1 && decide ((plc g b).2.1 < low)) && !(writes (ev g.1 b).2.1 && decide ((plc g b).1 ≤ low))
def src (e : List LEv) (g : Gr) (n : Nat) : Prop :=
  (ev g.1 n).1 = (ev e n).1 ∧ (ev g.1 n).2.1 = (ev e n).2.1 ∧ -1 ≤ g.2.1.getD n 0 ∧ g.2.1.getD n 0 < (e.length : Int) ∧
  (0 ≤ g.2.1.getD n 0 → reads (ev e n).2.1 = true ∧ writes (ev e (g.2.1.getD n 0)).2.1 = true ∧ (ev e (g.2.1.getD n 0)).2.1.2.1 = (ev e n).2.1.2.1)
instance (e : List LEv) (g : Gr) (n : Nat) : Decidable (src e g n) := by unfold src; infer_instance
def got (g : Gr) (n : Nat) : Prop := (ev g.1 n).2.2.1 = if reads (ev g.1 n).2.1 = true then value g.1 (g.2.1.getD n 0) else 0
instance (g : Gr) (n : Nat) : Decidable (got g n) := by unfold got; infer_instance
def right (t : Lit) (g : Gr) : Bool :=
  valid t && decide (g.1.length = (evs 0 t.1).length) && decide (g.2.1.length = (evs 0 t.1).length) && decide (g.2.2.1.length = 3) &&
  decide (∀ n < (evs 0 t.1).length, src (evs 0 t.1) g n) && decide (∀ n < g.1.length, got g n) &&
  ((List.range 3).all fun p => isList (g.2.2.1.getD p []) (evs 0 t.1) (fun o => writes o && decide (o.2.1 = (p : Int)))) &&
  isList g.2.2.2.1 (evs 0 t.1) (fun o => decide (o.1 = 4))
def flowN (g : Gr) (i a b : Nat) : Bool := ordF g.1 g.2.2.2.1 a b || (decide (b < i) && decide (g.2.1.getD b 0 = (a : Int)))
def flow (g : Gr) : Rel := close (mat (flowN g g.2.1.length))
def before (g : Gr) : Rel := close (order g)
def badAdd (g : Gr) (a : Nat) : Bool := decide ((ev g.1 a).2.1.1 = 3) && !decide ((plc g a).2.1 = (plc g a).1 - 1)
def badPair (g : Gr) (a b : Nat) : Bool := get2 (before g) a b && !decide ((ev g.1 b).2.1.1 = 4) && decide ((ev g.1 a).2.1.2.1 = (ev g.1 b).2.1.2.1) && !coh g a b
def okEv (g : Gr) (a : Nat) : Prop := (ev g.1 a).2.1.1 = 4 ∨ (badAdd g a = false ∧ ∀ b < g.1.length, badPair g a b = false)
instance (g : Gr) (a : Nat) : Decidable (okEv g a) := by unfold okEv; infer_instance
def allowed (t : Lit) (g : Gr) : Bool := right t g && !round (flow g) && decide (∀ a < g.1.length, okEv g a)
end Sp
namespace Go.User
open Go.Lf
def okAt (g : Sp.Gr) (n : Int) : Prop := inN n g.1.length ∧ inN n g.2.1.length ∧ inN (Sp.ev g.1 n).2.1.2.1 g.2.2.1.length
-- coherent
def S54 : FSpec := { args := [.val tGr, .val tI, .val tI], multi := false, res := .bool, mode := .shr, pre := fun x => okAt x.1 x.2.1 ∧ okAt x.1 x.2.2.1, fn := fun x => Sp.coh x.1 x.2.1 x.2.2.1 }
def C54 : Ctx := mkC 54 [(53, S53), (42, S42), (43, S43)]
def L54 (x : kdens S54.args) : List LoopI := []
-- Right
def S16 : FSpec := { args := [.val tLit, .val tGr], multi := false, res := .bool, mode := .shr, pre := fun x => (Sp.evs 0 x.1.1).length ≤ 1000, fn := fun x => Sp.right x.1 x.2.1 }
def C16 : Ctx := mkC 144 [(41, S41), (21, S21), (42, S42), (43, S43), (44, S44), (45, S45), (46, S46), (47, S47)]
def L16 (x : kdens S16.args) : List LoopI := [
  { ι := Nat, inv := fun i => i ≤ (Sp.evs 0 x.1.1).length ∧ ∀ n < i, Sp.src (Sp.evs 0 x.1.1) x.2.1 n, dec := fun i => (Sp.evs 0 x.1.1).length - i, ovr := fun i => [(43, .shr tI (i : Int))], keep := [2, 3, 5, 41, 42] },
  { ι := Nat, inv := fun i => i ≤ List.length x.2.1.1 ∧ ∀ n < i, Sp.got x.2.1 n, dec := fun i => List.length x.2.1.1 - i, ovr := fun i => [(107, .shr tI (i : Int))], keep := [2, 3, 5, 105, 106] },
  { ι := Nat, inv := fun i => i ≤ 3 ∧ ∀ p < i, Sp.isList (List.getD x.2.1.2.2.1 p []) (Sp.evs 0 x.1.1) (fun o => Sp.writes o && decide (o.2.1 = (p : Int))) = true, dec := fun i => 3 - i, ovr := fun i => [(127, .shr tI (i : Int))], keep := [2, 3, 5] }]
-- Allowed
def S18 : FSpec := { args := [.val tLit, .val tGr], multi := false, res := .bool, mode := .shr, pre := fun x => (Sp.evs 0 x.1.1).length ≤ 1000, fn := fun x => Sp.allowed x.1 x.2.1 }
def C18 : Ctx := { mkC 103 [(16, S16), (50, S50), (52, S52), (53, S53), (54, S54)] with ptrs := [(51, S51)] }
def L18 (x : kdens S18.args) : List LoopI := [
  { ι := Nat, inv := fun i => i ≤ List.length x.2.1.2.1, dec := fun i => List.length x.2.1.2.1 - i, ovr := fun i => [(24, .shr tI (i : Int)), (6, .box tRel mRel (Sp.mat (Sp.flowN x.2.1 i)))], keep := [2, 3, 5, 22, 23] },
  { ι := Nat, inv := fun i => i ≤ List.length x.2.1.1 ∧ ∀ a < i, Sp.okEv x.2.1 a, dec := fun i => List.length x.2.1.1 - i, ovr := fun i => [(42, .shr tI (i : Int))], keep := [2, 3, 5, 40, 41], sub := fun i => [
    { ι := Nat, inv := fun k => k ≤ List.length x.2.1.1 ∧ ∀ b < k, Sp.badPair x.2.1 i b = false, dec := fun k => List.length x.2.1.1 - k, ovr := fun k => [(69, .shr tI (k : Int))], keep := [2, 3, 5, 40, 41, 42, 9, 10, 67, 68] }] }]
-- buffering
def opS (x v : Int) : Sp.LOp := (2, x, v, ())
def opL (x : Int) : Sp.LOp := (1, x, 0, ())
def opF : Sp.LOp := (4, 0, 0, ())
def S31 : FSpec := { args := [.val .bool], multi := false, res := tLit, mode := .shr, pre := fun _ => True, fn := fun x => bif x.1 then ([[opS 0 1, opF, opL 1], [opS 1 1, opF, opL 0]], ()) else ([[opS 0 1, opL 1], [opS 1 1, opL 0]], ()) }
def C31 : Ctx := { mkC 22 [(27, S27), (28, S28), (29, S29)] with frz := [7, 11, 12, 16, 19, 20] }
def L31 (x : kdens S31.args) : List LoopI := []
end Go.User
namespace Sp
def moN (e : List LEv) (b : List Int) : Nat → List (List Int) × Int
  | 0 => ([], 0)
  | n + 1 => ((moN e b n).1 ++ [shuffled (wr e n) b (moN e b n).2], (moN e b n).2 + ((wr e n).length : Int))
def mo3 (e : List LEv) (b : List Int) : List (List Int) := (moN e b 3).1
def foOf (e : List LEv) (b : List Int) : List Int := shuffled (fen e) b (moN e b 3).2
def i4 (e : List LEv) (b : List Int) : Int := (moN e b 3).2 + ((foOf e b).length : Int)
def pickF (e : List LEv) (mo : List (List Int)) (b : List Int) (i : Int) (n : Nat) : Int :=
  if (ev e n).2.1.1 = 3 ∧ (byteAt b i).tmod 8 ≠ 7 then ([-1] ++ mo.getD (ev e n).2.1.2.1.toNat []).getD (idx ([-1] ++ mo.getD (ev e n).2.1.2.1.toNat []) n - 1).toNat 0
  else ([-1] ++ mo.getD (ev e n).2.1.2.1.toNat []).getD (((byteAt b i).tdiv 8).tmod (([-1] ++ mo.getD (ev e n).2.1.2.1.toNat []).length : Int)).toNat 0
def fromN (e : List LEv) (b : List Int) : Nat → List Int × Int
  | 0 => ([], i4 e b)
  | n + 1 => if reads (ev e n).2.1 = true then ((fromN e b n).1 ++ [pickF e (mo3 e b) b (fromN e b n).2 n], (fromN e b n).2 + 1) else ((fromN e b n).1 ++ [-1], (fromN e b n).2)
def setR (e : List LEv) (n : Nat) (v : Int) : List LEv := e.set n ((ev e n).1, (ev e n).2.1, v, ())
def rnd (frm : List Int) (e : List LEv) (n : Nat) : List LEv := if reads (ev e n).2.1 = true then setR e n (value e (frm.getD n 0)) else e
def rndN (frm : List Int) (e : List LEv) (n : Nat) : List LEv := (List.range n).foldl (rnd frm) e
def rounds (frm : List Int) (e : List LEv) (r : Nat) : List LEv := (List.range r).foldl (fun e _ => rndN frm e e.length) e
def graph (t : Lit) (b : List Int) : Gr :=
  (rounds (fromN (evs 0 t.1) b (evs 0 t.1).length).1 (evs 0 t.1) 8, (fromN (evs 0 t.1) b (evs 0 t.1).length).1, mo3 (evs 0 t.1) b, foOf (evs 0 t.1) b, ())
def stG (frm : List Int) (e : List LEv) (n : Nat) : List LEv := if 0 ≤ frm.getD n 0 then setR (setR e n 0) n (ev (setR e n 0) (frm.getD n 0)).2.1.2.2.1 else setR e n 0
def stGN (frm : List Int) (e : List LEv) (n : Nat) : List LEv := (List.range n).foldl (stG frm) e
def stGR (frm : List Int) (e : List LEv) (r : Nat) : List LEv := (List.range r).foldl (fun e _ => stGN frm e e.length) e
def gr (t : Lit) (frm fo : List Int) : Gr := (stGR frm (graph t []).1 3, frm, (graph t []).2.2.1, fo, ())
end Sp
namespace Go.User
open Go.Lf
def mGr : Md := .pair (.own .shr) (.pair (.own .shr) (.pair (.own (.own .shr)) (.pair (.own .shr) .shr)))
def fine (t : Sp.Lit) : Prop := (Sp.evs 0 t.1).length ≤ 100 ∧ ∀ x ∈ Sp.evs 0 t.1, inN x.2.1.2.1 3
def S12 : FSpec := { args := [.val tLit, .val (.slice (.int .u8))], multi := false, res := tGr, mode := mGr, pre := fun x => fine x.1, fn := fun x => Sp.graph x.1 x.2.1 }
def C12 : Ctx := { mkC 155 [(33, S33), (34, S34), (35, S35), (36, S36), (37, S37), (38, S38), (39, S39), (40, S40)] with mds := [(16, mGr), (5, mGr), (4, mGr), (31, .own (.own .shr))] }
def L12 (x : kdens S12.args) : List LoopI := [
  { ι := Nat, inv := fun i => i ≤ 3, dec := fun i => 3 - i, ovr := fun i => [(7, .shr tI (i : Int)), (6, .shr tI (Sp.moN (Sp.evs 0 x.1.1) x.2.1 i).2), (5, .box tGr mGr (Sp.evs 0 x.1.1, [], (Sp.moN (Sp.evs 0 x.1.1) x.2.1 i).1, [], ()))], keep := [1, 2, 4] },
  { ι := Nat, inv := fun n => n ≤ (Sp.evs 0 x.1.1).length, dec := fun n => (Sp.evs 0 x.1.1).length - n, ovr := fun n => [(9, .shr tI (n : Int)), (6, .shr tI (Sp.fromN (Sp.evs 0 x.1.1) x.2.1 n).2), (5, .box tGr mGr (Sp.evs 0 x.1.1, (Sp.fromN (Sp.evs 0 x.1.1) x.2.1 n).1, Sp.mo3 (Sp.evs 0 x.1.1) x.2.1, Sp.foOf (Sp.evs 0 x.1.1) x.2.1, ()))], keep := [1, 2, 4] },
  { ι := Nat, inv := fun r => r ≤ 8, dec := fun r => 8 - r, ovr := fun r => [(12, .shr tI (r : Int)), (5, .box tGr mGr (Sp.rounds (Sp.fromN (Sp.evs 0 x.1.1) x.2.1 (Sp.evs 0 x.1.1).length).1 (Sp.evs 0 x.1.1) r, (Sp.fromN (Sp.evs 0 x.1.1) x.2.1 (Sp.evs 0 x.1.1).length).1, Sp.mo3 (Sp.evs 0 x.1.1) x.2.1, Sp.foOf (Sp.evs 0 x.1.1) x.2.1, ()))], keep := [1, 2, 4], sub := fun r => [
    { ι := Nat, inv := fun n => n ≤ (Sp.evs 0 x.1.1).length, dec := fun n => (Sp.evs 0 x.1.1).length - n, ovr := fun n => [(13, .shr tI (n : Int)), (5, .box tGr mGr (Sp.rndN (Sp.fromN (Sp.evs 0 x.1.1) x.2.1 (Sp.evs 0 x.1.1).length).1 (Sp.rounds (Sp.fromN (Sp.evs 0 x.1.1) x.2.1 (Sp.evs 0 x.1.1).length).1 (Sp.evs 0 x.1.1) r) n, (Sp.fromN (Sp.evs 0 x.1.1) x.2.1 (Sp.evs 0 x.1.1).length).1, Sp.mo3 (Sp.evs 0 x.1.1) x.2.1, Sp.foOf (Sp.evs 0 x.1.1) x.2.1, ()))], keep := [1, 2, 4, 12] }] }]
def mG3 : Md := .pair (.own .shr) (.pair .shr (.pair (.own (.own .shr)) (.pair .shr .shr)))
def S30 : FSpec := { args := [.val tLit, .val (.slice tI), .val (.slice tI)], multi := false, res := tGr, mode := .shr, pre := fun x => fine x.1 ∧ (x.2.1 : List Int).length = (Sp.evs 0 x.1.1).length ∧ ∀ v ∈ (x.2.1 : List Int), v < ((Sp.evs 0 x.1.1).length : Int), fn := fun x => Sp.gr x.1 x.2.1 x.2.2.1 }
def C30 : Ctx := mkC 53 [(12, S12)]
def L30 (x : kdens S30.args) : List LoopI := [
  { ι := Nat, inv := fun r => r ≤ 3, dec := fun r => 3 - r, ovr := fun r => [(8, .shr tI (r : Int)), (7, .box tGr mG3 (Sp.stGR x.2.1 (Sp.graph x.1 []).1 r, x.2.1, (Sp.graph x.1 []).2.2.1, x.2.2.1, ()))], keep := [1, 2, 3, 6], sub := fun r => [
    { ι := Nat, inv := fun n => n ≤ (Sp.evs 0 x.1.1).length, dec := fun n => (Sp.evs 0 x.1.1).length - n, ovr := fun n => [(9, .shr tI (n : Int)), (7, .box tGr mG3 (Sp.stGN x.2.1 (Sp.stGR x.2.1 (Sp.graph x.1 []).1 r) n, x.2.1, (Sp.graph x.1 []).2.2.1, x.2.2.1, ()))], keep := [1, 2, 3, 6, 8] }] }]
end Go.User
namespace Sp
def nC (b : List Int) : Int := if 0 < b.length then 1 + b.getD 0 0 % 4 else 1
def opOf (b : List Int) (i : Nat) : LOp :=
  (1 + b.getD i 0 % 4, if (1 + b.getD i 0 % 4) = 4 then 0 else (b.getD i 0 / 4).tmod 3, if (1 + b.getD i 0 % 4) = 2 ∨ (1 + b.getD i 0 % 4) = 3 then 1 + (b.getD (i + 1) 0 / 4).tmod 9 else 0, ())
def addOp (P : List (List LOp)) (c : Int) (o : LOp) : List (List LOp) := P.set c.toNat (P.getD c.toNat [] ++ [o])
def madeN (b : List Int) : Nat → List (List LOp)
  | 0 => List.replicate (nC b).toNat []
  | k + 1 => addOp (madeN b k) ((b.getD (2 * k + 2) 0).tmod (nC b)) (opOf b (2 * k + 1))
def nK (b : List Int) : Nat := min 6 ((b.length - 1) / 2)
def madeP (b : List Int) : List (List LOp) := if (evs 0 (madeN b (nK b))).length = 0 then (madeN b (nK b)).set 0 [(1, 0, 0, ())] else madeN b (nK b)
def gE (t : Lit) (b : List Int) : List LEv := (graph t b).1
def gF (t : Lit) (b : List Int) : List Int := (graph t b).2.1
def gM (t : Lit) (b : List Int) : List (List Int) := (graph t b).2.2.1
def gO (t : Lit) (b : List Int) : List Int := (graph t b).2.2.2.1
end Sp
namespace Go.User
open Go.Lf
def mLit : Md := .pair (.own (.own .shr)) .shr
def S11 : FSpec := { args := [.val (.slice (.int .u8))], multi := false, res := tLit, mode := mLit, pre := fun _ => True, fn := fun x => (Sp.madeP x.1, ()) }
def S12c : FSpec := { args := [.val tLit, .val (.slice (.int .u8))], multi := false, res := tGr, mode := mGr, pre := fun x => fine x.1, fn := fun x => (Sp.gE x.1 x.2.1, Sp.gF x.1 x.2.1, Sp.gM x.1 x.2.1, Sp.gO x.1 x.2.1, ()) }
def C11 : Ctx := { mkC 104 [(32, S32), (33, S33)] with mds := [(10, .own (.own .shr)), (11, mLit), (3, mLit), (2, mLit), (29, .own (.own .shr))] }
def L11 (x : kdens S11.args) : List LoopI := [
  { ι := Nat, inv := fun i => 1 ≤ i ∧ (i : Int) ≤ Sp.nC x.1, dec := fun i => (Sp.nC x.1).toNat - i, ovr := fun i => [(5, .shr tI (i : Int)), (3, .box tLit mLit (List.replicate i [], ()))], keep := [0, 2, 4] },
  { ι := Nat, inv := fun k => k ≤ Sp.nK x.1, dec := fun k => Sp.nK x.1 - k, ovr := fun k => [(6, .shr tI ((2 * k + 1 : Nat) : Int)), (3, .box tLit mLit (Sp.madeN x.1 k, ()))], keep := [0, 2, 4] }]
def S10 : FSpec := { args := [], multi := false, res := .bool, mode := .shr, pre := fun _ => True, fn := fun _ => true }
def C10 : Ctx := { mkC 93 [(31, S31), (27, S27), (28, S28), (21, S21), (16, S16), (18, S18), (30, S30)] with frz := [11, 14, 15, 16, 17, 18, 28, 33, 40, 55, 63, 68, 89] }
def L10 (x : kdens S10.args) : List LoopI := []
def S5 : FSpec := { args := [.val (.slice (.int .u8)), .val (.slice (.int .u8))], multi := false, res := .bool, mode := .shr, pre := fun _ => True, fn := fun _ => true }
def C5 : Ctx := { mkC 120 [(10, S10), (11, S11), (12, S12c), (18, S18), (22, S22)] with frz := [19, 22] }
def L5 (x : kdens S5.args) : List LoopI := [
  { ι := Nat, inv := fun i => i ≤ (Sp.gE (Sp.madeP x.1, ()) x.2.1).length, dec := fun i => (Sp.gE (Sp.madeP x.1, ()) x.2.1).length - i, ovr := fun i => [(8, .shr tI (i : Int))], keep := [5, 6, 7], sub := fun i => [
    { ι := Nat, inv := fun k => i < k ∧ k ≤ (Sp.gE (Sp.madeP x.1, ()) x.2.1).length, dec := fun k => (Sp.gE (Sp.madeP x.1, ()) x.2.1).length - k, ovr := fun k => [(9, .shr tI (k : Int))], keep := [5, 6, 7, 8] }] }]
end Go.User
namespace Sp
def lastOr (l : List Int) : Int := if 0 < l.length then l.getD (l.length - 1) 0 else -1
def nxN (p : List (List LOp)) (i : Nat) : List Int := (List.range i).map fun j => ((evs 0 (p.take j)).length : Int)
def enN (p : List (List LOp)) (i : Nat) : List Int := (List.range i).map fun j => ((evs 0 (p.take (j + 1))).length : Int)
def canN (nx en : List Int) (i : Nat) : List Int := sel (fun j => decide (nx.getD j 0 < en.getD j 0)) i
/-- The core that is next, and its event. -/
def pkC (nx en b : List Int) (k : Nat) : Int := (canN nx en nx.length).getD ((byteAt b k).tmod ((canN nx en nx.length).length : Int)).toNat 0
def pkE (nx en b : List Int) (k : Nat) : Int := nx.getD (pkC nx en b k).toNat 0
def xN (nx en b : List Int) (k : Nat) : List Int := nx.set (pkC nx en b k).toNat (pkE nx en b k + 1)
def plL (E : List LEv) (M : List (List Int)) (e : Int) : List Int := M.getD (ev E e).2.1.2.1.toNat []
def takes (E : List LEv) (M : List (List Int)) (e : Int) : Bool := !decide ((ev E e).2.1.1 = 4) && reads (ev E e).2.1 && decide (0 < (plL E M e).length)
def lastL (E : List LEv) (M : List (List Int)) (e : Int) : Int := (plL E M e).getD ((plL E M e).length - 1) 0
def xF (E : List LEv) (F : List Int) (M : List (List Int)) (e : Int) : List Int := if takes E M e = true then F.set e.toNat (lastL E M e) else F
def xE (E : List LEv) (M : List (List Int)) (e : Int) : List LEv := if takes E M e = true then setR E e.toNat (value E (lastL E M e)) else E
def xM (E : List LEv) (M : List (List Int)) (e : Int) : List (List Int) := if (ev E e).2.1.1 ≠ 4 ∧ writes (ev E e).2.1 = true then M.set (ev E e).2.1.2.1.toNat (plL E M e ++ [e]) else M
def xO (E : List LEv) (O : List Int) (e : Int) : List Int := if (ev E e).2.1.1 = 4 then O ++ [e] else O
abbrev Run := List Int × List LEv × List Int × List (List Int) × List Int
def runS (en b : List Int) (k : Nat) (s : Run) : Run :=
  (xN s.1 en b k, xE s.2.1 s.2.2.2.1 (pkE s.1 en b k), xF s.2.1 s.2.2.1 s.2.2.2.1 (pkE s.1 en b k), xM s.2.1 s.2.2.2.1 (pkE s.1 en b k), xO s.2.1 s.2.2.2.2 (pkE s.1 en b k))
def runN (p : List (List LOp)) (b : List Int) : Nat → Run
  | 0 => (nxN p p.length, evs 0 p, List.replicate (evs 0 p).length (-1), [[], [], []], [])
  | k + 1 => runS (enN p p.length) b k (runN p b k)
def iE (t : Lit) (b : List Int) : List LEv := (runN t.1 b (evs 0 t.1).length).2.1
def iF (t : Lit) (b : List Int) : List Int := (runN t.1 b (evs 0 t.1).length).2.2.1
def iM (t : Lit) (b : List Int) : List (List Int) := (runN t.1 b (evs 0 t.1).length).2.2.2.1
def iO (t : Lit) (b : List Int) : List Int := (runN t.1 b (evs 0 t.1).length).2.2.2.2
end Sp
namespace Go.User
open Go.Lf
def mG14 : Md := .pair (.own .shr) (.pair (.own .shr) (.pair (.own (.own .shr)) (.pair (.own .shr) .shr)))
def S14 : FSpec := { args := [.val tLit, .val (.slice (.int .u8))], multi := false, res := tGr, mode := mG14, pre := fun x => fine x.1 ∧ x.1.1.length ≤ 100, fn := fun x => (Sp.iE x.1 x.2.1, Sp.iF x.1 x.2.1, Sp.iM x.1 x.2.1, Sp.iO x.1 x.2.1, ()) }
def C14 : Ctx := { mkC 167 [(32, S32), (33, S33), (37, S37), (38, S38), (40, S40)] with mds := [(23, .own (.own .shr)), (25, mG14), (5, mG14), (4, mG14)], ded := [57, 106, 115, 134, 144, 148] }
def L14 (x : kdens S14.args) : List LoopI := [
  { ι := Nat, inv := fun i => i ≤ x.1.1.length, dec := fun i => x.1.1.length - i, ovr := fun i => [(9, .shr tI (i : Int)), (8, .shr tI ((Sp.evs 0 (x.1.1.take i)).length : Int)), (6, .own (.slice tI) (.own .shr) (Sp.nxN x.1.1 i)), (7, .own (.slice tI) (.own .shr) (Sp.enN x.1.1 i))], keep := [1, 2, 4, 5] },
  { ι := Nat, inv := fun i => i ≤ (Sp.evs 0 x.1.1).length, dec := fun i => (Sp.evs 0 x.1.1).length - i, ovr := fun i => [(10, .shr tI (i : Int)), (5, .box tGr mG14 (Sp.evs 0 x.1.1, List.replicate i (-1), [[], [], []], [], ()))], keep := [1, 2, 4, 6, 7, 8] },
  { ι := Nat, inv := fun k => k ≤ (Sp.evs 0 x.1.1).length, dec := fun k => (Sp.evs 0 x.1.1).length - k, ovr := fun k => [(11, .shr tI (k : Int)), (6, .own (.slice tI) (.own .shr) (Sp.runN x.1.1 x.2.1 k).1),
      (5, .box tGr mG14 ((Sp.runN x.1.1 x.2.1 k).2.1, (Sp.runN x.1.1 x.2.1 k).2.2.1, (Sp.runN x.1.1 x.2.1 k).2.2.2.1, (Sp.runN x.1.1 x.2.1 k).2.2.2.2, ()))], keep := [1, 2, 4, 7, 8], sub := fun k => [
    { ι := Nat, inv := fun i => i ≤ (Sp.runN x.1.1 x.2.1 k).1.length, dec := fun i => (Sp.runN x.1.1 x.2.1 k).1.length - i, ovr := fun i => [(13, .shr tI (i : Int)), (12, .own (.slice tI) (.own .shr) (Sp.canN (Sp.runN x.1.1 x.2.1 k).1 (Sp.enN x.1.1 x.1.1.length) i))], keep := [1, 2, 4, 5, 6, 7, 8, 11] }] }]
def S4 : FSpec := { args := [.val (.slice (.int .u8)), .val (.slice (.int .u8))], multi := false, res := .bool, mode := .shr, pre := fun _ => True, fn := fun _ => true }
def C4 : Ctx := { mkC 27 [(10, S10), (11, S11), (14, S14), (16, S16), (18, S18)] with frz := [12, 15] }
def L4 (x : kdens S4.args) : List LoopI := []
end Go.User
namespace Sp
/-- The lists with other numbers. -/
def renN (l to : List Int) (n : Nat) : List Int := (l.take n).filterMap fun v => if v < 0 then some v else if 0 ≤ to.getD v.toNat 0 then some (to.getD v.toNat 0) else none
def ren (l to : List Int) : List Int := renN l to l.length
/-- The numbers without one of them. -/
def tq (gone : Nat) (i : Nat) : Int := if i = gone then -1 else if i < gone then (i : Int) else (i : Int) - 1
def toL (gone n : Nat) : List Int := (List.range n).map (tq gone)
def stp (p : List (List LOp)) (c : Nat) : Nat := (evs 0 (p.take c)).length
def lessK (p : List (List LOp)) (gone c k : Nat) : List LOp := if stp p c ≤ gone then ((p.getD c []).take k).eraseIdx (gone - stp p c) else (p.getD c []).take k
def lessN (p : List (List LOp)) (gone i : Nat) : List (List LOp) := (List.range i).map fun c => lessK p gone c (p.getD c []).length
def lessP (p : List (List LOp)) (gone : Nat) : List (List LOp) := lessN p gone p.length
def hEN (E : List LEv) (gone n : Nat) : List LEv := (E.take n).eraseIdx gone
def hF1 (F : List Int) (gone i : Nat) : Int := if F.getD i 0 < 0 then -1 else tq gone (F.getD i 0).toNat
def hFN (F : List Int) (gone n : Nat) : List Int := ((List.range n).filter (fun i => !decide (i = gone))).map (hF1 F gone)
def hMN (M : List (List Int)) (to : List Int) (n : Nat) : List (List Int) := (List.range n).map fun x => ren (M.getD x []) to
def gg (p : List (List LOp)) (b : List Int) (n : Int) : Gr := if n % 2 = 0 then (gE (p, ()) b, gF (p, ()) b, gM (p, ()) b, gO (p, ()) b, ()) else (iE (p, ()) b, iF (p, ()) b, iM (p, ()) b, iO (p, ()) b, ())
def ggE (p : List (List LOp)) (b : List Int) (n : Int) : List LEv := (gg p b n).1
def ggF (p : List (List LOp)) (b : List Int) (n : Int) : List Int := (gg p b n).2.1
def ggM (p : List (List LOp)) (b : List Int) (n : Int) : List (List Int) := (gg p b n).2.2.1
def ggO (p : List (List LOp)) (b : List Int) (n : Int) : List Int := (gg p b n).2.2.2.1
def goneN (p : List (List LOp)) (b : List Int) (n : Int) : Nat := ((ggO p b n).getD (n.tmod ((ggO p b n).length : Int)).toNat 0).toNat
end Sp
namespace Go.User
open Go.Lf
def S25 : FSpec := { args := [.val (.slice tI), .val (.slice tI)], multi := false, res := .slice tI, mode := .own .shr, pre := fun x => List.length x.1 ≤ 1000 ∧ ∀ v ∈ (x.1 : List Int), v < (List.length x.2.1 : Int), fn := fun x => Sp.ren x.1 x.2.1 }
def C25 : Ctx := mkC 45 []
def L25 (x : kdens S25.args) : List LoopI := [
  { ι := Nat, inv := fun i => i ≤ List.length x.1, dec := fun i => List.length x.1 - i, ovr := fun i => [(6, .shr tI (i : Int)), (5, .own (.slice tI) (.own .shr) (Sp.renN x.1 x.2.1 i))], keep := [0, 1] }]
def S7 : FSpec := { args := [.val (.slice (.int .u8)), .val (.slice (.int .u8)), .val (.int .u8)], multi := false, res := .bool, mode := .shr, pre := fun _ => True, fn := fun _ => true }
def C7 : Ctx := { mkC 209 [(10, S10), (11, S11), (12, S12c), (14, S14), (16, S16), (18, S18), (25, S25)] with frz := [23, 26, 32], mds := [(60, mLit), (11, mLit), (74, .own (.own .shr)), (61, .own (.own .shr)), (62, mGr), (12, mGr), (190, .own (.own .shr))] }
def L7 (x : kdens S7.args) : List LoopI := [
  { ι := Nat, inv := fun i => i ≤ (Sp.madeP x.1).length, dec := fun i => (Sp.madeP x.1).length - i, ovr := fun i => [(15, .shr tI (i : Int)), (14, .shr tI (Sp.stp (Sp.madeP x.1) i : Int)), (10, .shr tI (Sp.goneN (Sp.madeP x.1) x.2.1 x.2.2.1 : Int)),
      (9, .box tGr .shr (Sp.ggE (Sp.madeP x.1) x.2.1 x.2.2.1, Sp.ggF (Sp.madeP x.1) x.2.1 x.2.2.1, Sp.ggM (Sp.madeP x.1) x.2.1 x.2.2.1, Sp.ggO (Sp.madeP x.1) x.2.1 x.2.2.1, ())),
      (13, .own (.slice tI) (.own .shr) (Sp.toL (Sp.goneN (Sp.madeP x.1) x.2.1 x.2.2.1) (Sp.stp (Sp.madeP x.1) i))), (11, .box tLit mLit (Sp.lessN (Sp.madeP x.1) (Sp.goneN (Sp.madeP x.1) x.2.1 x.2.2.1) i, ())),
      (12, .box tGr mGr (Sp.hEN (Sp.ggE (Sp.madeP x.1) x.2.1 x.2.2.1) (Sp.goneN (Sp.madeP x.1) x.2.1 x.2.2.1) (Sp.stp (Sp.madeP x.1) i), [], [], [], ()))], keep := [7, 8], sub := fun i => [
    { ι := Nat, inv := fun k => i < (Sp.madeP x.1).length ∧ k ≤ ((Sp.madeP x.1).getD i []).length, dec := fun k => ((Sp.madeP x.1).getD i []).length - k, ovr := fun k => [(16, .shr tI (k : Int)), (14, .shr tI (Sp.stp (Sp.madeP x.1) i + k : Int)),
      (13, .own (.slice tI) (.own .shr) (Sp.toL (Sp.goneN (Sp.madeP x.1) x.2.1 x.2.2.1) (Sp.stp (Sp.madeP x.1) i + k))), (11, .box tLit mLit (Sp.lessN (Sp.madeP x.1) (Sp.goneN (Sp.madeP x.1) x.2.1 x.2.2.1) i ++ [Sp.lessK (Sp.madeP x.1) (Sp.goneN (Sp.madeP x.1) x.2.1 x.2.2.1) i k], ())),
      (12, .box tGr mGr (Sp.hEN (Sp.ggE (Sp.madeP x.1) x.2.1 x.2.2.1) (Sp.goneN (Sp.madeP x.1) x.2.1 x.2.2.1) (Sp.stp (Sp.madeP x.1) i + k), [], [], [], ()))], keep := [7, 8, 9, 10, 15] }] },
  { ι := Nat, inv := fun i => i ≤ (Sp.ggE (Sp.madeP x.1) x.2.1 x.2.2.1).length, dec := fun i => (Sp.ggE (Sp.madeP x.1) x.2.1 x.2.2.1).length - i, ovr := fun i => [(17, .shr tI (i : Int)),
      (13, .own (.slice tI) (.own .shr) (Sp.toL (Sp.goneN (Sp.madeP x.1) x.2.1 x.2.2.1) (Sp.ggE (Sp.madeP x.1) x.2.1 x.2.2.1).length)), (11, .box tLit mLit (Sp.lessP (Sp.madeP x.1) (Sp.goneN (Sp.madeP x.1) x.2.1 x.2.2.1), ())),
      (12, .box tGr mGr ((Sp.ggE (Sp.madeP x.1) x.2.1 x.2.2.1).eraseIdx (Sp.goneN (Sp.madeP x.1) x.2.1 x.2.2.1), Sp.hFN (Sp.ggF (Sp.madeP x.1) x.2.1 x.2.2.1) (Sp.goneN (Sp.madeP x.1) x.2.1 x.2.2.1) i, [], [], ()))], keep := [7, 9, 10] },
  { ι := Nat, inv := fun i => i ≤ 3, dec := fun i => 3 - i, ovr := fun i => [(18, .shr tI (i : Int)),
      (12, .box tGr mGr ((Sp.ggE (Sp.madeP x.1) x.2.1 x.2.2.1).eraseIdx (Sp.goneN (Sp.madeP x.1) x.2.1 x.2.2.1), Sp.hFN (Sp.ggF (Sp.madeP x.1) x.2.1 x.2.2.1) (Sp.goneN (Sp.madeP x.1) x.2.1 x.2.2.1) (Sp.ggE (Sp.madeP x.1) x.2.1 x.2.2.1).length,
        Sp.hMN (Sp.ggM (Sp.madeP x.1) x.2.1 x.2.2.1) (Sp.toL (Sp.goneN (Sp.madeP x.1) x.2.1 x.2.2.1) (Sp.ggE (Sp.madeP x.1) x.2.1 x.2.2.1).length) i, [], ()))], keep := [7, 9, 11, 13] }]
end Go.User
namespace Sp
def swC (p q c : Int) : Int := if c = p then q else if c = q then p else c
def swP (P : List (List LOp)) (p q : Nat) : List (List LOp) := (P.set p (P.getD q [])).set q (P.getD p [])
def selC (E : List LEv) (c : Int) (n : Nat) : List Int := sel (fun j => decide ((ev E j).1 = c)) n
/-- The events in the order of the cores that were exchanged. -/
def visN (E : List LEv) (p q : Int) (i e : Nat) : List Int := ((List.range i).flatMap fun (c : Nat) => selC E (swC p q (c : Int)) E.length) ++ selC E (swC p q (i : Int)) e
def toV (vis : List Int) (n : Nat) : List Int := (List.range n).map fun (j : Nat) => if (j : Int) ∈ vis then idx vis j else 0
def heV (E : List LEv) (p q : Int) (vis : List Int) : List LEv := (List.range E.length).map fun k => if k < vis.length then (swC p q (ev E (vis.getD k 0)).1, (ev E (vis.getD k 0)).2.1, (ev E (vis.getD k 0)).2.2.1, ()) else ev0
def visA (P : List (List LOp)) (E : List LEv) (p q : Int) : List Int := visN E p q P.length 0
def reT (P : List (List LOp)) (E : List LEv) (p q : Int) : List Int := toV (visA P E p q) E.length
def reE (P : List (List LOp)) (E : List LEv) (p q : Int) : List LEv := heV E p q (visA P E p q)
def frv (F to : List Int) (v : Int) : Int := if F.getD v.toNat 0 < 0 then -1 else to.getD (F.getD v.toNat 0).toNat 0
def reF (P : List (List LOp)) (E : List LEv) (F : List Int) (p q : Int) (m : Nat) : List Int := (List.range E.length).map fun (j : Nat) => if (visA P E p q).getD j 0 < (m : Int) then frv F (reT P E p q) ((visA P E p q).getD j 0) else 0
def plA (n0 n1 : Int) : List Int := (([0, 1, 2] : List Int).set (n0 % 3).toNat (n1 % 3)).set (n1 % 3).toNat (n0 % 3)
def mvO (pl : List Int) (o : LOp) : LOp := if o.1 = 4 then o else (o.1, pl.getD o.2.1.toNat 0, o.2.2.1, ())
def mvN (P : List (List LOp)) (pl : List Int) (i : Nat) : List (List LOp) := (P.take i).map (List.map (mvO pl))
def mvP (P : List (List LOp)) (pl : List Int) : List (List LOp) := P.map (List.map (mvO pl))
def mvE1 (pl : List Int) (e : LEv) : LEv := (e.1, mvO pl e.2.1, e.2.2.1, ())
def mvEN (E : List LEv) (pl : List Int) (m : Nat) : List LEv := (E.take m).map (mvE1 pl) ++ E.drop m
def mvM (M : List (List Int)) (pl : List Int) (i : Nat) : List (List Int) := (List.range i).foldl (fun m x => m.set (pl.getD x 0).toNat (M.getD x [])) M
end Sp
namespace Go.User
open Go.Lf
def mGrS : Md := .pair (.own .shr) (.pair (.own .shr) (.pair (.own .shr) (.pair (.own .shr) .shr)))
def mLitS : Md := .pair (.own .shr) .shr
def S26 : FSpec := { args := [.val tGr], multi := false, res := tGr, mode := mGrS, pre := fun x => List.length x.1.1 ≤ 1000 ∧ List.length x.1.2.1 ≤ 1000 ∧ List.length x.1.2.2.1 ≤ 1000 ∧ List.length x.1.2.2.2.1 ≤ 1000 ∧ ∀ l ∈ (x.1.2.2.1 : List (List Int)), l.length ≤ 1000, fn := fun x => x.1 }
def C26 : Ctx := { mkC 38 [] with frz := [33], mds := [(17, mGrS), (3, mGrS), (2, mGrS)] }
def L26 (x : kdens S26.args) : List LoopI := [
  { ι := Nat, inv := fun i => i ≤ List.length x.1.2.2.1, dec := fun i => List.length x.1.2.2.1 - i, ovr := fun i => [(4, .shr tI (i : Int)), (3, .box tGr mGrS (x.1.1, x.1.2.1, List.take i x.1.2.2.1, x.1.2.2.2.1, ()))], keep := [1, 2] }]
def S8 : FSpec := { args := [.val (.slice (.int .u8)), .val (.slice (.int .u8)), .val (.arr 2 (.int .u8))], multi := false, res := .bool, mode := .shr, pre := fun _ => True, fn := fun _ => true }
def C8 : Ctx := { mkC 345 [(10, S10), (11, S11), (12, S12c), (16, S16), (18, S18), (25, S25), (26, S26)] with frz := [34, 37], mds := [(56, mLitS), (12, mLitS), (87, mGr), (15, mGr), (188, .own (.own .shr)), (212, mLitS), (21, mLitS), (22, mGrS)], fzs := [25] }
abbrev A8 := kdens S8.args
abbrev P8 (x : A8) : List (List Sp.LOp) := Sp.madeP x.1
abbrev E8 (x : A8) : List Sp.LEv := Sp.gE (Sp.madeP x.1, ()) x.2.1
abbrev F8 (x : A8) : List Int := Sp.gF (Sp.madeP x.1, ()) x.2.1
abbrev M8 (x : A8) : List (List Int) := Sp.gM (Sp.madeP x.1, ()) x.2.1
abbrev O8 (x : A8) : List Int := Sp.gO (Sp.madeP x.1, ()) x.2.1
abbrev n8 (x : A8) (i : Nat) : Int := (x.2.2.1 : List Int).getD i 0
abbrev p8 (x : A8) : Int := (n8 x 0).tmod ((Sp.madeP x.1).length : Int)
abbrev q8 (x : A8) : Int := (n8 x 1).tmod ((Sp.madeP x.1).length : Int)
abbrev l8 (x : A8) : List Int := Sp.plA (n8 x 0) (n8 x 1)
def L8 (x : A8) : List LoopI := [
  { ι := Nat, inv := fun i => i ≤ (P8 x).length, dec := fun i => (P8 x).length - i, ovr := fun i => [(16, .shr tI (i : Int)), (14, .shr tI ((Sp.visN (E8 x) (p8 x) (q8 x) i 0).length : Int)), (13, .own (.slice tI) (.own .shr) (Sp.toV (Sp.visN (E8 x) (p8 x) (q8 x) i 0) (E8 x).length)),
      (15, .box tGr mGr (Sp.heV (E8 x) (p8 x) (q8 x) (Sp.visN (E8 x) (p8 x) (q8 x) i 0), List.replicate (E8 x).length 0, [], [], ()))], keep := [5, 7, 8, 9, 10, 11, 12], sub := fun i => [
    { ι := Nat, inv := fun e => i < (P8 x).length ∧ e ≤ (E8 x).length, dec := fun e => (E8 x).length - e, ovr := fun e => [(18, .shr tI (e : Int)), (17, .shr tI (Sp.swC (p8 x) (q8 x) (i : Int))), (14, .shr tI ((Sp.visN (E8 x) (p8 x) (q8 x) i e).length : Int)), (13, .own (.slice tI) (.own .shr) (Sp.toV (Sp.visN (E8 x) (p8 x) (q8 x) i e) (E8 x).length)),
      (15, .box tGr mGr (Sp.heV (E8 x) (p8 x) (q8 x) (Sp.visN (E8 x) (p8 x) (q8 x) i e), List.replicate (E8 x).length 0, [], [], ()))], keep := [5, 7, 8, 9, 10, 11, 12, 16] }] },
  { ι := Nat, inv := fun m => m ≤ (E8 x).length, dec := fun m => (E8 x).length - m, ovr := fun m => [(19, .shr tI (m : Int)), (13, .own (.slice tI) (.own .shr) (Sp.reT (P8 x) (E8 x) (p8 x) (q8 x))),
      (15, .box tGr mGr (Sp.reE (P8 x) (E8 x) (p8 x) (q8 x), Sp.reF (P8 x) (E8 x) (F8 x) (p8 x) (q8 x) m, [], [], ()))], keep := [5, 7, 8, 9, 12] },
  { ι := Nat, inv := fun i => i ≤ 3, dec := fun i => 3 - i, ovr := fun i => [(20, .shr tI (i : Int)),
      (15, .box tGr mGr (Sp.reE (P8 x) (E8 x) (p8 x) (q8 x), Sp.reF (P8 x) (E8 x) (F8 x) (p8 x) (q8 x) (E8 x).length, Sp.hMN (M8 x) (Sp.reT (P8 x) (E8 x) (p8 x) (q8 x)) i, [], ()))], keep := [5, 7, 8, 9, 12, 13] },
  { ι := Nat, inv := fun i => i ≤ (P8 x).length, dec := fun i => (P8 x).length - i, ovr := fun i => [(24, .shr tI (i : Int)), (23, .own (.slice tI) (.own .shr) (l8 x)), (21, .box tLit mLitS (Sp.mvN (P8 x) (l8 x) i, ()))], keep := [7, 8, 9, 22], sub := fun i => [
    { ι := Nat, inv := fun j => i < (P8 x).length ∧ j ≤ ((P8 x).getD i []).length, dec := fun j => ((P8 x).getD i []).length - j, ovr := fun j => [(26, .shr tI (j : Int)), (25, .own (.slice tLOp) (.own .shr) ((((P8 x).getD i []).take j).map (Sp.mvO (l8 x))))], keep := [7, 8, 9, 21, 22, 23, 24] }] },
  { ι := Nat, inv := fun m => m ≤ (E8 x).length, dec := fun m => (E8 x).length - m, ovr := fun m => [(28, .shr tI (m : Int)), (22, .box tGr mGrS (Sp.mvEN (E8 x) (l8 x) m, F8 x, M8 x, O8 x, ()))], keep := [7, 8, 9, 21, 23] },
  { ι := Nat, inv := fun i => i ≤ 3, dec := fun i => 3 - i, ovr := fun i => [(29, .shr tI (i : Int)), (22, .box tGr mGrS ((E8 x).map (Sp.mvE1 (l8 x)), F8 x, Sp.mvM (M8 x) (l8 x) i, O8 x, ()))], keep := [7, 8, 9, 21, 23] }]
end Go.User
namespace Sp
def listsB (l want : List Int) : Bool := decide (l.length = want.length) && want.all fun w => decide (w ∈ l)
def srcB (e : List LEv) (i n : Int) : Bool := decide (n = -1) || (reads (ev e i).2.1 && decide (0 ≤ n) && decide (n < (e.length : Int)) && writes (ev e n).2.1 && decide ((ev e n).2.1.2.1 = (ev e i).2.1.2.1))
def gotE (e : List LEv) (g : Gr) (j : Nat) : Prop := (ev g.1 j).2.2.1 = if reads (ev e j).2.1 = true then value g.1 (g.2.1.getD j 0) else 0
def rord (e : List LEv) (fo : List Int) (a b : Int) : Bool := (decide ((ev e a).1 = (ev e b).1) && decide (a < b)) || (decide (0 ≤ idx fo a) && decide (idx fo a < idx fo b))
def rcoh (g : Gr) (a b : Int) : Bool :=
  !(writes (ev g.1 a).2.1 && writes (ev g.1 b).2.1 && decide ((plc g b).1 ≤ (plc g a).1)) && !(writes (ev g.1 a).2.1 && reads (ev g.1 b).2.1 && decide ((plc g b).2.1 < (plc g a).1)) &&
  !(reads (ev g.1 a).2.1 && writes (ev g.1 b).2.1 && decide ((plc g b).1 ≤ (plc g a).2.1)) && (!reads (ev g.1 a).2.1 || !reads (ev g.1 b).2.1 || decide ((plc g a).2.1 ≤ (plc g b).2.1))
def g1 (n : Nat) (r : List Bool) (a b : Nat) : Bool := r.getD (a * n + b) false
def stepC (n k a : Nat) (r : List Bool) (b : Nat) : List Bool := if g1 n r a k = true ∧ g1 n r k b = true then r.set (a * n + b) true else r
def rowC (n k a : Nat) (r : List Bool) (m : Nat) : List Bool := (List.range m).foldl (stepC n k a) r
def rowsC (n k : Nat) (r : List Bool) (m : Nat) : List Bool := (List.range m).foldl (fun r a => rowC n k a r n) r
def closC (n : Nat) (r : List Bool) (m : Nat) : List Bool := (List.range m).foldl (fun r k => rowsC n k r n) r
def bl (n : Nat) (f : Nat → Nat → Bool) (m : Nat) : List Bool := (List.range (n * n)).map fun i => decide (i < m) && f (i / n) (i % n)
def fO (g : Gr) (a b : Nat) : Bool := rord g.1 g.2.2.2.1 (a : Int) (b : Int)
def fF (g : Gr) (a b : Nat) : Bool := rord g.1 g.2.2.2.1 (a : Int) (b : Int) || decide (g.2.1.getD b 0 = (a : Int))
def rBef (g : Gr) : List Bool := closC g.1.length (bl g.1.length (fO g) (g.1.length * g.1.length)) g.1.length
def rFlow (g : Gr) : List Bool := closC g.1.length (bl g.1.length (fF g) (g.1.length * g.1.length)) g.1.length
def ok1 (g : Gr) (a : Nat) : Prop := g1 g.1.length (rFlow g) a a = false ∧ ((ev g.1 a).2.1.1 = 3 → (plc g a).2.1 = (plc g a).1 - 1)
def ok2 (g : Gr) (a b : Nat) : Prop := g1 g.1.length (rBef g) a b = true → (ev g.1 a).2.1.1 ≠ 4 → (ev g.1 b).2.1.1 ≠ 4 → (ev g.1 a).2.1.2.1 = (ev g.1 b).2.1.2.1 → rcoh g a b = true
def andB (n : Int) : Int := Go.IntKind.wrap .i64 (((BitVec.ofInt 64 n &&& BitVec.ofInt 64 7).toNat : Nat) : Int)
/-- A changed graph. -/
def chg (g : Gr) (z : Int × Int × Int × Unit) : Gr :=
  if g.1.length = 0 ∨ g.2.2.1.length = 0 ∨ g.2.1.length = 0 then g else
  if z.1 % 11 = 0 then (g.1.set (z.2.1.tmod (g.1.length : Int)).toNat (z.2.2.1, (ev g.1 (z.2.1.tmod (g.1.length : Int))).2), g.2.1, g.2.2.1, g.2.2.2.1, ()) else
  if z.1 % 11 = 1 then (g.1.set (z.2.1.tmod (g.1.length : Int)).toNat ((ev g.1 (z.2.1.tmod (g.1.length : Int))).1, ((ev g.1 (z.2.1.tmod (g.1.length : Int))).2.1.1, (ev g.1 (z.2.1.tmod (g.1.length : Int))).2.1.2.1, z.2.2.1, ()), (ev g.1 (z.2.1.tmod (g.1.length : Int))).2.2), g.2.1, g.2.2.1, g.2.2.2.1, ()) else
  if z.1 % 11 = 2 then (g.1.set (z.2.1.tmod (g.1.length : Int)).toNat ((ev g.1 (z.2.1.tmod (g.1.length : Int))).1, ((ev g.1 (z.2.1.tmod (g.1.length : Int))).2.1.1, z.2.2.1, (ev g.1 (z.2.1.tmod (g.1.length : Int))).2.1.2.2), (ev g.1 (z.2.1.tmod (g.1.length : Int))).2.2), g.2.1, g.2.2.1, g.2.2.2.1, ()) else
  if z.1 % 11 = 3 then (g.1.set (z.2.1.tmod (g.1.length : Int)).toNat ((ev g.1 (z.2.1.tmod (g.1.length : Int))).1, (ev g.1 (z.2.1.tmod (g.1.length : Int))).2.1, z.2.2.1, ()), g.2.1, g.2.2.1, g.2.2.2.1, ()) else
  if z.1 % 11 = 4 then (g.1, g.2.1.set (z.2.1.tmod (g.2.1.length : Int)).toNat z.2.2.1, g.2.2.1, g.2.2.2.1, ()) else
  if z.1 % 11 = 5 then (g.1, g.2.1, g.2.2.1.set (z.2.1.tmod (g.2.2.1.length : Int)).toNat (g.2.2.1.getD (z.2.1.tmod (g.2.2.1.length : Int)).toNat [] ++ [z.2.2.1]), g.2.2.2.1, ()) else
  if z.1 % 11 = 6 then (if 0 < (g.2.2.1.getD (z.2.1.tmod (g.2.2.1.length : Int)).toNat []).length then
    (g.1, g.2.1, g.2.2.1.set (z.2.1.tmod (g.2.2.1.length : Int)).toNat ((g.2.2.1.getD (z.2.1.tmod (g.2.2.1.length : Int)).toNat []).set ((andB z.2.2.1).tmod ((g.2.2.1.getD (z.2.1.tmod (g.2.2.1.length : Int)).toNat []).length : Int)).toNat (z.2.1.tmod (g.1.length : Int))), g.2.2.2.1, ()) else g) else
  if z.1 % 11 = 7 then (g.1, g.2.1, g.2.2.1, g.2.2.2.1 ++ [z.2.2.1], ()) else
  if z.1 % 11 = 8 then (g.1, g.2.1, g.2.2.1 ++ [[]], g.2.2.2.1, ()) else
  if z.1 % 11 = 9 then (g.1.take (z.2.1.tmod (g.1.length : Int)).toNat, g.2.1, g.2.2.1, g.2.2.2.1, ()) else
  (g.1, g.2.1.take (z.2.1.tmod (g.2.1.length : Int)).toNat, g.2.2.1, g.2.2.2.1, ())
def cE (g : Gr) (z : Int × Int × Int × Unit) : List LEv := (chg g z).1
def cF (g : Gr) (z : Int × Int × Int × Unit) : List Int := (chg g z).2.1
def cM (g : Gr) (z : Int × Int × Int × Unit) : List (List Int) := (chg g z).2.2.1
def cO (g : Gr) (z : Int × Int × Int × Unit) : List Int := (chg g z).2.2.2.1
def oRow (P : List (List LOp)) (z : Int × Int × Int × Unit) : Nat := (z.2.1.tmod (P.length : Int)).toNat
def oK (P : List (List LOp)) (z : Int × Int × Int × Unit) : Nat := ((z.2.1 / 4).tmod ((P.getD (oRow P z) []).length : Int)).toNat
def oOp (P : List (List LOp)) (z : Int × Int × Int × Unit) : LOp := (P.getD (oRow P z) []).getD (oK P z) (0, 0, 0, ())
/-- A changed test. -/
def odd (P : List (List LOp)) (z : Int × Int × Int × Unit) : List (List LOp) :=
  if z.1 % 5 = 4 ∨ (P.getD (oRow P z) []).length = 0 then P.set (oRow P z) (P.getD (oRow P z) [] ++ [(z.2.2.1, 0, 0, ())]) else
  if z.1 % 5 = 0 then P.set (oRow P z) ((P.getD (oRow P z) []).set (oK P z) (z.2.2.1, (oOp P z).2)) else
  if z.1 % 5 = 1 then P.set (oRow P z) ((P.getD (oRow P z) []).set (oK P z) ((oOp P z).1, z.2.2.1, (oOp P z).2.2)) else
  if z.1 % 5 = 2 then P.set (oRow P z) ((P.getD (oRow P z) []).set (oK P z) ((oOp P z).1, (oOp P z).2.1, z.2.2.1, ())) else
  P ++ [[(1, 0, 0, ())]]
end Sp
namespace Go.User
open Go.Lf
def S59 := S62
def C59 : Ctx := mkC 46 [(32, S32)]
def L59 (x : kdens S59.args) : List LoopI := []
def S20 : FSpec := { args := [.val tLit], multi := false, res := .bool, mode := .shr, pre := fun _ => True, fn := fun x => Sp.valid x.1 }
def C20 : Ctx := mkC 58 [(59, S59)]
def L20 (x : kdens S20.args) : List LoopI := [
  { ι := Nat, inv := fun i => i ≤ x.1.1.length ∧ (∀ l ∈ x.1.1.take i, l.length ≤ 6 ∧ ∀ o ∈ l, Sp.usual o = true) ∧ 1 ≤ x.1.1.length ∧ x.1.1.length ≤ 4, dec := fun i => x.1.1.length - i, ovr := fun i => [(4, .shr tI (i : Int)), (3, .shr tI ((Sp.evs 0 (x.1.1.take i)).length : Int))], keep := [1], sub := fun i => [
    { ι := Nat, inv := fun k => i < x.1.1.length ∧ k ≤ (x.1.1.getD i []).length ∧ (x.1.1.getD i []).length ≤ 6 ∧ ∀ o ∈ (x.1.1.getD i []).take k, Sp.usual o = true, dec := fun k => (x.1.1.getD i []).length - k, ovr := fun k => [(5, .shr tI (k : Int)), (3, .shr tI ((Sp.evs 0 (x.1.1.take i)).length + k : Int))], keep := [1, 4] }] }]
def S48 : FSpec := { args := [.val (.slice tI), .val (.slice tI)], multi := false, res := .bool, mode := .shr, pre := fun _ => True, fn := fun x => Sp.listsB x.1 x.2.1 }
def C48 : Ctx := mkC 24 [(39, S39)]
def L48 (x : kdens S48.args) : List LoopI := [
  { ι := Nat, inv := fun i => i ≤ List.length x.2.1 ∧ List.length x.1 = List.length x.2.1 ∧ ∀ w ∈ List.take i (x.2.1 : List Int), w ∈ (x.1 : List Int), dec := fun i => List.length x.2.1 - i, ovr := fun i => [(5, .shr tI (i : Int))], keep := [0, 1] }]
def S49 : FSpec := { args := [.val (.slice tLEv), .val tI, .val tI], multi := false, res := .bool, mode := .shr, pre := fun x => inN x.2.1 (List.length x.1), fn := fun x => Sp.srcB x.1 x.2.1 x.2.2.1 }
def C49 : Ctx := mkC 48 [(37, S37), (32, S32)]
def L49 (x : kdens S49.args) : List LoopI := []
def S55 : FSpec := { args := [.val tGr, .val tI, .val tI], multi := false, res := .bool, mode := .shr, pre := fun x => inN x.2.1 (List.length x.1.1) ∧ inN x.2.2.1 (List.length x.1.1), fn := fun x => Sp.rord x.1.1 x.1.2.2.2.1 x.2.1 x.2.2.1 }
def C55 : Ctx := mkC 40 [(39, S39)]
def L55 (x : kdens S55.args) : List LoopI := []
def S57 : FSpec := { args := [.val tGr, .val tI, .val .bool], multi := false, res := tI, mode := .shr, pre := fun x => okAt x.1 x.2.1, fn := fun x => bif x.2.2.1 then (Sp.plc x.1 x.2.1).2.1 else (Sp.plc x.1 x.2.1).1 }
def C57 : Ctx := mkC 30 [(39, S39)]
def L57 (x : kdens S57.args) : List LoopI := []
def S58 : FSpec := { args := [.val tGr, .val tI, .val tI], multi := false, res := .bool, mode := .shr, pre := fun x => okAt x.1 x.2.1 ∧ okAt x.1 x.2.2.1, fn := fun x => Sp.rcoh x.1 x.2.1 x.2.2.1 }
def C58 : Ctx := mkC 83 [(32, S32), (37, S37), (57, S57)]
def L58 (x : kdens S58.args) : List LoopI := []
def S56 : FSpec := { args := [.val tI, .val (.slice .bool)], multi := false, res := .slice .bool, mode := .own .shr, pre := fun x => 0 ≤ x.1 ∧ x.1 ≤ (6 : Int) ∧ List.length x.2.1 = (x.1 : Int).toNat * (x.1 : Int).toNat, fn := fun x => Sp.closC (x.1 : Int).toNat x.2.1 (x.1 : Int).toNat }
def C56 : Ctx := mkC 53 []
def L56 (x : kdens S56.args) : List LoopI := [
  { ι := Nat, inv := fun k => k ≤ (x.1 : Int).toNat, dec := fun k => (x.1 : Int).toNat - k, ovr := fun k => [(6, .shr tI (k : Int)), (5, .own (.slice .bool) (.own .shr) (Sp.closC (x.1 : Int).toNat x.2.1 k))], keep := [0], sub := fun k => [
    { ι := Nat, inv := fun a => a ≤ (x.1 : Int).toNat, dec := fun a => (x.1 : Int).toNat - a, ovr := fun a => [(7, .shr tI (a : Int)), (5, .own (.slice .bool) (.own .shr) (Sp.rowsC (x.1 : Int).toNat k (Sp.closC (x.1 : Int).toNat x.2.1 k) a))], keep := [0, 6], sub := fun a => [
      { ι := Nat, inv := fun b => b ≤ (x.1 : Int).toNat, dec := fun b => (x.1 : Int).toNat - b, ovr := fun b => [(8, .shr tI (b : Int)), (5, .own (.slice .bool) (.own .shr) (Sp.rowC (x.1 : Int).toNat k a (Sp.rowsC (x.1 : Int).toNat k (Sp.closC (x.1 : Int).toNat x.2.1 k) a) b))], keep := [0, 6, 7] }] }] }]
def S17 : FSpec := { args := [.val tLit, .val tGr], multi := false, res := .bool, mode := .shr, pre := fun x => (Sp.evs 0 x.1.1).length ≤ 1000, fn := fun x => Sp.right x.1 x.2.1 }
def C17 : Ctx := { mkC 127 [(20, S20), (33, S33), (36, S36), (48, S48), (34, S34), (49, S49), (37, S37), (40, S40)] with frz := [39, 54] }
def L17 (x : kdens S17.args) : List LoopI := [
  { ι := Nat, inv := fun q => q ≤ 3 ∧ ∀ p < q, Sp.listsB ((x.2.1.2.2.1 : List (List Int)).getD p []) (Sp.wr (Sp.evs 0 x.1.1) (p : Int)) = true, dec := fun q => 3 - q, ovr := fun q => [(6, .shr tI (q : Int))], keep := [2, 3, 5] },
  { ι := Nat, inv := fun i => i ≤ (Sp.evs 0 x.1.1).length ∧ ∀ j < i, (Sp.ev x.2.1.1 j).1 = (Sp.ev (Sp.evs 0 x.1.1) j).1 ∧ (Sp.ev x.2.1.1 j).2.1 = (Sp.ev (Sp.evs 0 x.1.1) j).2.1 ∧ Sp.srcB (Sp.evs 0 x.1.1) (j : Int) ((x.2.1.2.1 : List Int).getD j 0) = true, dec := fun i => (Sp.evs 0 x.1.1).length - i, ovr := fun i => [(7, .shr tI (i : Int))], keep := [2, 3, 5] },
  { ι := Nat, inv := fun i => i ≤ (Sp.evs 0 x.1.1).length ∧ ∀ j < i, Sp.gotE (Sp.evs 0 x.1.1) x.2.1 j, dec := fun i => (Sp.evs 0 x.1.1).length - i, ovr := fun i => [(8, .shr tI (i : Int))], keep := [2, 3, 5] }]
def S19 : FSpec := { args := [.val tLit, .val tGr], multi := false, res := .bool, mode := .shr, pre := fun x => (Sp.evs 0 x.1.1).length ≤ 1000, fn := fun x => Sp.allowed x.1 x.2.1 }
def C19 : Ctx := mkC 175 [(17, S17), (55, S55), (56, S56), (57, S57), (58, S58)]
def L19 (x : kdens S19.args) : List LoopI := [
  { ι := Nat, inv := fun a => a ≤ List.length x.2.1.1, dec := fun a => List.length x.2.1.1 - a, ovr := fun a => [(8, .shr tI (a : Int)), (6, .own (.slice .bool) (.own .shr) (Sp.bl (List.length x.2.1.1) (Sp.fO x.2.1) (a * List.length x.2.1.1))), (7, .own (.slice .bool) (.own .shr) (Sp.bl (List.length x.2.1.1) (Sp.fF x.2.1) (a * List.length x.2.1.1)))], keep := [3, 5], sub := fun a => [
    { ι := Nat, inv := fun b => a < List.length x.2.1.1 ∧ b ≤ List.length x.2.1.1, dec := fun b => List.length x.2.1.1 - b, ovr := fun b => [(9, .shr tI (b : Int)), (6, .own (.slice .bool) (.own .shr) (Sp.bl (List.length x.2.1.1) (Sp.fO x.2.1) (a * List.length x.2.1.1 + b))), (7, .own (.slice .bool) (.own .shr) (Sp.bl (List.length x.2.1.1) (Sp.fF x.2.1) (a * List.length x.2.1.1 + b)))], keep := [3, 5, 8] }] },
  { ι := Nat, inv := fun a => a ≤ List.length x.2.1.1 ∧ ∀ c < a, Sp.ok1 x.2.1 c, dec := fun a => List.length x.2.1.1 - a, ovr := fun a => [(10, .shr tI (a : Int)), (6, .own (.slice .bool) (.own .shr) (Sp.rBef x.2.1)), (7, .own (.slice .bool) (.own .shr) (Sp.rFlow x.2.1))], keep := [3, 5] },
  { ι := Nat, inv := fun a => a ≤ List.length x.2.1.1 ∧ ∀ c < a, ∀ b < List.length x.2.1.1, Sp.ok2 x.2.1 c b, dec := fun a => List.length x.2.1.1 - a, ovr := fun a => [(11, .shr tI (a : Int)), (6, .own (.slice .bool) (.own .shr) (Sp.rBef x.2.1))], keep := [3, 5], sub := fun a => [
    { ι := Nat, inv := fun b => a < List.length x.2.1.1 ∧ b ≤ List.length x.2.1.1 ∧ ∀ c < b, Sp.ok2 x.2.1 a c, dec := fun b => List.length x.2.1.1 - b, ovr := fun b => [(12, .shr tI (b : Int))], keep := [3, 5, 6, 11] }] }]
def S26o : FSpec := { S26 with mode := mGr }
def C26o : Ctx := { mkC 38 [] with mds := [(17, mGr), (3, mGr), (2, mGr), (34, .own (.own .shr))] }
def L26o (x : kdens S26o.args) : List LoopI := [
  { ι := Nat, inv := fun i => i ≤ List.length x.1.2.2.1, dec := fun i => List.length x.1.2.2.1 - i, ovr := fun i => [(4, .shr tI (i : Int)), (3, .box tGr mGr (x.1.1, x.1.2.1, List.take i x.1.2.2.1, x.1.2.2.2.1, ()))], keep := [1, 2] }]
def lens (g : Sp.Gr) (n : Nat) : Prop := g.1.length ≤ n ∧ g.2.1.length ≤ n ∧ g.2.2.1.length ≤ n ∧ g.2.2.2.1.length ≤ n ∧ ∀ l ∈ g.2.2.1, l.length ≤ n
def S13 : FSpec := { args := [.val tGr, .val tCh], multi := false, res := tGr, mode := mGr, pre := fun x => lens x.1 1000, fn := fun x => (Sp.cE x.1 x.2.1, Sp.cF x.1 x.2.1, Sp.cM x.1 x.2.1, Sp.cO x.1 x.2.1, ()) }
def C13 : Ctx := { mkC 167 [(26, S26o)] with mds := [(4, mGr), (156, .own (.own .shr))], cuts := [54, 164], ded := [10, 11, 15, 16, 21, 22, 30, 31, 37, 38] }
def L13 (x : kdens S13.args) : List LoopI := []
def S15 : FSpec := { args := [.val tLit, .val tCh], multi := false, res := tLit, mode := mLit, pre := fun x => 1 ≤ x.1.1.length ∧ x.1.1.length ≤ 100 ∧ ∀ l ∈ x.1.1, l.length ≤ 100, fn := fun x => (Sp.odd x.1.1 x.2.1, ()) }
def C15 : Ctx := { mkC 122 [] with mds := [(9, mLit), (5, mLit), (4, mLit), (26, .own (.own .shr)), (82, .own (.own .shr))] }
def L15 (x : kdens S15.args) : List LoopI := [
  { ι := Nat, inv := fun i => i ≤ x.1.1.length, dec := fun i => x.1.1.length - i, ovr := fun i => [(6, .shr tI (i : Int)), (5, .box tLit mLit (x.1.1.take i, ()))], keep := [2, 3, 4] }]
def S3 : FSpec := { args := [.val (.slice (.int .u8)), .val (.slice (.int .u8)), .val (.arr 3 tCh)], multi := false, res := .bool, mode := .shr, pre := fun _ => True, fn := fun _ => true }
def C3 : Ctx := { mkC 138 [(10, S10), (11, S11), (12, S12c), (13, S13), (14, S14), (15, S15), (16, S16), (17, S17), (18, S18), (19, S19), (20, S20), (21, S21)] with frz := [19, 22, 26, 30, 35, 36, 40, 109] }
def L3 (x : kdens S3.args) : List LoopI := [
  { ι := Nat, inv := fun i => i ≤ 4, dec := fun i => 4 - i, ovr := fun i => [(13, .shr tI (i : Int))], keep := [1, 7, 8, 11, 12] }]
end Go.User
namespace Go.User
open Go.Proofs Go.Lf
set_option maxRecDepth 100000
theorem vc26o : funI C26o (stpP C26o) S26o L26o Try.f26 = (
let q0 : Nat := (1000 : Nat);
let q1 : Prop := True ∧ True ∧ True;
let q2 : Nat := (0 : Nat);
let q3 : List (List Int) := ([] : List tI.slice.den);
let q4 : List (Int × (Int × Int × Int × Unit) × Int × Unit) × List Int × List (List Int) × List Int × Unit := (([] : List tLEv.den), ([] : List tI.den), q3, ([] : List tI.den), ());
let q5 : Prop := q4 = q4 ∧ True;
let q6 : List Step := List.append._f (([] : List Step)) PUnit.unit (Step.snd :: Step.snd :: Step.fst :: ([] : List Step));
let q7 : Int := (1 : Int);
∀ (x : (List (Int × (Int × Int × Int × Unit) × Int × Unit) × List Int × List (List Int) × List Int × Unit) × Unit),
  let q8 : Nat := x.1.1.length;
  let q9 : Nat := x.1.2.1.length;
  let q10 : Nat := x.1.2.2.1.length;
  let q11 : List Int := x.1.2.2.2.1;
  let q12 : Nat := q11.length;
  let q13 : List Int × Unit := (q11, ());
  let q14 : Prop := x.1 = x.1 ∧ q5;
  (q8 ≤ q0 ∧ q9 ≤ q0 ∧ q10 ≤ q0 ∧ q12 ≤ q0 ∧ ∀ (l : List Int), l ∈ x.1.2.2.1 → l.length ≤ q0) →
    dFact (((Ty.int IntKind.i64).prod (((Ty.int IntKind.i64).prod ((Ty.int IntKind.i64).prod ((Ty.int IntKind.i64).prod Ty.unit))).prod ((Ty.int IntKind.i64).prod Ty.unit))).slice.prod ((Ty.int IntKind.i64).slice.prod ((Ty.int IntKind.i64).slice.slice.prod ((Ty.int IntKind.i64).slice.prod Ty.unit)))) x.1 ∧ True →
      (q1 ∧ True) ∧
        ((True ∧ True ∧ True ∧ (↑(q2 + q8) : Int) ≤ maxNew ∧ True ∧ True ∧ True ∧ (↑(q2 + q9) : Int) ≤ maxNew ∧ True ∧ True ∧ True ∧ (↑(q2 + q12) : Int) ≤ maxNew ∧ q1) ∧ True ∧ True) ∧
          ((True ∧ True) ∧ True) ∧
            (∃ (x_1 : Nat), x_1 ≤ q10 ∧ (0 : Int) = (↑x_1 : Int) ∧ (x.1.1, x.1.2.1, q3, q13) = (x.1.1, x.1.2.1, List.take x_1 x.1.2.2.1, q13) ∧ q14) ∧
              ∀ (x_1 : Nat),
                let q15 : List (List Int) := List.take x_1 x.1.2.2.1;
                let q16 : List (Int × (Int × Int × Int × Unit) × Int × Unit) × List Int × List (List Int) × List Int × Unit := (x.1.1, x.1.2.1, q15, q13);
                let q17 : Bool := decide ((↑x_1 : Int) < (↑q10 : Int));
                let q18 : List Int := x.1.2.2.1.getD (↑x_1 : Int).toNat (([] : List tI.den));
                let q19 : List (List Int) := q18 :: q3;
                let q20 : Int := (↑x_1 : Int) + q7;
                x_1 ≤ q10 → dFact (Ty.int IntKind.i64) (↑x_1 : Int) ∧ dFact (((Ty.int IntKind.i64).prod (((Ty.int IntKind.i64).prod ((Ty.int IntKind.i64).prod ((Ty.int IntKind.i64).prod Ty.unit))).prod ((Ty.int IntKind.i64).prod Ty.unit))).slice.prod ((Ty.int IntKind.i64).slice.prod ((Ty.int IntKind.i64).slice.slice.prod ((Ty.int IntKind.i64).slice.prod Ty.unit)))) q16 ∧ True → ((True ∧ True ∧ True ∧ q1) ∧ True) ∧ (q17 = true → ((True ∧ True ∧ True ∧ True ∧ True ∧ True ∧ inN (↑x_1 : Int) q10 ∧ True ∧ (↑(q2 + q18.length) : Int) ≤ maxNew ∧ True ∧ True) ∧ (↑(q15.length + q19.length) : Int) ≤ maxNew ∧ True ∧ q6 = q6 ∧ True) ∧ ((True ∧ inK IntKind.i64 q20 ∧ True ∧ True) ∧ True) ∧ ∃ (y : Nat), y ≤ q10 ∧ q10 - y < q10 - x_1 ∧ q20 = (↑y : Int) ∧ (x.1.1, x.1.2.1, q15 ++ q19, q13) = (x.1.1, x.1.2.1, List.take y x.1.2.2.1, q13) ∧ q14) ∧ (q17 = false → ((True ∧ True) ∧ True ∧ True) ∧ q16 = x.1)) := by kernel_rfl
theorem vc13 : funI C13 (stpP C13) S13 L13 Try.f13 = (
let q0 : Nat := (1000 : Nat);
let q1 : Prop := True ∧ True ∧ True;
let q2 : Prop := True ∧ q1;
let q3 : Int := (0 : Int);
let q4 : Prop := (True ∧ True) ∧ True ∧ True;
let q5 : Int := (11 : Int);
let q6 : Prop := q1 ∧ True;
let q7 : Int × Unit := (q3, ());
let q8 : Int × (Int × Int × Int × Unit) × Int × Unit := (q3, (q3, q3, q7), q7);
let q9 : Prop := Step.snd = Step.snd ∧ Step.snd = Step.snd ∧ Step.fst = Step.fst ∧ True;
let q10 : Prop := True ∧ True ∧ q2;
let q11 : List Step := Step.fst :: ([] : List Step);
let q12 : List Step := Step.snd :: q11;
let q13 : List Step := Step.snd :: q12;
let q14 : Nat := (64 : Nat);
let q15 : Int := (7 : Int);
let q16 : List Step := List.append._f (([] : List Step)) PUnit.unit (Step.snd :: q13);
let q17 : List (List Int) := ([] : List tI.den) :: ([] : List tI.slice.den);
let q18 : List Step := List.append._f (([] : List Step)) PUnit.unit q13;
let q19 : List Step := List.append._f (([] : List Step)) PUnit.unit q11;
let q20 : List Step := List.append._f (([] : List Step)) PUnit.unit q12;
∀ (x : (List (Int × (Int × Int × Int × Unit) × Int × Unit) × List Int × List (List Int) × List Int × Unit) × (Int × Int × Int × Unit) × Unit),
  let q21 : List Int := x.1.2.2.2.1;
  let q22 : Nat := x.1.1.length;
  let q23 : Nat := x.1.2.1.length;
  let q24 : Nat := x.1.2.2.1.length;
  let q25 : Nat := q21.length;
  let q26 : Int := (↑q22 : Int);
  let q27 : Bool := q26 == q3;
  let q28 : Prop := (true && bif q27 then false else true) = true → True;
  let q29 : Int := (↑q24 : Int);
  let q30 : Bool := bif q27 then true else q29 == q3;
  let q31 : Prop := (true && bif q30 then false else true) = true → True;
  let q32 : Int := (↑q23 : Int);
  let q33 : Bool := bif q30 then true else q32 == q3;
  let q34 : List (Int × (Int × Int × Int × Unit) × Int × Unit) × List Int × List (List Int) × List Int × Unit := (Sp.cE x.1 x.2.1, Sp.cF x.1 x.2.1, Sp.cM x.1 x.2.1, Sp.cO x.1 x.2.1, ());
  let q35 : Prop := q4 ∧ x.1 = q34;
  let q36 : Int := x.2.1.1 % q5;
  let q37 : Bool := q36 == q3;
  let q38 : Int := x.2.1.2.1.tmod q26;
  let q39 : Prop := inN q38 q22;
  let q40 : Prop := (True ∧ True ∧ True ∧ True ∧ True ∧ q39 ∧ True ∧ True) ∧ True ∧ True;
  let q41 : Nat := q38.toNat;
  let q42 : Int := x.2.1.2.2.1;
  let q43 : Int × (Int × Int × Int × Unit) × Int × Unit := x.1.1.getD q41 q8;
  let q44 : (Int × Int × Int × Unit) × Int × Unit := q43.2;
  let q45 : Bool := q36 == (1 : Int);
  let q46 : Prop := (True ∧ True ∧ True ∧ True ∧ True ∧ q39 ∧ q1) ∧ True ∧ True;
  let q47 : Int := q43.1;
  let q48 : Int × Int × Int × Unit := q44.1;
  let q49 : Int := q48.1;
  let q50 : Int × Int × Unit := q48.2;
  let q51 : Int × Unit := q50.2;
  let q52 : Int × Unit := q44.2;
  let q53 : Bool := q36 == (2 : Int);
  let q54 : Bool := q36 == (3 : Int);
  let q55 : Bool := q36 == (4 : Int);
  let q56 : Int := x.2.1.2.1.tmod q32;
  let q57 : Nat := q56.toNat;
  let q58 : Bool := q36 == (5 : Int);
  let q59 : Int := x.2.1.2.1.tmod q29;
  let q60 : Prop := inN q59 q24;
  let q61 : Nat := q59.toNat;
  let q62 : List Int := x.1.2.2.1.getD q61 (([] : List tI.den));
  let q63 : Nat := q62.length;
  let q64 : List Int := q42 :: ([] : List tI.den);
  let q65 : Nat := q64.length;
  let q66 : List Step := List.append._f q13 ⟨List.append._f q12 ⟨List.append._f q11 ⟨List.append._f (([] : List Step)) PUnit.unit, PUnit.unit⟩, List.append._f (([] : List Step)) PUnit.unit, PUnit.unit⟩, List.append._f q11 ⟨List.append._f (([] : List Step)) PUnit.unit, PUnit.unit⟩, List.append._f (([] : List Step)) PUnit.unit, PUnit.unit⟩ (Step.idx q61 :: ([] : List Step));
  let q67 : Bool := q36 == (6 : Int);
  let q68 : Int := (↑q63 : Int);
  let q69 : Bool := decide (q68 > q3);
  let q70 : Int := (IntKind.i64.wrap (↑(BitVec.ofInt q14 q42 &&& BitVec.ofInt q14 q15).toNat : Int)).tmod q68;
  let q71 : Bool := q36 == q15;
  let q72 : Bool := q36 == (8 : Int);
  let q73 : Bool := q36 == (9 : Int);
  (x.1.1.length ≤ q0 ∧ x.1.2.1.length ≤ q0 ∧ x.1.2.2.1.length ≤ q0 ∧ q21.length ≤ q0 ∧ ∀ (l : List Int), l ∈ x.1.2.2.1 → l.length ≤ q0) → dFact (((Ty.int IntKind.i64).prod (((Ty.int IntKind.i64).prod ((Ty.int IntKind.i64).prod ((Ty.int IntKind.i64).prod Ty.unit))).prod ((Ty.int IntKind.i64).prod Ty.unit))).slice.prod ((Ty.int IntKind.i64).slice.prod ((Ty.int IntKind.i64).slice.slice.prod ((Ty.int IntKind.i64).slice.prod Ty.unit)))) x.1 ∧ dFact ((Ty.int IntKind.u8).prod ((Ty.int IntKind.u8).prod ((Ty.int IntKind.i64).prod Ty.unit))) x.2.1 ∧ True → (q2 ∧ True) ∧ ((True ∧ (q22 ≤ q0 ∧ q23 ≤ q0 ∧ q24 ≤ q0 ∧ q25 ≤ q0 ∧ ∀ (l : List Int), l ∈ x.1.2.2.1 → l.length ≤ q0) ∧ True) ∧ True ∧ True) ∧ ((True ∧ True ∧ True ∧ True ∧ True ∧ q28 ∧ q28 ∧ q28 ∧ q28 ∧ True ∧ True ∧ q31 ∧ q31 ∧ q31 ∧ q31 ∧ True ∧ True) ∧ True) ∧ (q33 = true → q35) ∧ (q33 = false → ((True ∧ True ∧ True ∧ True ∧ True ∧ True ∧ q26 ≠ q3 ∧ True ∧ True) ∧ True) ∧ ((True ∧ True ∧ True ∧ True ∧ True ∧ True ∧ q32 ≠ q3 ∧ True ∧ True) ∧ True) ∧ ((True ∧ True ∧ True ∧ True ∧ True ∧ True ∧ q29 ≠ q3 ∧ True ∧ True) ∧ True) ∧ ((True ∧ True ∧ q5 ≠ q3 ∧ True) ∧ True) ∧ q6 ∧ (q37 = true → q40 ∧ q4 ∧ (x.1.1.set q41 (q42, q44), x.1.2) = q34) ∧ (q37 = false → q6 ∧ (q45 = true → q46 ∧ q4 ∧ (x.1.1.set q41 (q47, (q49, q50.1, q42, q51.2), q52), x.1.2) = q34) ∧ (q45 = false → q6 ∧ (q53 = true → q46 ∧ q4 ∧ (x.1.1.set q41 (q47, (q49, q42, q51), q52), x.1.2) = q34) ∧ (q53 = false → q6 ∧ (q54 = true → q40 ∧ q4 ∧ (x.1.1.set q41 (q47, q48, q42, q52.2), x.1.2) = q34) ∧ (q54 = false → q6 ∧ (q55 = true → ((True ∧ True ∧ True ∧ True ∧ True ∧ inN q56 q23 ∧ True) ∧ True ∧ True) ∧ q4 ∧ (x.1.1, x.1.2.1.set q57 q42, x.1.2.2) = q34) ∧ (q55 = false → q6 ∧ (q58 = true → (((True ∧ True ∧ True ∧ True ∧ True ∧ True ∧ q60 ∧ True ∧ True ∧ True ∧ True ∧ (↑(q63 + q65) : Int) ≤ maxNew ∧ q60 ∧ True) ∧ True ∧ True ∧ True ∧ True ∧ True ∧ True ∧ True ∧ True ∧ True ∧ True ∧ True ∧ ((True ∧ q9 ∧ True ∧ True ∧ q9 ∧ True ∧ True ∧ (Step.snd = Step.snd ∧ Step.snd = Step.snd ∧ Step.fst = Step.fst ∧ Step.idx q61 = Step.idx q61 ∧ True) ∧ q10) ∧ True ∧ True ∧ True ∧ True ∧ True ∧ True ∧ True ∧ True ∧ True ∧ True ∧ True ∧ True ∧ True ∧ True ∧ True ∧ True ∧ True ∧ True ∧ True ∧ True ∧ True ∧ True ∧ True ∧ True ∧ True ∧ True ∧ True ∧ True ∧ True ∧ True ∧ True ∧ True ∧ True ∧ True ∧ True ∧ True ∧ True ∧ True ∧ True ∧ True ∧ True ∧ True ∧ True ∧ True ∧ True ∧ True ∧ True ∧ True ∧ True ∧ True ∧ True ∧ True ∧ True ∧ True ∧ True ∧ True ∧ True ∧ True ∧ True ∧ True ∧ True ∧ True ∧ True ∧ True ∧ True ∧ True ∧ True ∧ True ∧ True ∧ True ∧ True ∧ True ∧ True ∧ True ∧ True ∧ True ∧ True ∧ True ∧ True ∧ True ∧ True ∧ True ∧ True ∧ True ∧ True ∧ True ∧ True ∧ True ∧ True ∧ True ∧ True ∧ True ∧ True ∧ True ∧ True ∧ True ∧ True ∧ True ∧ True ∧ True ∧ True ∧ True ∧ True ∧ True ∧ True ∧ True ∧ True ∧ True ∧ True ∧ True ∧ True ∧ True ∧ True ∧ True ∧ True ∧ True ∧ True ∧ True ∧ True ∧ True ∧ True ∧ q9 ∧ True ∧ True ∧ True ∧ True ∧ True ∧ True ∧ True ∧ True ∧ True ∧ True ∧ True ∧ True ∧ True ∧ True ∧ True ∧ True ∧ True ∧ True ∧ True ∧ True ∧ True ∧ True ∧ True ∧ True ∧ True ∧ True ∧ True ∧ True ∧ True ∧ True ∧ True ∧ True ∧ True ∧ True ∧ True ∧ True ∧ True ∧ True ∧ True ∧ True ∧ q10) ∧ True ∧ True) ∧ q66 = q66 ∧ True) ∧ q4 ∧ (x.1.1, x.1.2.1, x.1.2.2.1.set q61 (q62 ++ q64), x.1.2.2.2) = q34) ∧ (q58 = false → q6 ∧ (q67 = true → ((True ∧ True ∧ True ∧ q60 ∧ q2) ∧ True) ∧ (q69 = true → ((True ∧ True ∧ True ∧ q60 ∧ True ∧ True ∧ True ∧ True ∧ True ∧ True ∧ True ∧ q60 ∧ True ∧ True ∧ q68 ≠ q3 ∧ True ∧ inN q70 q63 ∧ True) ∧ True ∧ True) ∧ q4 ∧ (x.1.1, x.1.2.1, x.1.2.2.1.set q61 (q62.set q70.toNat q38), x.1.2.2.2) = q34) ∧ (q69 = false → q35)) ∧ (q67 = false → q6 ∧ (q71 = true → (q10 ∧ (↑(q25 + q65) : Int) ≤ maxNew ∧ True ∧ q16 = q16 ∧ True) ∧ q4 ∧ (x.1.1, x.1.2.1, x.1.2.2.1, q21 ++ q64, x.1.2.2.2.2) = q34) ∧ (q71 = false → q6 ∧ (q72 = true → (q2 ∧ (↑(q24 + q17.length) : Int) ≤ maxNew ∧ True ∧ q18 = q18 ∧ True) ∧ q4 ∧ (x.1.1, x.1.2.1, x.1.2.2.1 ++ q17, x.1.2.2.2) = q34) ∧ (q72 = false → q6 ∧ (q73 = true → ((True ∧ True ∧ True ∧ winI q3 q38 q22 ∧ True ∧ True) ∧ q19 = q19 ∧ True) ∧ q4 ∧ (List.take q41 x.1.1, x.1.2) = q34) ∧ (q73 = false → ((True ∧ True ∧ True ∧ winI q3 q56 q23 ∧ True ∧ True) ∧ q20 = q20 ∧ True) ∧ q4 ∧ (x.1.1, List.take q57 x.1.2.1, x.1.2.2) = q34)))))))))))) := by kernel_rfl
theorem vc15 : funI C15 (stpP C15) S15 L15 Try.f15 = (
let q0 : Nat := (100 : Nat);
let q1 : Prop := True ∧ True ∧ True;
let q2 : Prop := True ∧ q1;
let q3 : Int := (0 : Int);
let q4 : List (List (Int × Int × Int × Unit)) := ([] : List tLOp.slice.den);
let q5 : List (List (Int × Int × Int × Unit)) × Unit := (q4, ());
let q6 : Prop := q5 = q5 ∧ True;
let q7 : Prop := True ∧ True ∧ q2;
let q8 : List Step := Step.fst :: ([] : List Step);
let q9 : List Step := List.append._f (([] : List Step)) PUnit.unit q8;
let q10 : Prop := True ∧ q9 = q9 ∧ True;
let q11 : Int := (1 : Int);
let q12 : Int := (5 : Int);
let q13 : Prop := q12 ≠ q3;
let q14 : Int := (4 : Int);
let q15 : Int × Int × Unit := (q3, q3, ());
let q16 : Prop := Step.fst = Step.fst ∧ True;
let q17 : Prop := True ∧ q7;
let q18 : Prop := (True ∧ True) ∧ True ∧ True;
let q19 : Prop := q1 ∧ True;
let q20 : Int × Int × Int × Unit := (q3, q15);
let q21 : List (List (Int × Int × Int × Unit)) := ((q11, q15) :: ([] : List tLOp.den)) :: q4;
∀ (x : (List (List (Int × Int × Int × Unit)) × Unit) × (Int × Int × Int × Unit) × Unit),
  let q22 : Nat := x.1.1.length;
  let q23 : Prop := x.1 = x.1 ∧ x.2.1 = x.2.1 ∧ q6;
  let q24 : Int := x.2.1.1 % q12;
  let q25 : Bool := q24 == q14;
  let q26 : Prop := (true && bif q25 then false else true) = true;
  let q27 : Prop := q26 → True;
  let q28 : Int := x.2.1.2.2.1;
  let q29 : List (Int × Int × Int × Unit) := (q28, q15) :: ([] : List tLOp.den);
  let q30 : List (List (Int × Int × Int × Unit)) × Unit := (Sp.odd x.1.1 x.2.1, ());
  let q31 : Bool := q24 == q3;
  let q32 : Int := x.2.1.2.1 / q14;
  let q33 : Bool := q24 == q11;
  let q34 : Bool := q24 == (2 : Int);
  ((1 : Nat) ≤ q22 ∧ q22 ≤ q0 ∧ ∀ (l : List (Int × Int × Int × Unit)), l ∈ x.1.1 → l.length ≤ q0) →
    dFact (((Ty.int IntKind.i64).prod ((Ty.int IntKind.i64).prod ((Ty.int IntKind.i64).prod Ty.unit))).slice.slice.prod Ty.unit) x.1 ∧ dFact ((Ty.int IntKind.u8).prod ((Ty.int IntKind.u8).prod ((Ty.int IntKind.i64).prod Ty.unit))) x.2.1 ∧ True →
      (q2 ∧ True) ∧
        (q1 ∧ True ∧ True) ∧
          ((True ∧ True) ∧ True) ∧
            (∃ (x_1 : Nat), x_1 ≤ q22 ∧ q3 = (↑x_1 : Int) ∧ q5 = (List.take x_1 x.1.1, ()) ∧ q23) ∧
              ∀ (x_1 : Nat),
                let q35 : List (List (Int × Int × Int × Unit)) := List.take x_1 x.1.1;
                let q36 : Bool := decide ((↑x_1 : Int) < (↑q22 : Int));
                let q37 : List (Int × Int × Int × Unit) := x.1.1.getD (↑x_1 : Int).toNat (([] : List tLOp.den));
                let q38 : Nat := q35.length;
                let q39 : List (List (Int × Int × Int × Unit)) := q37 :: q4;
                let q40 : Int := (↑x_1 : Int) + q11;
                let q41 : Int := (↑q38 : Int);
                let q42 : Int := x.2.1.2.1.tmod q41;
                let q43 : Prop := inN q42 q38;
                let q44 : Nat := q42.toNat;
                let q45 : List (Int × Int × Int × Unit) := q35.getD q44 (([] : List tLOp.den));
                let q46 : Nat := q45.length;
                let q47 : Int := (↑q46 : Int);
                let q48 : Bool := bif q25 then true else q47 == q3;
                let q49 : List Step := List.append._f q8 ⟨List.append._f (([] : List Step)) PUnit.unit, PUnit.unit⟩ (Step.idx q44 :: ([] : List Step));
                let q50 : Int := q32.tmod q47;
                let q51 : Prop := (True ∧ True ∧ True ∧ q43 ∧ True ∧ True ∧ True ∧ True ∧ inN q50 q46 ∧ True ∧ True) ∧ True ∧ True;
                let q52 : Nat := q50.toNat;
                let q53 : Int × Int × Int × Unit := q45.getD q52 q20;
                let q54 : Int × Int × Unit := q53.2;
                let q55 : Int := q53.1;
                let q56 : Int × Unit := q54.2;
                x_1 ≤ q22 → dFact (Ty.int IntKind.i64) (↑x_1 : Int) ∧ dFact (((Ty.int IntKind.i64).prod ((Ty.int IntKind.i64).prod ((Ty.int IntKind.i64).prod Ty.unit))).slice.slice.prod Ty.unit) (q35, ()) ∧ True → (q7 ∧ True) ∧ (q36 = true → ((True ∧ True ∧ True ∧ True ∧ True ∧ True ∧ inN (↑x_1 : Int) q22 ∧ True ∧ (↑((0 : Nat) + q37.length) : Int) ≤ maxNew ∧ True ∧ True) ∧ (↑(q38 + q39.length) : Int) ≤ maxNew ∧ q10) ∧ ((True ∧ inK IntKind.i64 q40 ∧ True ∧ True) ∧ True) ∧ ∃ (y : Nat), y ≤ q22 ∧ q22 - y < q22 - x_1 ∧ q40 = (↑y : Int) ∧ (q35 ++ q39, ()) = (List.take y x.1.1, ()) ∧ q23) ∧ (q36 = false → ((True ∧ True ∧ True ∧ True ∧ True ∧ True ∧ q41 ≠ q3 ∧ True ∧ True) ∧ True) ∧ ((True ∧ True ∧ q13 ∧ True ∧ True ∧ q27 ∧ q27 ∧ q27 ∧ (q26 → q43) ∧ q27 ∧ q27 ∧ q27 ∧ True ∧ True) ∧ True) ∧ (q48 = true → (((True ∧ True ∧ True ∧ True ∧ True ∧ True ∧ q43 ∧ True ∧ True ∧ True ∧ True ∧ True ∧ (↑(q46 + q29.length) : Int) ≤ maxNew ∧ q43 ∧ True) ∧ True ∧ True ∧ True ∧ True ∧ True ∧ True ∧ True ∧ True ∧ True ∧ True ∧ True ∧ True ∧ ((True ∧ q16 ∧ True ∧ True ∧ q16 ∧ True ∧ True ∧ (Step.fst = Step.fst ∧ Step.idx q44 = Step.idx q44 ∧ True) ∧ q17) ∧ True ∧ True ∧ True ∧ True ∧ True ∧ True ∧ True ∧ True ∧ True ∧ True ∧ True ∧ True ∧ True ∧ True ∧ True ∧ True ∧ True ∧ True ∧ True ∧ True ∧ True ∧ True ∧ True ∧ True ∧ True ∧ True ∧ True ∧ True ∧ True ∧ True ∧ True ∧ True ∧ True ∧ True ∧ True ∧ True ∧ True ∧ True ∧ True ∧ True ∧ True ∧ True ∧ True ∧ True ∧ True ∧ True ∧ True ∧ True ∧ True ∧ True ∧ True ∧ True ∧ True ∧ True ∧ True ∧ True ∧ True ∧ True ∧ True ∧ True ∧ True ∧ True ∧ True ∧ True ∧ True ∧ True ∧ True ∧ True ∧ True ∧ True ∧ True ∧ True ∧ True ∧ True ∧ True ∧ True ∧ True ∧ True ∧ True ∧ True ∧ True ∧ True ∧ True ∧ True ∧ True ∧ True ∧ True ∧ True ∧ q16 ∧ True ∧ True ∧ True ∧ True ∧ True ∧ True ∧ True ∧ True ∧ True ∧ True ∧ True ∧ True ∧ True ∧ True ∧ True ∧ True ∧ True ∧ True ∧ True ∧ True ∧ True ∧ True ∧ True ∧ True ∧ True ∧ True ∧ True ∧ q17) ∧ True ∧ True) ∧ q49 = q49 ∧ True) ∧ q18 ∧ (q35.set q44 (q45 ++ q29), ()) = q30) ∧ (q48 = false → ((True ∧ True ∧ q14 ≠ q3 ∧ True ∧ True ∧ True ∧ True ∧ q43 ∧ True ∧ True ∧ q47 ≠ q3 ∧ True ∧ True) ∧ True) ∧ ((True ∧ True ∧ q13 ∧ True) ∧ True) ∧ q19 ∧ (q31 = true → q51 ∧ q18 ∧ (q35.set q44 (q45.set q52 (q28, q54)), ()) = q30) ∧ (q31 = false → q19 ∧ (q33 = true → q51 ∧ q18 ∧ (q35.set q44 (q45.set q52 (q55, q28, q56)), ()) = q30) ∧ (q33 = false → q19 ∧ (q34 = true → q51 ∧ q18 ∧ (q35.set q44 (q45.set q52 (q55, q54.1, q28, q56.2)), ()) = q30) ∧ (q34 = false → (q7 ∧ (↑(q38 + q21.length) : Int) ≤ maxNew ∧ q10) ∧ q18 ∧ (q35 ++ q21, ()) = q30)))))) := by kernel_rfl
theorem vc3 : funI C3 (stpP C3) S3 L3 Try.f3 = (
let q0 : Nat := (3 : Nat);
let q1 : Prop := True ∧ True ∧ True;
let q2 : Prop := q1 ∧ True;
let q3 : Prop := (True ∧ True) ∧ True;
let q4 : Prop := q3 ∧ false = true;
let q5 : Prop := True ∧ q1;
let q6 : Int := (0 : Int);
let q7 : Nat := (100 : Nat);
let q8 : Nat := (1000 : Nat);
let q9 : Int := (1 : Int);
let q10 : Nat := q6.toNat;
let q11 : Int × Int × Int × Unit := (q6, q6, q6, ());
let q12 : Int := (2 : Int);
let q13 : Nat := (4 : Nat);
let q14 : Prop := true = true;
let q15 : Nat := q9.toNat;
let q16 : Nat := q12.toNat;
let q17 : Prop := (true && true) = true;
let q18 : Prop := q17 → True;
∀ (x : List Int × List Int × List (Int × Int × Int × Unit) × Unit),
  let q19 : List (Int × (Int × Int × Int × Unit) × Int × Unit) := Sp.evs q6 (Sp.madeP x.1);
  let q20 : Nat := q19.length;
  let q21 : Prop := q20 ≤ q7 ∧ ∀ (x : Sp.LEv), x ∈ q19 → inN x.2.1.2.1 q0;
  let q22 : List (List (Int × Int × Int × Unit)) × Unit := (Sp.madeP x.1, ());
  let q23 : List (Int × (Int × Int × Int × Unit) × Int × Unit) := Sp.gE q22 x.2.1;
  let q24 : List Int := Sp.gF q22 x.2.1;
  let q25 : List (List Int) := Sp.gM q22 x.2.1;
  let q26 : List Int := Sp.gO q22 x.2.1;
  let q27 : Nat := (Sp.madeP x.1).length;
  let q28 : Prop := q27 ≤ q7;
  let q29 : List (Int × (Int × Int × Int × Unit) × Int × Unit) × List Int × List (List Int) × List Int × Unit := (q23, q24, q25, q26, ());
  let q30 : Int × Int × Int × Unit := x.2.2.1.getD q10 q11;
  let q31 : List (Int × (Int × Int × Int × Unit) × Int × Unit) := Sp.cE q29 q30;
  let q32 : List Int := Sp.cF q29 q30;
  let q33 : List (List Int) := Sp.cM q29 q30;
  let q34 : List Int := Sp.cO q29 q30;
  let q35 : List (Int × (Int × Int × Int × Unit) × Int × Unit) × List Int × List (List Int) × List Int × Unit := (q31, q32, q33, q34, ());
  let q36 : Int × Int × Int × Unit := x.2.2.1.getD q15 q11;
  let q37 : List (List (Int × (Int × Int × Int × Unit) × Int × Unit) × List Int × List (List Int) × List Int × Unit) := q29 :: (Sp.iE q22 x.2.1, Sp.iF q22 x.2.1, Sp.iM q22 x.2.1, Sp.iO q22 x.2.1, ()) :: q35 :: (Sp.cE q35 q36, Sp.cF q35 q36, Sp.cM q35 q36, Sp.cO q35 q36, ()) :: ([] : List tGr.den);
  let q38 : List (List (Int × Int × Int × Unit)) := Sp.odd (Sp.madeP x.1) (x.2.2.1.getD q16 q11);
  let q39 : List (List (Int × Int × Int × Unit)) × Unit := (q38, ());
  let q40 : Prop := x.2.1 = x.2.1 ∧ q14 ∧ q22 = q22 ∧ q37 = q37 ∧ q39 = q39 ∧ True;
  let q41 : Nat := q37.length;
  let q42 : Prop := q20 ≤ q8;
  let q43 : List (Int × (Int × Int × Int × Unit) × Int × Unit) := Sp.evs q6 q38;
  let q44 : Nat := q43.length;
  let q45 : Prop := q44 ≤ q8;
  let q46 : Bool := Sp.valid q39;
  let q47 : List (Int × (Int × Int × Int × Unit) × Int × Unit) × List Int × List (List Int) × List Int × Unit := (Sp.gE q39 x.2.1, Sp.gF q39 x.2.1, Sp.gM q39 x.2.1, Sp.gO q39 x.2.1, ());
  let q48 : Bool := Sp.right q39 q47;
  let q49 : Bool := q48 != q48;
  let q50 : Prop := (true && bif q49 then false else true) = true;
  let q51 : Prop := q50 → True;
  let q52 : Prop := q50 → q45;
  let q53 : Bool := Sp.allowed q39 q47;
  let q54 : Bool := bif q49 then true else q53 != q53;
  let q55 : Bool := Sp.valid q22;
  let q56 : Prop := (true && bif q55 then true else false) = true;
  let q57 : Prop := q56 → True;
  let q58 : Prop := ((True ∧ True ∧ q18 ∧ (q17 → q42) ∧ True ∧ True ∧ q57 ∧ (q56 → q45) ∧ q57 ∧ q57 ∧ q57 ∧ q1) ∧ True) ∧ (bif q55 then q46 == q46 else false) = true;
  True →
    dFact (Ty.int IntKind.u8).slice x.1 ∧ dFact (Ty.int IntKind.u8).slice x.2.1 ∧ dFact (Ty.arr q0 ((Ty.int IntKind.u8).prod ((Ty.int IntKind.u8).prod ((Ty.int IntKind.i64).prod Ty.unit)))) x.2.2.1 ∧ True →
      q2 ∧
        q2 ∧
          q2 ∧
            ((!true) = true → q4) ∧
              ((!true) = false →
                (q5 ∧ True ∧ True) ∧
                  ((True ∧ True ∧ q21 ∧ True ∧ True) ∧ True ∧ True) ∧
                    ((True ∧ inN q6 q0 ∧ True ∧ (q23.length ≤ q8 ∧ q24.length ≤ q8 ∧ q25.length ≤ q8 ∧ q26.length ≤ q8 ∧ ∀ (l : List Int), l ∈ q25 → l.length ≤ q8) ∧ True ∧ True) ∧ True ∧ True) ∧
                      ((True ∧ True ∧ True ∧ (q21 ∧ q28) ∧ True ∧ True ∧ inN q9 q0 ∧ True ∧ (q31.length ≤ q8 ∧ q32.length ≤ q8 ∧ q33.length ≤ q8 ∧ q34.length ≤ q8 ∧ ∀ (l : List Int), l ∈ q33 → l.length ≤ q8) ∧ q1) ∧ True) ∧
                        ((True ∧ inN q12 q0 ∧ True ∧ ((1 : Nat) ≤ q27 ∧ q28 ∧ ∀ (l : List (Int × Int × Int × Unit)), l ∈ Sp.madeP x.1 → l.length ≤ q7) ∧ True ∧ True) ∧ True ∧ True) ∧
                          q3 ∧
                            (∃ (x : Nat), x ≤ q13 ∧ q6 = (↑x : Int) ∧ q40) ∧
                              ∀ (x : Nat),
                                let q59 : Bool := decide ((↑x : Int) < (↑q41 : Int));
                                let q60 : Prop := inN (↑x : Int) q41;
                                let q61 : List (Int × (Int × Int × Int × Unit) × Int × Unit) × List Int × List (List Int) × List Int × Unit := q37.getD (↑x : Int).toNat (([] : List tLEv.den), ([] : List tI.den), ([] : List tI.slice.den), ([] : List tI.den), ());
                                let q62 : Bool := Sp.right q22 q61;
                                let q63 : Bool := q62 != q62;
                                let q64 : Prop := (true && bif q63 then false else true) = true;
                                let q65 : Prop := q64 → True;
                                let q66 : Prop := q64 → q60;
                                let q67 : Prop := q64 → q42;
                                let q68 : Bool := Sp.allowed q22 q61;
                                let q69 : Bool := bif q63 then true else q68 != q68;
                                let q70 : Prop := (true && bif q69 then false else true) = true;
                                let q71 : Prop := q70 → True;
                                let q72 : Prop := q70 → q60;
                                let q73 : Prop := q70 → q45;
                                let q74 : Bool := Sp.right q39 q61;
                                let q75 : Bool := bif q69 then true else q74 != q74;
                                let q76 : Prop := (true && bif q75 then false else true) = true;
                                let q77 : Prop := q76 → True;
                                let q78 : Prop := q76 → q60;
                                let q79 : Prop := q76 → q45;
                                let q80 : Bool := Sp.allowed q39 q61;
                                let q81 : Bool := bif q75 then true else q80 != q80;
                                let q82 : Int := (↑x : Int) + q9;
                                x ≤ q13 → dFact (Ty.int IntKind.i64) (↑x : Int) ∧ True → ((True ∧ q5) ∧ True) ∧ (q59 = true → ((True ∧ True ∧ True ∧ q60 ∧ True ∧ q42 ∧ True ∧ True ∧ True ∧ q60 ∧ True ∧ q42 ∧ True ∧ True ∧ q65 ∧ q65 ∧ q65 ∧ q66 ∧ q65 ∧ q67 ∧ q65 ∧ q65 ∧ q65 ∧ q66 ∧ q65 ∧ q67 ∧ q65 ∧ True ∧ True ∧ q71 ∧ q71 ∧ q71 ∧ q72 ∧ q71 ∧ q73 ∧ q71 ∧ q71 ∧ q71 ∧ q72 ∧ q71 ∧ q73 ∧ q71 ∧ True ∧ True ∧ q77 ∧ q77 ∧ q77 ∧ q78 ∧ q77 ∧ q79 ∧ q77 ∧ q77 ∧ q77 ∧ q78 ∧ q77 ∧ q79 ∧ q77 ∧ True ∧ True) ∧ True) ∧ (q81 = true → q4) ∧ (q81 = false → ((True ∧ inK IntKind.i64 q82 ∧ True ∧ True) ∧ True) ∧ ∃ (y : Nat), y ≤ q13 ∧ q13 - y < q13 - x ∧ q82 = (↑y : Int) ∧ q40)) ∧ (q59 = false → q2 ∧ (q46 = true → ((True ∧ True ∧ (q44 ≤ q7 ∧ ∀ (x : Sp.LEv), x ∈ q43 → inN x.2.1.2.1 q0) ∧ True ∧ True) ∧ True ∧ True) ∧ ((True ∧ True ∧ q45 ∧ True ∧ True ∧ q45 ∧ True ∧ True ∧ q51 ∧ q51 ∧ q52 ∧ q51 ∧ q51 ∧ q52 ∧ q51 ∧ True ∧ True) ∧ True) ∧ (q54 = true → q4) ∧ (q54 = false → q58)) ∧ (q46 = false → q58)))) := by kernel_rfl
end Go.User
