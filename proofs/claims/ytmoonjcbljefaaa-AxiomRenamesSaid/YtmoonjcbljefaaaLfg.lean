/- Lists of events, the relations, whether lists are right: what is computed. Whether a graph is right, and allowed: what is computed. Graphs out of bytes; fixed examples: what is computed. Tests out of bytes; the fixed examples; the law of coherence: what is computed. One operation after the other on a memory; the law of sequential executions: what is computed. The law of fences: what is computed. The law of renaming: what is computed. Written by gen.py: what is left to show of each function. Written by gen.py: what is left to show of each function. Written by gen.py: what is left to show of each function. -/
import Derived.Test.YtmoonjcbljefaaaLff
set_option linter.unusedVariables false
set_option linter.unusedSimpArgs false
namespace Sp
def mkEv (c : Int) (o : LOp) : LEv := (c, o, 0, ())
def evs : Int → List (List LOp) → List LEv
  | _, [] => []
  | c, l :: ls => l.map (mkEv c) ++ evs (c + 1) ls
/-- The numbers below n with a property. -/
def sel (p : Nat → Bool) (n : Nat) : List Int := ((List.range n).filter p).map (fun (i : Nat) => (i : Int))
def wr (e : List LEv) (x : Int) : List Int := sel (fun i => writes (ev e i).2.1 && decide ((ev e i).2.1.2.1 = x)) e.length
def fen (e : List LEv) : List Int := sel (fun i => decide ((ev e i).2.1.1 = 4)) e.length
def shuf : Nat → List Int → List Int → Int → List Int
  | 0, _, _, _ => []
  | n + 1, l, b, i => l.getD ((byteAt b i).tmod (l.length : Int)).toNat 0 :: shuf n (l.eraseIdx ((byteAt b i).tmod (l.length : Int)).toNat) b (i + 1)
def shuffled (l b : List Int) (i : Int) : List Int := shuf l.length l b i
def get2 (r : Rel) (a b : Nat) : Bool := (r.getD a (List.replicate 6 false)).getD b false
def upd2 (r : Rel) (a b : Nat) (v : Bool) : Rel := r.set a ((r.getD a (List.replicate 6 false)).set b v)
def stepB (k a : Nat) (r : Rel) (b : Nat) : Rel := upd2 r a b (get2 r a b || (get2 r a k && get2 r k b))
def rowB (k a : Nat) (r : Rel) (n : Nat) : Rel := (List.range n).foldl (stepB k a) r
def rowA (k : Nat) (r : Rel) (n : Nat) : Rel := (List.range n).foldl (fun r a => rowB k a r 6) r
def closeN (r : Rel) (n : Nat) : Rel := (List.range n).foldl (fun r k => rowA k r 6) r
def close (r : Rel) : Rel := closeN r 6
def round (r : Rel) : Bool := (List.range 6).any fun a => get2 r a a
def mat (f : Nat → Nat → Bool) : Rel := (List.range 6).map fun a => (List.range 6).map fun b => f a b
/-- Ordered by the program, or by the fences. -/
def ordF (e : List LEv) (fo : List Int) (a b : Nat) : Bool :=
  (decide (a < b) && decide (b < e.length) && decide ((ev e a).1 = (ev e b).1)) || (List.range fo.length).any fun j => (List.range j).any fun i => decide (fo.getD i 0 = a) && decide (fo.getD j 0 = b)
def oA (e : List LEv) (i a b : Nat) : Bool := decide (a < i) && ordF e [] a b
def oB (e : List LEv) (i k a b : Nat) : Bool := (decide (a < i) || (decide (a = i) && decide (b < k))) && ordF e [] a b
def fo2 (fo : List Int) (p q a b : Nat) : Bool := decide (fo.getD p 0 = (a : Int)) && decide (fo.getD q 0 = (b : Int))
def oC (e : List LEv) (fo : List Int) (i a b : Nat) : Bool := ordF e [] a b || (List.range i).any fun p => (List.range fo.length).any fun q => decide (p < q) && fo2 fo p q a b
def oD (e : List LEv) (fo : List Int) (i k a b : Nat) : Bool := oC e fo i a b || (List.range k).any fun q => fo2 fo i (i + 1 + q) a b
def order (g : Gr) : Rel := mat (ordF g.1 g.2.2.2.1)
def plc (g : Gr) (n : Int) : Int × Int × Unit :=
  (idx (g.2.2.1.getD (ev g.1 n).2.1.2.1.toNat []) n, idx (g.2.2.1.getD (ev g.1 n).2.1.2.1.toNat []) (g.2.1.getD n.toNat 0), ())
/-- A list has exactly the events of a kind, each once. -/
def isList (l : List Int) (e : List LEv) (is : LOp → Bool) : Bool :=
  decide (l.Nodup ∧ ∀ n ∈ l, 0 ≤ n ∧ n < e.length ∧ is (ev e n).2.1 = true) && decide (∀ n < e.length, is (ev e n).2.1 = true → (n : Int) ∈ l)
def valid (t : Lit) : Bool :=
  decide (1 ≤ t.1.length) && decide (t.1.length ≤ 4) && decide (1 ≤ (evs 0 t.1).length) && decide ((evs 0 t.1).length ≤ 6) && (evs 0 t.1).all fun x => usual x.2.1
end Sp
namespace Go.User
open Go.Lf
-- events, Events
def S41 : FSpec := { args := [.val tLit], multi := false, res := .slice tLEv, mode := .own .shr, pre := fun x => (Sp.evs 0 x.1.1).length ≤ 1000, fn := fun x => Sp.evs 0 x.1.1 }
def C41 : Ctx := mkC 31 []
def L41 (x : kdens S41.args) : List LoopI := [
  { ι := Nat × List Sp.LEv, inv := fun i => i.1 ≤ x.1.1.length ∧ i.2 = Sp.evs 0 (x.1.1.take i.1), dec := fun i => x.1.1.length - i.1, ovr := fun i => [(11, .shr tI (i.1 : Int)), (3, .own (.slice tLEv) (.own .shr) i.2)], keep := [1, 9, 10], sub := fun i => [
    { ι := Nat × List Sp.LEv, inv := fun k => k.1 ≤ (x.1.1.getD i.1 []).length ∧ k.2 = Sp.evs 0 (x.1.1.take i.1) ++ ((x.1.1.getD i.1 []).take k.1).map (Sp.mkEv (i.1 : Int)), dec := fun k => (x.1.1.getD i.1 []).length - k.1, ovr := fun k => [(18, .shr tI (k.1 : Int)), (3, .own (.slice tLEv) (.own .shr) k.2)], keep := [1, 9, 10, 11, 4, 16, 17] }] }]
def S33 := S41
def C33 : Ctx := mkC 38 []
def L33 (x : kdens S41.args) : List LoopI := [
  { ι := Nat × List Sp.LEv, inv := fun i => i.1 ≤ x.1.1.length ∧ i.2 = Sp.evs 0 (x.1.1.take i.1), dec := fun i => x.1.1.length - i.1, ovr := fun i => [(4, .shr tI (i.1 : Int)), (3, .own (.slice tLEv) (.own .shr) i.2)], keep := [1], sub := fun i => [
    { ι := Nat × List Sp.LEv, inv := fun k => k.1 ≤ (x.1.1.getD i.1 []).length ∧ k.2 = Sp.evs 0 (x.1.1.take i.1) ++ ((x.1.1.getD i.1 []).take k.1).map (Sp.mkEv (i.1 : Int)), dec := fun k => (x.1.1.getD i.1 []).length - k.1, ovr := fun k => [(5, .shr tI (k.1 : Int)), (3, .own (.slice tLEv) (.own .shr) k.2)], keep := [1, 4] }] }]
-- Writes, Fences
def S34 : FSpec := { args := [.val (.slice tLEv), .val tI], multi := false, res := .slice tI, mode := .own .shr, pre := fun x => List.length x.1 ≤ 1000, fn := fun x => Sp.wr x.1 x.2.1 }
def C34 : Ctx := mkC 35 [(32, S32)]
def L34 (x : kdens S34.args) : List LoopI := [
  { ι := Nat × List Int, inv := fun i => i.1 ≤ List.length x.1 ∧ i.2 = Sp.sel (fun i => Sp.writes (Sp.ev x.1 i).2.1 && decide ((Sp.ev x.1 i).2.1.2.1 = x.2.1)) i.1, dec := fun i => List.length x.1 - i.1, ovr := fun i => [(6, .shr tI (i.1 : Int)), (5, .own (.slice tI) (.own .shr) i.2)], keep := [0, 1] }]
def S36 : FSpec := { args := [.val (.slice tLEv)], multi := false, res := .slice tI, mode := .own .shr, pre := fun x => List.length x.1 ≤ 1000, fn := fun x => Sp.fen x.1 }
def C36 : Ctx := mkC 24 []
def L36 (x : kdens S36.args) : List LoopI := [
  { ι := Nat × List Int, inv := fun i => i.1 ≤ List.length x.1 ∧ i.2 = Sp.sel (fun i => decide ((Sp.ev x.1 i).2.1.1 = 4)) i.1, dec := fun i => List.length x.1 - i.1, ovr := fun i => [(4, .shr tI (i.1 : Int)), (3, .own (.slice tI) (.own .shr) i.2)], keep := [0] }]
-- shuffled
def S35 : FSpec := { args := [.val (.slice tI), .val (.slice (.int .u8)), .val tI], multi := false, res := .slice tI, mode := .own .shr, pre := fun x => List.length x.1 ≤ 1000 ∧ (0 : Int) ≤ x.2.2.1 ∧ (x.2.2.1 : Int) ≤ 1000, fn := fun x => Sp.shuffled x.1 x.2.1 x.2.2.1 }
def C35 : Ctx := mkC 43 [(38, S38)]
def L35 (x : kdens S35.args) : List LoopI := [
  { ι := List Int × List Int × Int, inv := fun i => i.1.length + i.2.1.length = List.length x.1 ∧ (0 : Int) ≤ i.2.2 ∧ i.2.2 + i.2.1.length = x.2.2.1 + List.length x.1 ∧ i.1 ++ Sp.shuf i.2.1.length i.2.1 x.2.1 i.2.2 = Sp.shuffled x.1 x.2.1 x.2.2.1, dec := fun i => i.2.1.length, ovr := fun i => [(7, .own (.slice tI) (.own .shr) i.1), (8, .own (.slice tI) (.own .shr) i.2.1), (2, .shr tI i.2.2)], keep := [0, 1] }]
-- where
def S53 : FSpec := { args := [.val tGr, .val tI], multi := false, res := tPl, mode := .shr, pre := fun x => inN x.2.1 (List.length x.1.1) ∧ inN x.2.1 (List.length x.1.2.1) ∧ inN (Sp.ev x.1.1 x.2.1).2.1.2.1 (List.length x.1.2.2.1), fn := fun x => Sp.plc x.1 x.2.1 }
def C53 : Ctx := mkC 31 [(63, S63)]
def L53 (x : kdens S53.args) : List LoopI := []
-- close, round
def S51 : PSpec := { τ := tRel, pre := fun _ => True, fn := fun r => Sp.close r }
def C51 : Ctx := { mkC 48 [] with p0 := true }
def L51 (x : S51.τ.den) : List LoopI := [
  { ι := Nat × Sp.Rel, inv := fun i => i.1 ≤ 6 ∧ i.2 = Sp.closeN x i.1, dec := fun i => 6 - i.1, ovr := fun i => [(5, .shr tI (i.1 : Int)), (0, .box tRel .shr i.2)], keep := [], sub := fun i => [
    { ι := Nat × Sp.Rel, inv := fun a => a.1 ≤ 6 ∧ a.2 = Sp.rowA i.1 (Sp.closeN x i.1) a.1, dec := fun a => 6 - a.1, ovr := fun a => [(8, .shr tI (a.1 : Int)), (0, .box tRel .shr a.2)], keep := [5, 2], sub := fun a => [
      { ι := Nat × Sp.Rel, inv := fun b => b.1 ≤ 6 ∧ b.2 = Sp.rowB i.1 a.1 (Sp.rowA i.1 (Sp.closeN x i.1) a.1) b.1, dec := fun b => 6 - b.1, ovr := fun b => [(11, .shr tI (b.1 : Int)), (0, .box tRel .shr b.2)], keep := [5, 2, 8, 3] }] }] }]
def S52 : FSpec := { args := [.sptr tRel], multi := false, res := .bool, mode := .shr, pre := fun _ => True, fn := fun x => Sp.round x.1 }
def C52 : Ctx := mkC 15 []
def L52 (x : kdens S52.args) : List LoopI := [
  { ι := Nat, inv := fun i => i ≤ 6 ∧ ∀ a < i, Sp.get2 x.1 a a = false, dec := fun i => 6 - i, ovr := fun i => [(4, .shr tI (i : Int))], keep := [0] }]
-- order
def S50 : FSpec := { args := [.val tGr], multi := false, res := tRel, mode := .shr, pre := fun x => List.length x.1.1 ≤ 6 ∧ ∀ n ∈ (x.1.2.2.2.1 : List Int), inN n 6, fn := fun x => Sp.order x.1 }
def mRel : Md := .own (.own .shr)
def C50 : Ctx := mkC 68 []
def L50 (x : kdens S50.args) : List LoopI := [
  { ι := Nat, inv := fun i => i ≤ List.length x.1.1, dec := fun i => List.length x.1.1 - i, ovr := fun i => [(13, .shr tI (i : Int)), (3, .box tRel mRel (Sp.mat (Sp.oA x.1.1 i)))], keep := [1, 2, 11, 12], sub := fun i => [
    { ι := Nat, inv := fun k => i < k ∧ k ≤ List.length x.1.1, dec := fun k => List.length x.1.1 - k, ovr := fun k => [(5, .shr tI (k : Int)), (3, .box tRel mRel (Sp.mat (Sp.oB x.1.1 i k)))], keep := [1, 2, 11, 12, 13, 4] }] },
  { ι := Nat, inv := fun i => i ≤ List.length x.1.2.2.2.1, dec := fun i => List.length x.1.2.2.2.1 - i, ovr := fun i => [(46, .shr tI (i : Int)), (3, .box tRel mRel (Sp.mat (Sp.oC x.1.1 x.1.2.2.2.1 i)))], keep := [1, 2, 44, 45], sub := fun i => [
    { ι := Nat, inv := fun k => i + 1 + k ≤ List.length x.1.2.2.2.1, dec := fun k => List.length x.1.2.2.2.1 - k, ovr := fun k => [(57, .shr tI (k : Int)), (3, .box tRel mRel (Sp.mat (Sp.oD x.1.1 x.1.2.2.2.1 i k)))], keep := [1, 2, 44, 45, 46, 6, 7, 55, 56] }] }]
-- isList
def S45 : FSpec := { args := [.val (.slice tI), .val (.slice tLEv), .fn [tLOp] .bool], multi := false, res := .bool, mode := .shr, pre := fun x => List.length x.2.1 ≤ 1000 ∧ ∀ o, x.2.2.1.pre (o, ()), fn := fun x => Sp.isList x.1 x.2.1 (fun o => x.2.2.1.fn (o, ())) }
def C45 : Ctx := mkC 68 []
def L45 (x : kdens S45.args) : List LoopI := [
  { ι := Nat × List Bool, inv := fun i => i.1 ≤ List.length x.1 ∧ i.2.length = List.length x.2.1 ∧ (List.take i.1 x.1).Nodup ∧ (∀ n ∈ (List.take i.1 x.1 : List Int), 0 ≤ n ∧ n < (List.length x.2.1 : Int) ∧ x.2.2.1.fn ((Sp.ev x.2.1 n).2.1, ()) = true) ∧ ∀ n < List.length x.2.1, (i.2.getD n false = true ↔ (n : Int) ∈ (List.take i.1 x.1 : List Int)), dec := fun i => List.length x.1 - i.1, ovr := fun i => [(16, .shr tI (i.1 : Int)), (7, .own (.slice .bool) (.own .shr) i.2)], keep := [0, 1, 2, 14, 15] },
  { ι := Nat, inv := fun i => i ≤ List.length x.2.1 ∧ ∀ n < i, x.2.2.1.fn ((Sp.ev x.2.1 n).2.1, ()) = true → (n : Int) ∈ (x.1 : List Int), dec := fun i => List.length x.2.1 - i, ovr := fun i => [(50, .shr tI (i : Int))], keep := [0, 1, 2, 7, 48, 49] }]
-- Valid
def S21 : FSpec := { args := [.val tLit], multi := false, res := .bool, mode := .shr, pre := fun x => (Sp.evs 0 x.1.1).length ≤ 1000, fn := fun x => Sp.valid x.1 }
def C21 : Ctx := mkC 31 [(41, S41), (60, S60), (61, S61)]
def L21 (x : kdens S21.args) : List LoopI := []
end Go.User
namespace Sp
def coh (g : Gr) (a b : Int) : Bool :=
  let low := if writes (ev g.1 a).2.1 = true then (plc g a).1 else (plc g a).2.1
  !(reads (ev g.1 b).2.1 && decide ((plc g b).2.1 < low)) && !(writes (ev g.1 b).2.1 && decide ((plc g b).1 ≤ low))
def src (e : List LEv) (g : Gr) (n : Nat) : Prop :=
  (ev g.1 n).1 = (ev e n).1 ∧ (ev g.1 n).2.1 = (ev e n).2.1 ∧ -1 ≤ g.2.1.getD n 0 ∧ g.2.1.getD n 0 < (e.length : Int) ∧
  (0 ≤ g.2.1.getD n 0 → reads (ev e n).2.1 = true ∧ writes (ev e (g.2.1.getD n 0)).2.1 = true ∧ (ev e (g.2.1.getD n 0)).2.1.2.1 = (ev e n).2.1.2.1)
instance (e : List LEv) (g : Gr) (n : Nat) : Decidable (src e g n) := by unfold src; infer_instance
def got (g : Gr) (n : Nat) : Prop := (ev g.1 n).2.2.1 = if reads (ev g.1 n).2.1 = true then value g.1 (g.2.1.getD n 0) else 0
instance (g : Gr) (n : Nat) : Decidable (got g n) := by unfold got; infer_instance
def right (t : Lit) (g : Gr) : Bool :=
  valid t && decide (g.1.length = (evs 0 t.1).length) && decide (g.2.1.length = (evs 0 t.1).length) && decide (g.2.2.1.length = 3) &&
  decide (∀ n < (evs 0 t.1).length, src (evs 0 t.1) g n) && decide (∀ n < g.1.length, got g n) &&
  ((List.range 3).all fun p => isList (g.2.2.1.getD p []) (evs 0 t.1) (fun o => writes o && decide (o.2.1 = (p : Int)))) &&
  isList g.2.2.2.1 (evs 0 t.1) (fun o => decide (o.1 = 4))
def flowN (g : Gr) (i a b : Nat) : Bool := ordF g.1 g.2.2.2.1 a b || (decide (b < i) && decide (g.2.1.getD b 0 = (a : Int)))
def flow (g : Gr) : Rel := close (mat (flowN g g.2.1.length))
def before (g : Gr) : Rel := close (order g)
def badAdd (g : Gr) (a : Nat) : Bool := decide ((ev g.1 a).2.1.1 = 3) && !decide ((plc g a).2.1 = (plc g a).1 - 1)
def badPair (g : Gr) (a b : Nat) : Bool := get2 (before g) a b && !decide ((ev g.1 b).2.1.1 = 4) && decide ((ev g.1 a).2.1.2.1 = (ev g.1 b).2.1.2.1) && !coh g a b
def okEv (g : Gr) (a : Nat) : Prop := (ev g.1 a).2.1.1 = 4 ∨ (badAdd g a = false ∧ ∀ b < g.1.length, badPair g a b = false)
instance (g : Gr) (a : Nat) : Decidable (okEv g a) := by unfold okEv; infer_instance
def allowed (t : Lit) (g : Gr) : Bool := right t g && !round (flow g) && decide (∀ a < g.1.length, okEv g a)
end Sp
namespace Go.User
open Go.Lf
def okAt (g : Sp.Gr) (n : Int) : Prop := inN n g.1.length ∧ inN n g.2.1.length ∧ inN (Sp.ev g.1 n).2.1.2.1 g.2.2.1.length
-- coherent
def S54 : FSpec := { args := [.val tGr, .val tI, .val tI], multi := false, res := .bool, mode := .shr, pre := fun x => okAt x.1 x.2.1 ∧ okAt x.1 x.2.2.1, fn := fun x => Sp.coh x.1 x.2.1 x.2.2.1 }
def C54 : Ctx := mkC 54 [(53, S53), (42, S42), (43, S43)]
def L54 (x : kdens S54.args) : List LoopI := []
-- Right
def S16 : FSpec := { args := [.val tLit, .val tGr], multi := false, res := .bool, mode := .shr, pre := fun x => (Sp.evs 0 x.1.1).length ≤ 1000, fn := fun x => Sp.right x.1 x.2.1 }
def C16 : Ctx := mkC 144 [(41, S41), (21, S21), (42, S42), (43, S43), (44, S44), (45, S45), (46, S46), (47, S47)]
def L16 (x : kdens S16.args) : List LoopI := [
  { ι := Nat, inv := fun i => i ≤ (Sp.evs 0 x.1.1).length ∧ ∀ n < i, Sp.src (Sp.evs 0 x.1.1) x.2.1 n, dec := fun i => (Sp.evs 0 x.1.1).length - i, ovr := fun i => [(43, .shr tI (i : Int))], keep := [2, 3, 5, 41, 42] },
  { ι := Nat, inv := fun i => i ≤ List.length x.2.1.1 ∧ ∀ n < i, Sp.got x.2.1 n, dec := fun i => List.length x.2.1.1 - i, ovr := fun i => [(107, .shr tI (i : Int))], keep := [2, 3, 5, 105, 106] },
  { ι := Nat, inv := fun i => i ≤ 3 ∧ ∀ p < i, Sp.isList (List.getD x.2.1.2.2.1 p []) (Sp.evs 0 x.1.1) (fun o => Sp.writes o && decide (o.2.1 = (p : Int))) = true, dec := fun i => 3 - i, ovr := fun i => [(127, .shr tI (i : Int))], keep := [2, 3, 5] }]
-- Allowed
def S18 : FSpec := { args := [.val tLit, .val tGr], multi := false, res := .bool, mode := .shr, pre := fun x => (Sp.evs 0 x.1.1).length ≤ 1000, fn := fun x => Sp.allowed x.1 x.2.1 }
def C18 : Ctx := { mkC 103 [(16, S16), (50, S50), (52, S52), (53, S53), (54, S54)] with ptrs := [(51, S51)] }
def L18 (x : kdens S18.args) : List LoopI := [
  { ι := Nat, inv := fun i => i ≤ List.length x.2.1.2.1, dec := fun i => List.length x.2.1.2.1 - i, ovr := fun i => [(24, .shr tI (i : Int)), (6, .box tRel mRel (Sp.mat (Sp.flowN x.2.1 i)))], keep := [2, 3, 5, 22, 23] },
  { ι := Nat, inv := fun i => i ≤ List.length x.2.1.1 ∧ ∀ a < i, Sp.okEv x.2.1 a, dec := fun i => List.length x.2.1.1 - i, ovr := fun i => [(42, .shr tI (i : Int))], keep := [2, 3, 5, 40, 41], sub := fun i => [
    { ι := Nat, inv := fun k => k ≤ List.length x.2.1.1 ∧ ∀ b < k, Sp.badPair x.2.1 i b = false, dec := fun k => List.length x.2.1.1 - k, ovr := fun k => [(69, .shr tI (k : Int))], keep := [2, 3, 5, 40, 41, 42, 9, 10, 67, 68] }] }]
-- buffering
def opS (x v : Int) : Sp.LOp := (2, x, v, ())
def opL (x : Int) : Sp.LOp := (1, x, 0, ())
def opF : Sp.LOp := (4, 0, 0, ())
def S31 : FSpec := { args := [.val .bool], multi := false, res := tLit, mode := .shr, pre := fun _ => True, fn := fun x => bif x.1 then ([[opS 0 1, opF, opL 1], [opS 1 1, opF, opL 0]], ()) else ([[opS 0 1, opL 1], [opS 1 1, opL 0]], ()) }
def C31 : Ctx := { mkC 22 [(27, S27), (28, S28), (29, S29)] with frz := [7, 11, 12, 16, 19, 20] }
def L31 (x : kdens S31.args) : List LoopI := []
end Go.User
namespace Sp
def moN (e : List LEv) (b : List Int) : Nat → List (List Int) × Int
  | 0 => ([], 0)
  | n + 1 => ((moN e b n).1 ++ [shuffled (wr e n) b (moN e b n).2], (moN e b n).2 + ((wr e n).length : Int))
def mo3 (e : List LEv) (b : List Int) : List (List Int) := (moN e b 3).1
def foOf (e : List LEv) (b : List Int) : List Int := shuffled (fen e) b (moN e b 3).2
def i4 (e : List LEv) (b : List Int) : Int := (moN e b 3).2 + ((foOf e b).length : Int)
def pickF (e : List LEv) (mo : List (List Int)) (b : List Int) (i : Int) (n : Nat) : Int :=
  if (ev e n).2.1.1 = 3 ∧ (byteAt b i).tmod 8 ≠ 7 then ([-1] ++ mo.getD (ev e n).2.1.2.1.toNat []).getD (idx ([-1] ++ mo.getD (ev e n).2.1.2.1.toNat []) n - 1).toNat 0
  else ([-1] ++ mo.getD (ev e n).2.1.2.1.toNat []).getD (((byteAt b i).tdiv 8).tmod (([-1] ++ mo.getD (ev e n).2.1.2.1.toNat []).length : Int)).toNat 0
def fromN (e : List LEv) (b : List Int) : Nat → List Int × Int
  | 0 => ([], i4 e b)
  | n + 1 => if reads (ev e n).2.1 = true then ((fromN e b n).1 ++ [pickF e (mo3 e b) b (fromN e b n).2 n], (fromN e b n).2 + 1) else ((fromN e b n).1 ++ [-1], (fromN e b n).2)
def setR (e : List LEv) (n : Nat) (v : Int) : List LEv := e.set n ((ev e n).1, (ev e n).2.1, v, ())
def rnd (frm : List Int) (e : List LEv) (n : Nat) : List LEv := if reads (ev e n).2.1 = true then setR e n (value e (frm.getD n 0)) else e
def rndN (frm : List Int) (e : List LEv) (n : Nat) : List LEv := (List.range n).foldl (rnd frm) e
def rounds (frm : List Int) (e : List LEv) (r : Nat) : List LEv := (List.range r).foldl (fun e _ => rndN frm e e.length) e
def graph (t : Lit) (b : List Int) : Gr :=
  (rounds (fromN (evs 0 t.1) b (evs 0 t.1).length).1 (evs 0 t.1) 8, (fromN (evs 0 t.1) b (evs 0 t.1).length).1, mo3 (evs 0 t.1) b, foOf (evs 0 t.1) b, ())
def stG (frm : List Int) (e : List LEv) (n : Nat) : List LEv := if 0 ≤ frm.getD n 0 then setR (setR e n 0) n (ev (setR e n 0) (frm.getD n 0)).2.1.2.2.1 else setR e n 0
def stGN (frm : List Int) (e : List LEv) (n : Nat) : List LEv := (List.range n).foldl (stG frm) e
def stGR (frm : List Int) (e : List LEv) (r : Nat) : List LEv := (List.range r).foldl (fun e _ => stGN frm e e.length) e
def gr (t : Lit) (frm fo : List Int) : Gr := (stGR frm (graph t []).1 3, frm, (graph t []).2.2.1, fo, ())
end Sp
namespace Go.User
open Go.Lf
def mGr : Md := .pair (.own .shr) (.pair (.own .shr) (.pair (.own (.own .shr)) (.pair (.own .shr) .shr)))
def fine (t : Sp.Lit) : Prop := (Sp.evs 0 t.1).length ≤ 100 ∧ ∀ x ∈ Sp.evs 0 t.1, inN x.2.1.2.1 3
def S12 : FSpec := { args := [.val tLit, .val (.slice (.int .u8))], multi := false, res := tGr, mode := mGr, pre := fun x => fine x.1, fn := fun x => Sp.graph x.1 x.2.1 }
def C12 : Ctx := { mkC 155 [(33, S33), (34, S34), (35, S35), (36, S36), (37, S37), (38, S38), (39, S39), (40, S40)] with mds := [(16, mGr), (5, mGr), (4, mGr), (31, .own (.own .shr))] }
def L12 (x : kdens S12.args) : List LoopI := [
  { ι := Nat, inv := fun i => i ≤ 3, dec := fun i => 3 - i, ovr := fun i => [(7, .shr tI (i : Int)), (6, .shr tI (Sp.moN (Sp.evs 0 x.1.1) x.2.1 i).2), (5, .box tGr mGr (Sp.evs 0 x.1.1, [], (Sp.moN (Sp.evs 0 x.1.1) x.2.1 i).1, [], ()))], keep := [1, 2, 4] },
  { ι := Nat, inv := fun n => n ≤ (Sp.evs 0 x.1.1).length, dec := fun n => (Sp.evs 0 x.1.1).length - n, ovr := fun n => [(9, .shr tI (n : Int)), (6, .shr tI (Sp.fromN (Sp.evs 0 x.1.1) x.2.1 n).2), (5, .box tGr mGr (Sp.evs 0 x.1.1, (Sp.fromN (Sp.evs 0 x.1.1) x.2.1 n).1, Sp.mo3 (Sp.evs 0 x.1.1) x.2.1, Sp.foOf (Sp.evs 0 x.1.1) x.2.1, ()))], keep := [1, 2, 4] },
  { ι := Nat, inv := fun r => r ≤ 8, dec := fun r => 8 - r, ovr := fun r => [(12, .shr tI (r : Int)), (5, .box tGr mGr (Sp.rounds (Sp.fromN (Sp.evs 0 x.1.1) x.2.1 (Sp.evs 0 x.1.1).length).1 (Sp.evs 0 x.1.1) r, (Sp.fromN (Sp.evs 0 x.1.1) x.2.1 (Sp.evs 0 x.1.1).length).1, Sp.mo3 (Sp.evs 0 x.1.1) x.2.1, Sp.foOf (Sp.evs 0 x.1.1) x.2.1, ()))], keep := [1, 2, 4], sub := fun r => [
    { ι := Nat, inv := fun n => n ≤ (Sp.evs 0 x.1.1).length, dec := fun n => (Sp.evs 0 x.1.1).length - n, ovr := fun n => [(13, .shr tI (n : Int)), (5, .box tGr mGr (Sp.rndN (Sp.fromN (Sp.evs 0 x.1.1) x.2.1 (Sp.evs 0 x.1.1).length).1 (Sp.rounds (Sp.fromN (Sp.evs 0 x.1.1) x.2.1 (Sp.evs 0 x.1.1).length).1 (Sp.evs 0 x.1.1) r) n, (Sp.fromN (Sp.evs 0 x.1.1) x.2.1 (Sp.evs 0 x.1.1).length).1, Sp.mo3 (Sp.evs 0 x.1.1) x.2.1, Sp.foOf (Sp.evs 0 x.1.1) x.2.1, ()))], keep := [1, 2, 4, 12] }] }]
def mG3 : Md := .pair (.own .shr) (.pair .shr (.pair (.own (.own .shr)) (.pair .shr .shr)))
def S30 : FSpec := { args := [.val tLit, .val (.slice tI), .val (.slice tI)], multi := false, res := tGr, mode := .shr, pre := fun x => fine x.1 ∧ (x.2.1 : List Int).length = (Sp.evs 0 x.1.1).length ∧ ∀ v ∈ (x.2.1 : List Int), v < ((Sp.evs 0 x.1.1).length : Int), fn := fun x => Sp.gr x.1 x.2.1 x.2.2.1 }
def C30 : Ctx := mkC 53 [(12, S12)]
def L30 (x : kdens S30.args) : List LoopI := [
  { ι := Nat, inv := fun r => r ≤ 3, dec := fun r => 3 - r, ovr := fun r => [(8, .shr tI (r : Int)), (7, .box tGr mG3 (Sp.stGR x.2.1 (Sp.graph x.1 []).1 r, x.2.1, (Sp.graph x.1 []).2.2.1, x.2.2.1, ()))], keep := [1, 2, 3, 6], sub := fun r => [
    { ι := Nat, inv := fun n => n ≤ (Sp.evs 0 x.1.1).length, dec := fun n => (Sp.evs 0 x.1.1).length - n, ovr := fun n => [(9, .shr tI (n : Int)), (7, .box tGr mG3 (Sp.stGN x.2.1 (Sp.stGR x.2.1 (Sp.graph x.1 []).1 r) n, x.2.1, (Sp.graph x.1 []).2.2.1, x.2.2.1, ()))], keep := [1, 2, 3, 6, 8] }] }]
end Go.User
namespace Sp
def nC (b : List Int) : Int := if 0 < b.length then 1 + b.getD 0 0 % 4 else 1
def opOf (b : List Int) (i : Nat) : LOp :=
  (1 + b.getD i 0 % 4, if (1 + b.getD i 0 % 4) = 4 then 0 else (b.getD i 0 / 4).tmod 3, if (1 + b.getD i 0 % 4) = 2 ∨ (1 + b.getD i 0 % 4) = 3 then 1 + (b.getD (i + 1) 0 / 4).tmod 9 else 0, ())
def addOp (P : List (List LOp)) (c : Int) (o : LOp) : List (List LOp) := P.set c.toNat (P.getD c.toNat [] ++ [o])
def madeN (b : List Int) : Nat → List (List LOp)
  | 0 => List.replicate (nC b).toNat []
  | k + 1 => addOp (madeN b k) ((b.getD (2 * k + 2) 0).tmod (nC b)) (opOf b (2 * k + 1))
def nK (b : List Int) : Nat := min 6 ((b.length - 1) / 2)
def madeP (b : List Int) : List (List LOp) := if (evs 0 (madeN b (nK b))).length = 0 then (madeN b (nK b)).set 0 [(1, 0, 0, ())] else madeN b (nK b)
def gE (t : Lit) (b : List Int) : List LEv := (graph t b).1
def gF (t : Lit) (b : List Int) : List Int := (graph t b).2.1
def gM (t : Lit) (b : List Int) : List (List Int) := (graph t b).2.2.1
def gO (t : Lit) (b : List Int) : List Int := (graph t b).2.2.2.1
end Sp
namespace Go.User
open Go.Lf
def mLit : Md := .pair (.own (.own .shr)) .shr
def S11 : FSpec := { args := [.val (.slice (.int .u8))], multi := false, res := tLit, mode := mLit, pre := fun _ => True, fn := fun x => (Sp.madeP x.1, ()) }
def S12c : FSpec := { args := [.val tLit, .val (.slice (.int .u8))], multi := false, res := tGr, mode := mGr, pre := fun x => fine x.1, fn := fun x => (Sp.gE x.1 x.2.1, Sp.gF x.1 x.2.1, Sp.gM x.1 x.2.1, Sp.gO x.1 x.2.1, ()) }
def C11 : Ctx := { mkC 104 [(32, S32), (33, S33)] with mds := [(10, .own (.own .shr)), (11, mLit), (3, mLit), (2, mLit), (29, .own (.own .shr))] }
def L11 (x : kdens S11.args) : List LoopI := [
  { ι := Nat, inv := fun i => 1 ≤ i ∧ (i : Int) ≤ Sp.nC x.1, dec := fun i => (Sp.nC x.1).toNat - i, ovr := fun i => [(5, .shr tI (i : Int)), (3, .box tLit mLit (List.replicate i [], ()))], keep := [0, 2, 4] },
  { ι := Nat, inv := fun k => k ≤ Sp.nK x.1, dec := fun k => Sp.nK x.1 - k, ovr := fun k => [(6, .shr tI ((2 * k + 1 : Nat) : Int)), (3, .box tLit mLit (Sp.madeN x.1 k, ()))], keep := [0, 2, 4] }]
def S10 : FSpec := { args := [], multi := false, res := .bool, mode := .shr, pre := fun _ => True, fn := fun _ => true }
def C10 : Ctx := { mkC 93 [(31, S31), (27, S27), (28, S28), (21, S21), (16, S16), (18, S18), (30, S30)] with frz := [11, 14, 15, 16, 17, 18, 28, 33, 40, 55, 63, 68, 89] }
def L10 (x : kdens S10.args) : List LoopI := []
def S5 : FSpec := { args := [.val (.slice (.int .u8)), .val (.slice (.int .u8))], multi := false, res := .bool, mode := .shr, pre := fun _ => True, fn := fun _ => true }
def C5 : Ctx := { mkC 120 [(10, S10), (11, S11), (12, S12c), (18, S18), (22, S22)] with frz := [19, 22] }
def L5 (x : kdens S5.args) : List LoopI := [
  { ι := Nat, inv := fun i => i ≤ (Sp.gE (Sp.madeP x.1, ()) x.2.1).length, dec := fun i => (Sp.gE (Sp.madeP x.1, ()) x.2.1).length - i, ovr := fun i => [(8, .shr tI (i : Int))], keep := [5, 6, 7], sub := fun i => [
    { ι := Nat, inv := fun k => i < k ∧ k ≤ (Sp.gE (Sp.madeP x.1, ()) x.2.1).length, dec := fun k => (Sp.gE (Sp.madeP x.1, ()) x.2.1).length - k, ovr := fun k => [(9, .shr tI (k : Int))], keep := [5, 6, 7, 8] }] }]
end Go.User
namespace Sp
def lastOr (l : List Int) : Int := if 0 < l.length then l.getD (l.length - 1) 0 else -1
def nxN (p : List (List LOp)) (i : Nat) : List Int := (List.range i).map fun j => ((evs 0 (p.take j)).length : Int)
def enN (p : List (List LOp)) (i : Nat) : List Int := (List.range i).map fun j => ((evs 0 (p.take (j + 1))).length : Int)
def canN (nx en : List Int) (i : Nat) : List Int := sel (fun j => decide (nx.getD j 0 < en.getD j 0)) i
/-- The core that is next, and its event. -/
def pkC (nx en b : List Int) (k : Nat) : Int := (canN nx en nx.length).getD ((byteAt b k).tmod ((canN nx en nx.length).length : Int)).toNat 0
def pkE (nx en b : List Int) (k : Nat) : Int := nx.getD (pkC nx en b k).toNat 0
def xN (nx en b : List Int) (k : Nat) : List Int := nx.set (pkC nx en b k).toNat (pkE nx en b k + 1)
def plL (E : List LEv) (M : List (List Int)) (e : Int) : List Int := M.getD (ev E e).2.1.2.1.toNat []
def takes (E : List LEv) (M : List (List Int)) (e : Int) : Bool := !decide ((ev E e).2.1.1 = 4) && reads (ev E e).2.1 && decide (0 < (plL E M e).length)
def lastL (E : List LEv) (M : List (List Int)) (e : Int) : Int := (plL E M e).getD ((plL E M e).length - 1) 0
def xF (E : List LEv) (F : List Int) (M : List (List Int)) (e : Int) : List Int := if takes E M e = true then F.set e.toNat (lastL E M e) else F
def xE (E : List LEv) (M : List (List Int)) (e : Int) : List LEv := if takes E M e = true then setR E e.toNat (value E (lastL E M e)) else E
def xM (E : List LEv) (M : List (List Int)) (e : Int) : List (List Int) := if (ev E e).2.1.1 ≠ 4 ∧ writes (ev E e).2.1 = true then M.set (ev E e).2.1.2.1.toNat (plL E M e ++ [e]) else M
def xO (E : List LEv) (O : List Int) (e : Int) : List Int := if (ev E e).2.1.1 = 4 then O ++ [e] else O
abbrev Run := List Int × List LEv × List Int × List (List Int) × List Int
def runS (en b : List Int) (k : Nat) (s : Run) : Run :=
  (xN s.1 en b k, xE s.2.1 s.2.2.2.1 (pkE s.1 en b k), xF s.2.1 s.2.2.1 s.2.2.2.1 (pkE s.1 en b k), xM s.2.1 s.2.2.2.1 (pkE s.1 en b k), xO s.2.1 s.2.2.2.2 (pkE s.1 en b k))
def runN (p : List (List LOp)) (b : List Int) : Nat → Run
  | 0 => (nxN p p.length, evs 0 p, List.replicate (evs 0 p).length (-1), [[], [], []], [])
  | k + 1 => runS (enN p p.length) b k (runN p b k)
def iE (t : Lit) (b : List Int) : List LEv := (runN t.1 b (evs 0 t.1).length).2.1
def iF (t : Lit) (b : List Int) : List Int := (runN t.1 b (evs 0 t.1).length).2.2.1
def iM (t : Lit) (b : List Int) : List (List Int) := (runN t.1 b (evs 0 t.1).length).2.2.2.1
def iO (t : Lit) (b : List Int) : List Int := (runN t.1 b (evs 0 t.1).length).2.2.2.2
end Sp
namespace Go.User
open Go.Lf
def mG14 : Md := .pair (.own .shr) (.pair (.own .shr) (.pair (.own (.own .shr)) (.pair (.own .shr) .shr)))
def S14 : FSpec := { args := [.val tLit, .val (.slice (.int .u8))], multi := false, res := tGr, mode := mG14, pre := fun x => fine x.1 ∧ x.1.1.length ≤ 100, fn := fun x => (Sp.iE x.1 x.2.1, Sp.iF x.1 x.2.1, Sp.iM x.1 x.2.1, Sp.iO x.1 x.2.1, ()) }
def C14 : Ctx := { mkC 167 [(32, S32), (33, S33), (37, S37), (38, S38), (40, S40)] with mds := [(23, .own (.own .shr)), (25, mG14), (5, mG14), (4, mG14)], ded := [57, 106, 115, 134, 144, 148] }
def L14 (x : kdens S14.args) : List LoopI := [
  { ι := Nat, inv := fun i => i ≤ x.1.1.length, dec := fun i => x.1.1.length - i, ovr := fun i => [(9, .shr tI (i : Int)), (8, .shr tI ((Sp.evs 0 (x.1.1.take i)).length : Int)), (6, .own (.slice tI) (.own .shr) (Sp.nxN x.1.1 i)), (7, .own (.slice tI) (.own .shr) (Sp.enN x.1.1 i))], keep := [1, 2, 4, 5] },
  { ι := Nat, inv := fun i => i ≤ (Sp.evs 0 x.1.1).length, dec := fun i => (Sp.evs 0 x.1.1).length - i, ovr := fun i => [(10, .shr tI (i : Int)), (5, .box tGr mG14 (Sp.evs 0 x.1.1, List.replicate i (-1), [[], [], []], [], ()))], keep := [1, 2, 4, 6, 7, 8] },
  { ι := Nat, inv := fun k => k ≤ (Sp.evs 0 x.1.1).length, dec := fun k => (Sp.evs 0 x.1.1).length - k, ovr := fun k => [(11, .shr tI (k : Int)), (6, .own (.slice tI) (.own .shr) (Sp.runN x.1.1 x.2.1 k).1),
      (5, .box tGr mG14 ((Sp.runN x.1.1 x.2.1 k).2.1, (Sp.runN x.1.1 x.2.1 k).2.2.1, (Sp.runN x.1.1 x.2.1 k).2.2.2.1, (Sp.runN x.1.1 x.2.1 k).2.2.2.2, ()))], keep := [1, 2, 4, 7, 8], sub := fun k => [
    { ι := Nat, inv := fun i => i ≤ (Sp.runN x.1.1 x.2.1 k).1.length, dec := fun i => (Sp.runN x.1.1 x.2.1 k).1.length - i, ovr := fun i => [(13, .shr tI (i : Int)), (12, .own (.slice tI) (.own .shr) (Sp.canN (Sp.runN x.1.1 x.2.1 k).1 (Sp.enN x.1.1 x.1.1.length) i))], keep := [1, 2, 4, 5, 6, 7, 8, 11] }] }]
def S4 : FSpec := { args := [.val (.slice (.int .u8)), .val (.slice (.int .u8))], multi := false, res := .bool, mode := .shr, pre := fun _ => True, fn := fun _ => true }
def C4 : Ctx := { mkC 27 [(10, S10), (11, S11), (14, S14), (16, S16), (18, S18)] with frz := [12, 15] }
def L4 (x : kdens S4.args) : List LoopI := []
end Go.User
namespace Sp
/-- The lists with other numbers. -/
def renN (l to : List Int) (n : Nat) : List Int := (l.take n).filterMap fun v => if v < 0 then some v else if 0 ≤ to.getD v.toNat 0 then some (to.getD v.toNat 0) else none
def ren (l to : List Int) : List Int := renN l to l.length
/-- The numbers without one of them. -/
def tq (gone : Nat) (i : Nat) : Int := if i = gone then -1 else if i < gone then (i : Int) else (i : Int) - 1
def toL (gone n : Nat) : List Int := (List.range n).map (tq gone)
def stp (p : List (List LOp)) (c : Nat) : Nat := (evs 0 (p.take c)).length
def lessK (p : List (List LOp)) (gone c k : Nat) : List LOp := if stp p c ≤ gone then ((p.getD c []).take k).eraseIdx (gone - stp p c) else (p.getD c []).take k
def lessN (p : List (List LOp)) (gone i : Nat) : List (List LOp) := (List.range i).map fun c => lessK p gone c (p.getD c []).length
def lessP (p : List (List LOp)) (gone : Nat) : List (List LOp) := lessN p gone p.length
def hEN (E : List LEv) (gone n : Nat) : List LEv := (E.take n).eraseIdx gone
def hF1 (F : List Int) (gone i : Nat) : Int := if F.getD i 0 < 0 then -1 else tq gone (F.getD i 0).toNat
def hFN (F : List Int) (gone n : Nat) : List Int := ((List.range n).filter (fun i => !decide (i = gone))).map (hF1 F gone)
def hMN (M : List (List Int)) (to : List Int) (n : Nat) : List (List Int) := (List.range n).map fun x => ren (M.getD x []) to
def gg (p : List (List LOp)) (b : List Int) (n : Int) : Gr := if n % 2 = 0 then (gE (p, ()) b, gF (p, ()) b, gM (p, ()) b, gO (p, ()) b, ()) else (iE (p, ()) b, iF (p, ()) b, iM (p, ()) b, iO (p, ()) b, ())
def ggE (p : List (List LOp)) (b : List Int) (n : Int) : List LEv := (gg p b n).1
def ggF (p : List (List LOp)) (b : List Int) (n : Int) : List Int := (gg p b n).2.1
def ggM (p : List (List LOp)) (b : List Int) (n : Int) : List (List Int) := (gg p b n).2.2.1
def ggO (p : List (List LOp)) (b : List Int) (n : Int) : List Int := (gg p b n).2.2.2.1
def goneN (p : List (List LOp)) (b : List Int) (n : Int) : Nat := ((ggO p b n).getD (n.tmod ((ggO p b n).length : Int)).toNat 0).toNat
end Sp
namespace Go.User
open Go.Lf
def S25 : FSpec := { args := [.val (.slice tI), .val (.slice tI)], multi := false, res := .slice tI, mode := .own .shr, pre := fun x => List.length x.1 ≤ 1000 ∧ ∀ v ∈ (x.1 : List Int), v < (List.length x.2.1 : Int), fn := fun x => Sp.ren x.1 x.2.1 }
def C25 : Ctx := mkC 45 []
def L25 (x : kdens S25.args) : List LoopI := [
  { ι := Nat, inv := fun i => i ≤ List.length x.1, dec := fun i => List.length x.1 - i, ovr := fun i => [(6, .shr tI (i : Int)), (5, .own (.slice tI) (.own .shr) (Sp.renN x.1 x.2.1 i))], keep := [0, 1] }]
def S7 : FSpec := { args := [.val (.slice (.int .u8)), .val (.slice (.int .u8)), .val (.int .u8)], multi := false, res := .bool, mode := .shr, pre := fun _ => True, fn := fun _ => true }
def C7 : Ctx := { mkC 209 [(10, S10), (11, S11), (12, S12c), (14, S14), (16, S16), (18, S18), (25, S25)] with frz := [23, 26, 32], mds := [(60, mLit), (11, mLit), (74, .own (.own .shr)), (61, .own (.own .shr)), (62, mGr), (12, mGr), (190, .own (.own .shr))] }
def L7 (x : kdens S7.args) : List LoopI := [
  { ι := Nat, inv := fun i => i ≤ (Sp.madeP x.1).length, dec := fun i => (Sp.madeP x.1).length - i, ovr := fun i => [(15, .shr tI (i : Int)), (14, .shr tI (Sp.stp (Sp.madeP x.1) i : Int)), (10, .shr tI (Sp.goneN (Sp.madeP x.1) x.2.1 x.2.2.1 : Int)),
      (9, .box tGr .shr (Sp.ggE (Sp.madeP x.1) x.2.1 x.2.2.1, Sp.ggF (Sp.madeP x.1) x.2.1 x.2.2.1, Sp.ggM (Sp.madeP x.1) x.2.1 x.2.2.1, Sp.ggO (Sp.madeP x.1) x.2.1 x.2.2.1, ())),
      (13, .own (.slice tI) (.own .shr) (Sp.toL (Sp.goneN (Sp.madeP x.1) x.2.1 x.2.2.1) (Sp.stp (Sp.madeP x.1) i))), (11, .box tLit mLit (Sp.lessN (Sp.madeP x.1) (Sp.goneN (Sp.madeP x.1) x.2.1 x.2.2.1) i, ())),
      (12, .box tGr mGr (Sp.hEN (Sp.ggE (Sp.madeP x.1) x.2.1 x.2.2.1) (Sp.goneN (Sp.madeP x.1) x.2.1 x.2.2.1) (Sp.stp (Sp.madeP x.1) i), [], [], [], ()))], keep := [7, 8], sub := fun i => [
    { ι := Nat, inv := fun k => i < (Sp.madeP x.1).length ∧ k ≤ ((Sp.madeP x.1).getD i []).length, dec := fun k => ((Sp.madeP x.1).getD i []).length - k, ovr := fun k => [(16, .shr tI (k : Int)), (14, .shr tI (Sp.stp (Sp.madeP x.1) i + k : Int)),
      (13, .own (.slice tI) (.own .shr) (Sp.toL (Sp.goneN (Sp.madeP x.1) x.2.1 x.2.2.1) (Sp.stp (Sp.madeP x.1) i + k))), (11, .box tLit mLit (Sp.lessN (Sp.madeP x.1) (Sp.goneN (Sp.madeP x.1) x.2.1 x.2.2.1) i ++ [Sp.lessK (Sp.madeP x.1) (Sp.goneN (Sp.madeP x.1) x.2.1 x.2.2.1) i k], ())),
      (12, .box tGr mGr (Sp.hEN (Sp.ggE (Sp.madeP x.1) x.2.1 x.2.2.1) (Sp.goneN (Sp.madeP x.1) x.2.1 x.2.2.1) (Sp.stp (Sp.madeP x.1) i + k), [], [], [], ()))], keep := [7, 8, 9, 10, 15] }] },
  { ι := Nat, inv := fun i => i ≤ (Sp.ggE (Sp.madeP x.1) x.2.1 x.2.2.1).length, dec := fun i => (Sp.ggE (Sp.madeP x.1) x.2.1 x.2.2.1).length - i, ovr := fun i => [(17, .shr tI (i : Int)),
      (13, .own (.slice tI) (.own .shr) (Sp.toL (Sp.goneN (Sp.madeP x.1) x.2.1 x.2.2.1) (Sp.ggE (Sp.madeP x.1) x.2.1 x.2.2.1).length)), (11, .box tLit mLit (Sp.lessP (Sp.madeP x.1) (Sp.goneN (Sp.madeP x.1) x.2.1 x.2.2.1), ())),
      (12, .box tGr mGr ((Sp.ggE (Sp.madeP x.1) x.2.1 x.2.2.1).eraseIdx (Sp.goneN (Sp.madeP x.1) x.2.1 x.2.2.1), Sp.hFN (Sp.ggF (Sp.madeP x.1) x.2.1 x.2.2.1) (Sp.goneN (Sp.madeP x.1) x.2.1 x.2.2.1) i, [], [], ()))], keep := [7, 9, 10] },
  { ι := Nat, inv := fun i => i ≤ 3, dec := fun i => 3 - i, ovr := fun i => [(18, .shr tI (i : Int)),
      (12, .box tGr mGr ((Sp.ggE (Sp.madeP x.1) x.2.1 x.2.2.1).eraseIdx (Sp.goneN (Sp.madeP x.1) x.2.1 x.2.2.1), Sp.hFN (Sp.ggF (Sp.madeP x.1) x.2.1 x.2.2.1) (Sp.goneN (Sp.madeP x.1) x.2.1 x.2.2.1) (Sp.ggE (Sp.madeP x.1) x.2.1 x.2.2.1).length,
        Sp.hMN (Sp.ggM (Sp.madeP x.1) x.2.1 x.2.2.1) (Sp.toL (Sp.goneN (Sp.madeP x.1) x.2.1 x.2.2.1) (Sp.ggE (Sp.madeP x.1) x.2.1 x.2.2.1).length) i, [], ()))], keep := [7, 9, 11, 13] }]
end Go.User
namespace Sp
def swC (p q c : Int) : Int := if c = p then q else if c = q then p else c
def swP (P : List (List LOp)) (p q : Nat) : List (List LOp) := (P.set p (P.getD q [])).set q (P.getD p [])
def selC (E : List LEv) (c : Int) (n : Nat) : List Int := sel (fun j => decide ((ev E j).1 = c)) n
/-- The events in the order of the cores that were exchanged. -/
def visN (E : List LEv) (p q : Int) (i e : Nat) : List Int := ((List.range i).flatMap fun (c : Nat) => selC E (swC p q (c : Int)) E.length) ++ selC E (swC p q (i : Int)) e
def toV (vis : List Int) (n : Nat) : List Int := (List.range n).map fun (j : Nat) => if (j : Int) ∈ vis then idx vis j else 0
def heV (E : List LEv) (p q : Int) (vis : List Int) : List LEv := (List.range E.length).map fun k => if k < vis.length then (swC p q (ev E (vis.getD k 0)).1, (ev E (vis.getD k 0)).2.1, (ev E (vis.getD k 0)).2.2.1, ()) else ev0
def visA (P : List (List LOp)) (E : List LEv) (p q : Int) : List Int := visN E p q P.length 0
def reT (P : List (List LOp)) (E : List LEv) (p q : Int) : List Int := toV (visA P E p q) E.length
def reE (P : List (List LOp)) (E : List LEv) (p q : Int) : List LEv := heV E p q (visA P E p q)
def frv (F to : List Int) (v : Int) : Int := if F.getD v.toNat 0 < 0 then -1 else to.getD (F.getD v.toNat 0).toNat 0
def reF (P : List (List LOp)) (E : List LEv) (F : List Int) (p q : Int) (m : Nat) : List Int := (List.range E.length).map fun (j : Nat) => if (visA P E p q).getD j 0 < (m : Int) then frv F (reT P E p q) ((visA P E p q).getD j 0) else 0
def plA (n0 n1 : Int) : List Int := (([0, 1, 2] : List Int).set (n0 % 3).toNat (n1 % 3)).set (n1 % 3).toNat (n0 % 3)
def mvO (pl : List Int) (o : LOp) : LOp := if o.1 = 4 then o else (o.1, pl.getD o.2.1.toNat 0, o.2.2.1, ())
def mvN (P : List (List LOp)) (pl : List Int) (i : Nat) : List (List LOp) := (P.take i).map (List.map (mvO pl))
def mvP (P : List (List LOp)) (pl : List Int) : List (List LOp) := P.map (List.map (mvO pl))
def mvE1 (pl : List Int) (e : LEv) : LEv := (e.1, mvO pl e.2.1, e.2.2.1, ())
def mvEN (E : List LEv) (pl : List Int) (m : Nat) : List LEv := (E.take m).map (mvE1 pl) ++ E.drop m
def mvM (M : List (List Int)) (pl : List Int) (i : Nat) : List (List Int) := (List.range i).foldl (fun m x => m.set (pl.getD x 0).toNat (M.getD x [])) M
end Sp
namespace Go.User
open Go.Lf
def mGrS : Md := .pair (.own .shr) (.pair (.own .shr) (.pair (.own .shr) (.pair (.own .shr) .shr)))
def mLitS : Md := .pair (.own .shr) .shr
def S26 : FSpec := { args := [.val tGr], multi := false, res := tGr, mode := mGrS, pre := fun x => List.length x.1.1 ≤ 1000 ∧ List.length x.1.2.1 ≤ 1000 ∧ List.length x.1.2.2.1 ≤ 1000 ∧ List.length x.1.2.2.2.1 ≤ 1000 ∧ ∀ l ∈ (x.1.2.2.1 : List (List Int)), l.length ≤ 1000, fn := fun x => x.1 }
def C26 : Ctx := { mkC 38 [] with frz := [33], mds := [(17, mGrS), (3, mGrS), (2, mGrS)] }
def L26 (x : kdens S26.args) : List LoopI := [
  { ι := Nat, inv := fun i => i ≤ List.length x.1.2.2.1, dec := fun i => List.length x.1.2.2.1 - i, ovr := fun i => [(4, .shr tI (i : Int)), (3, .box tGr mGrS (x.1.1, x.1.2.1, List.take i x.1.2.2.1, x.1.2.2.2.1, ()))], keep := [1, 2] }]
def S8 : FSpec := { args := [.val (.slice (.int .u8)), .val (.slice (.int .u8)), .val (.arr 2 (.int .u8))], multi := false, res := .bool, mode := .shr, pre := fun _ => True, fn := fun _ => true }
def C8 : Ctx := { mkC 345 [(10, S10), (11, S11), (12, S12c), (16, S16), (18, S18), (25, S25), (26, S26)] with frz := [34, 37], mds := [(56, mLitS), (12, mLitS), (87, mGr), (15, mGr), (188, .own (.own .shr)), (212, mLitS), (21, mLitS), (22, mGrS)], fzs := [25] }
abbrev A8 := kdens S8.args
abbrev P8 (x : A8) : List (List Sp.LOp) := Sp.madeP x.1
abbrev E8 (x : A8) : List Sp.LEv := Sp.gE (Sp.madeP x.1, ()) x.2.1
abbrev F8 (x : A8) : List Int := Sp.gF (Sp.madeP x.1, ()) x.2.1
abbrev M8 (x : A8) : List (List Int) := Sp.gM (Sp.madeP x.1, ()) x.2.1
abbrev O8 (x : A8) : List Int := Sp.gO (Sp.madeP x.1, ()) x.2.1
abbrev n8 (x : A8) (i : Nat) : Int := (x.2.2.1 : List Int).getD i 0
abbrev p8 (x : A8) : Int := (n8 x 0).tmod ((Sp.madeP x.1).length : Int)
abbrev q8 (x : A8) : Int := (n8 x 1).tmod ((Sp.madeP x.1).length : Int)
abbrev l8 (x : A8) : List Int := Sp.plA (n8 x 0) (n8 x 1)
def L8 (x : A8) : List LoopI := [
  { ι := Nat, inv := fun i => i ≤ (P8 x).length, dec := fun i => (P8 x).length - i, ovr := fun i => [(16, .shr tI (i : Int)), (14, .shr tI ((Sp.visN (E8 x) (p8 x) (q8 x) i 0).length : Int)), (13, .own (.slice tI) (.own .shr) (Sp.toV (Sp.visN (E8 x) (p8 x) (q8 x) i 0) (E8 x).length)),
      (15, .box tGr mGr (Sp.heV (E8 x) (p8 x) (q8 x) (Sp.visN (E8 x) (p8 x) (q8 x) i 0), List.replicate (E8 x).length 0, [], [], ()))], keep := [5, 7, 8, 9, 10, 11, 12], sub := fun i => [
    { ι := Nat, inv := fun e => i < (P8 x).length ∧ e ≤ (E8 x).length, dec := fun e => (E8 x).length - e, ovr := fun e => [(18, .shr tI (e : Int)), (17, .shr tI (Sp.swC (p8 x) (q8 x) (i : Int))), (14, .shr tI ((Sp.visN (E8 x) (p8 x) (q8 x) i e).length : Int)), (13, .own (.slice tI) (.own .shr) (Sp.toV (Sp.visN (E8 x) (p8 x) (q8 x) i e) (E8 x).length)),
      (15, .box tGr mGr (Sp.heV (E8 x) (p8 x) (q8 x) (Sp.visN (E8 x) (p8 x) (q8 x) i e), List.replicate (E8 x).length 0, [], [], ()))], keep := [5, 7, 8, 9, 10, 11, 12, 16] }] },
  { ι := Nat, inv := fun m => m ≤ (E8 x).length, dec := fun m => (E8 x).length - m, ovr := fun m => [(19, .shr tI (m : Int)), (13, .own (.slice tI) (.own .shr) (Sp.reT (P8 x) (E8 x) (p8 x) (q8 x))),
      (15, .box tGr mGr (Sp.reE (P8 x) (E8 x) (p8 x) (q8 x), Sp.reF (P8 x) (E8 x) (F8 x) (p8 x) (q8 x) m, [], [], ()))], keep := [5, 7, 8, 9, 12] },
  { ι := Nat, inv := fun i => i ≤ 3, dec := fun i => 3 - i, ovr := fun i => [(20, .shr tI (i : Int)),
      (15, .box tGr mGr (Sp.reE (P8 x) (E8 x) (p8 x) (q8 x), Sp.reF (P8 x) (E8 x) (F8 x) (p8 x) (q8 x) (E8 x).length, Sp.hMN (M8 x) (Sp.reT (P8 x) (E8 x) (p8 x) (q8 x)) i, [], ()))], keep := [5, 7, 8, 9, 12, 13] },
  { ι := Nat, inv := fun i => i ≤ (P8 x).length, dec := fun i => (P8 x).length - i, ovr := fun i => [(24, .shr tI (i : Int)), (23, .own (.slice tI) (.own .shr) (l8 x)), (21, .box tLit mLitS (Sp.mvN (P8 x) (l8 x) i, ()))], keep := [7, 8, 9, 22], sub := fun i => [
    { ι := Nat, inv := fun j => i < (P8 x).length ∧ j ≤ ((P8 x).getD i []).length, dec := fun j => ((P8 x).getD i []).length - j, ovr := fun j => [(26, .shr tI (j : Int)), (25, .own (.slice tLOp) (.own .shr) ((((P8 x).getD i []).take j).map (Sp.mvO (l8 x))))], keep := [7, 8, 9, 21, 22, 23, 24] }] },
  { ι := Nat, inv := fun m => m ≤ (E8 x).length, dec := fun m => (E8 x).length - m, ovr := fun m => [(28, .shr tI (m : Int)), (22, .box tGr mGrS (Sp.mvEN (E8 x) (l8 x) m, F8 x, M8 x, O8 x, ()))], keep := [7, 8, 9, 21, 23] },
  { ι := Nat, inv := fun i => i ≤ 3, dec := fun i => 3 - i, ovr := fun i => [(29, .shr tI (i : Int)), (22, .box tGr mGrS ((E8 x).map (Sp.mvE1 (l8 x)), F8 x, Sp.mvM (M8 x) (l8 x) i, O8 x, ()))], keep := [7, 8, 9, 21, 23] }]
end Go.User
namespace Go.User
open Go.Proofs Go.Lf
set_option maxRecDepth 100000
theorem vc26 : funI C26 (stpP C26) S26 L26 Try.f26 = (
let q0 : Nat := (1000 : Nat);
let q1 : Prop := True ∧ True ∧ True;
let q2 : Nat := (0 : Nat);
let q3 : List (List Int) := ([] : List tI.slice.den);
let q4 : List (Int × (Int × Int × Int × Unit) × Int × Unit) × List Int × List (List Int) × List Int × Unit := (([] : List tLEv.den), ([] : List tI.den), q3, ([] : List tI.den), ());
let q5 : Prop := q4 = q4 ∧ True;
let q6 : List Step := List.append._f (([] : List Step)) PUnit.unit (Step.snd :: Step.snd :: Step.fst :: ([] : List Step));
let q7 : Int := (1 : Int);
∀ (x : (List (Int × (Int × Int × Int × Unit) × Int × Unit) × List Int × List (List Int) × List Int × Unit) × Unit),
  let q8 : Nat := x.1.1.length;
  let q9 : Nat := x.1.2.1.length;
  let q10 : Nat := x.1.2.2.1.length;
  let q11 : List Int := x.1.2.2.2.1;
  let q12 : Nat := q11.length;
  let q13 : List Int × Unit := (q11, ());
  let q14 : Prop := x.1 = x.1 ∧ q5;
  (q8 ≤ q0 ∧ q9 ≤ q0 ∧ q10 ≤ q0 ∧ q12 ≤ q0 ∧ ∀ (l : List Int), l ∈ x.1.2.2.1 → l.length ≤ q0) →
    dFact (((Ty.int IntKind.i64).prod (((Ty.int IntKind.i64).prod ((Ty.int IntKind.i64).prod ((Ty.int IntKind.i64).prod Ty.unit))).prod ((Ty.int IntKind.i64).prod Ty.unit))).slice.prod ((Ty.int IntKind.i64).slice.prod ((Ty.int IntKind.i64).slice.slice.prod ((Ty.int IntKind.i64).slice.prod Ty.unit)))) x.1 ∧ True →
      (q1 ∧ True) ∧
        ((True ∧ True ∧ True ∧ (↑(q2 + q8) : Int) ≤ maxNew ∧ True ∧ True ∧ True ∧ (↑(q2 + q9) : Int) ≤ maxNew ∧ True ∧ True ∧ True ∧ (↑(q2 + q12) : Int) ≤ maxNew ∧ q1) ∧ True ∧ True) ∧
          ((True ∧ True) ∧ True) ∧
            (∃ (x_1 : Nat), x_1 ≤ q10 ∧ (0 : Int) = (↑x_1 : Int) ∧ (x.1.1, x.1.2.1, q3, q13) = (x.1.1, x.1.2.1, List.take x_1 x.1.2.2.1, q13) ∧ q14) ∧
              ∀ (x_1 : Nat),
                let q15 : List (List Int) := List.take x_1 x.1.2.2.1;
                let q16 : List (Int × (Int × Int × Int × Unit) × Int × Unit) × List Int × List (List Int) × List Int × Unit := (x.1.1, x.1.2.1, q15, q13);
                let q17 : Bool := decide ((↑x_1 : Int) < (↑q10 : Int));
                let q18 : List Int := x.1.2.2.1.getD (↑x_1 : Int).toNat (([] : List tI.den));
                let q19 : List (List Int) := q18 :: q3;
                let q20 : Int := (↑x_1 : Int) + q7;
                x_1 ≤ q10 → dFact (Ty.int IntKind.i64) (↑x_1 : Int) ∧ dFact (((Ty.int IntKind.i64).prod (((Ty.int IntKind.i64).prod ((Ty.int IntKind.i64).prod ((Ty.int IntKind.i64).prod Ty.unit))).prod ((Ty.int IntKind.i64).prod Ty.unit))).slice.prod ((Ty.int IntKind.i64).slice.prod ((Ty.int IntKind.i64).slice.slice.prod ((Ty.int IntKind.i64).slice.prod Ty.unit)))) q16 ∧ True → ((True ∧ True ∧ True ∧ q1) ∧ True) ∧ (q17 = true → ((True ∧ True ∧ True ∧ True ∧ True ∧ True ∧ inN (↑x_1 : Int) q10 ∧ True ∧ (↑(q2 + q18.length) : Int) ≤ maxNew ∧ True ∧ True) ∧ (↑(q15.length + q19.length) : Int) ≤ maxNew ∧ True ∧ q6 = q6 ∧ True) ∧ ((True ∧ inK IntKind.i64 q20 ∧ True ∧ True) ∧ True) ∧ ∃ (y : Nat), y ≤ q10 ∧ q10 - y < q10 - x_1 ∧ q20 = (↑y : Int) ∧ (x.1.1, x.1.2.1, q15 ++ q19, q13) = (x.1.1, x.1.2.1, List.take y x.1.2.2.1, q13) ∧ q14) ∧ (q17 = false → ((True ∧ True) ∧ True ∧ True) ∧ q16 = x.1)) := by kernel_rfl
theorem vc8 : funI C8 (stpP C8) S8 L8 Try.f8 = (
let q0 : Nat := (2 : Nat);
let q1 : Prop := True ∧ True ∧ True;
let q2 : Prop := q1 ∧ True;
let q3 : Prop := (True ∧ True) ∧ True;
let q4 : Prop := q3 ∧ false = true;
let q5 : Prop := True ∧ q1;
let q6 : Int := (0 : Int);
let q7 : Nat := (3 : Nat);
let q8 : Prop := inN q6 q0;
let q9 : Int := (1 : Int);
let q10 : Prop := inN q9 q0;
let q11 : Nat := (0 : Nat);
let q12 : Nat := q9.toNat;
let q13 : Nat := q6.toNat;
let q14 : Int := (0 : (Ty.int IntKind.u8).den);
let q15 : Nat := (1 : Nat);
let q16 : Int × Unit := (q6, ());
let q17 : Int × Int × Int × Unit := (q6, q6, q16);
let q18 : Int × (Int × Int × Int × Unit) × Int × Unit := (q6, q17, q16);
let q19 : List (List Int) := ([] : List tI.slice.den);
let q20 : List Int × Unit := (([] : List tI.den), ());
let q21 : List (List Int) × List Int × Unit := (q19, q20);
let q22 : Int := (0 : tI.den);
let q23 : Prop := true = true;
let q24 : Prop := True ∧ q5;
let q25 : Prop := (True ∧ q24) ∧ True;
let q26 : Prop := q5 ∧ True;
let q27 : Int := -q9;
let q28 : Int := (3 : Int);
let q29 : Nat := (1000 : Nat);
let q30 : List Step := Step.fst :: ([] : List Step);
let q31 : List Step := List.append._f (([] : List Step)) PUnit.unit (Step.snd :: Step.snd :: q30);
let q32 : Prop := (True ∧ True) ∧ True ∧ True;
let q33 : Prop := q28 ≠ q6;
let q34 : List Int := q6 :: q9 :: (2 : Int) :: ([] : List tI.den);
let q35 : List (List (Int × Int × Int × Unit)) := ([] : List tLOp.slice.den);
let q36 : Int := (4 : Int);
let q37 : List Step := List.append._f (([] : List Step)) PUnit.unit q30;
let q38 : Prop := (true && true) = true;
let q39 : Prop := q38 → True;
∀ (x : List Int × List Int × List Int × Unit),
  let q40 : List (Int × (Int × Int × Int × Unit) × Int × Unit) := Sp.evs q6 (Sp.madeP x.1);
  let q41 : Nat := q40.length;
  let q42 : Nat := (Sp.madeP x.1).length;
  let q43 : Int := (↑q42 : Int);
  let q44 : Prop := True ∧ True ∧ True ∧ True ∧ True ∧ q43 ≠ q6 ∧ True ∧ True;
  let q45 : Int := x.2.2.1.getD q12 q6;
  let q46 : Int := q45.tmod q43;
  let q47 : Int := x.2.2.1.getD q13 q6;
  let q48 : Int := q47.tmod q43;
  let q49 : Prop := inN q48 q42;
  let q50 : Nat := q48.toNat;
  let q51 : Nat := q46.toNat;
  let q52 : List (List (Int × Int × Int × Unit)) := (Sp.madeP x.1).set q50 ((Sp.madeP x.1).getD q51 (([] : List tLOp.den)));
  let q53 : List (List (Int × Int × Int × Unit)) × Unit := (Sp.madeP x.1, ());
  let q54 : List (Int × (Int × Int × Int × Unit) × Int × Unit) := Sp.gE q53 x.2.1;
  let q55 : Nat := q54.length;
  let q56 : Int := (↑q55 : Int);
  let q57 : Prop := (0 : (Ty.int IntKind.i64).den) ≤ q56 ∧ q56 ≤ q56 ∧ q56 ≤ maxNew;
  let q58 : Nat := (Sp.madeP x.1).length;
  let q59 : List (List (Int × Int × Int × Unit)) × Unit := (Sp.madeP x.1, ());
  let q60 : List (Int × (Int × Int × Int × Unit) × Int × Unit) := Sp.gE q59 x.2.1;
  let q61 : Int := x.2.2.1.getD q11 q14;
  let q62 : Int := (↑q58 : Int);
  let q63 : Int := q61.tmod q62;
  let q64 : Int := x.2.2.1.getD q15 q14;
  let q65 : Int := q64.tmod q62;
  let q66 : Nat := q56.toNat;
  let q67 : List Int := List.replicate q66 q6;
  let q68 : Nat := q60.length;
  let q69 : List Int × List (List Int) × List Int × Unit := (List.replicate q68 q22, q21);
  let q70 : Prop := x.2.2.1 = x.2.2.1;
  let q71 : Prop := q53 = q53;
  let q72 : List Int := Sp.gF q53 x.2.1;
  let q73 : List (List Int) := Sp.gM q53 x.2.1;
  let q74 : List Int := Sp.gO q53 x.2.1;
  let q75 : List (Int × (Int × Int × Int × Unit) × Int × Unit) × List Int × List (List Int) × List Int × Unit := (q54, q72, q73, q74, ());
  let q76 : Prop := q75 = q75;
  let q77 : Prop := q48 = q48;
  let q78 : Prop := q46 = q46;
  let q79 : List (List (Int × Int × Int × Unit)) := q52.set q51 ((Sp.madeP x.1).getD q50 (([] : List tLOp.den)));
  let q80 : List (List (Int × Int × Int × Unit)) × Unit := (q79, ());
  let q81 : Prop := q80 = q80;
  let q82 : Prop := q81 ∧ True;
  let q83 : Prop := q70 ∧ q23 ∧ q71 ∧ q76 ∧ q77 ∧ q78 ∧ q82;
  let q84 : List Int := Sp.reT (Sp.madeP x.1) q60 q63 q65;
  let q85 : List (Int × (Int × Int × Int × Unit) × Int × Unit) := Sp.reE (Sp.madeP x.1) q60 q63 q65;
  let q86 : List Int := Sp.gF q59 x.2.1;
  let q87 : Prop := q70 ∧ q23 ∧ q71 ∧ q76 ∧ q82;
  let q88 : Nat := q84.length;
  let q89 : Nat := q72.length;
  let q90 : Prop := q84 = q84;
  let q91 : List Int := Sp.reF (Sp.madeP x.1) q60 q86 q63 q65 q68;
  let q92 : List (List Int) := Sp.gM q59 x.2.1;
  let q93 : Prop := q70 ∧ q23 ∧ q71 ∧ q76 ∧ q81 ∧ q90 ∧ True;
  let q94 : Nat := q73.length;
  let q95 : Prop := q74.length ≤ q29;
  let q96 : Prop := (Sp.evs q6 q79).length ≤ q29;
  let q97 : Prop := q41 ≤ q29;
  let q98 : Bool := Sp.allowed q53 q75;
  let q99 : Bool := Sp.right q53 q75;
  let q100 : Int := q47 % q28;
  let q101 : Int := q45 % q28;
  let q102 : List Int := q34.set q100.toNat q101;
  let q103 : List Int := Sp.plA q61 q64;
  let q104 : Prop := q75 = q75;
  let q105 : Prop := q23 ∧ q71 ∧ q76 ∧ q104 ∧ True;
  let q106 : Prop := q103 = q103;
  let q107 : Nat := q103.length;
  let q108 : List Int × Unit := (Sp.gO q59 x.2.1, ());
  let q109 : List Int × List (List Int) × List Int × Unit := (q86, q92, q108);
  let q110 : Prop := q106 ∧ True;
  let q111 : List (Int × (Int × Int × Int × Unit) × Int × Unit) := List.map (Sp.mvE1 q103) q60;
  True →
    dFact (Ty.int IntKind.u8).slice x.1 ∧ dFact (Ty.int IntKind.u8).slice x.2.1 ∧ dFact (Ty.arr q0 (Ty.int IntKind.u8)) x.2.2.1 ∧ True →
      q2 ∧
        q2 ∧
          q2 ∧
            ((!true) = true → q4) ∧
              ((!true) = false →
                (q5 ∧ True ∧ True) ∧
                  ((True ∧ True ∧ (q41 ≤ (100 : Nat) ∧ ∀ (x : Sp.LEv), x ∈ q40 → inN x.2.1.2.1 q7) ∧ True ∧ True) ∧ True ∧ True) ∧
                    ((q8 ∧ q44) ∧ True) ∧
                      ((q10 ∧ q44) ∧ True) ∧
                        ((True ∧ True ∧ True ∧ (↑(q11 + q42) : Int) ≤ maxNew ∧ q1) ∧ True ∧ True) ∧
                          ((True ∧ True ∧ True ∧ True ∧ True ∧ True ∧ inN q46 q42 ∧ True ∧ q49 ∧ True) ∧ True ∧ True) ∧
                            ((True ∧ True ∧ True ∧ True ∧ True ∧ True ∧ q49 ∧ True ∧ inN q46 q52.length ∧ True) ∧ True ∧ True) ∧
                              ((True ∧ True ∧ True ∧ q57 ∧ True) ∧ True ∧ True) ∧
                                q3 ∧
                                  ((True ∧ True ∧ True ∧ q57 ∧ True ∧ True ∧ True ∧ q57 ∧ q1) ∧ True ∧ True) ∧
                                    q3 ∧
                                      (∃ (x : Nat),
                                          let q112 : List Int := Sp.visN q60 q63 q65 x q11;
                                          x ≤ q58 ∧ q6 = (↑x : Int) ∧ q6 = (↑q112.length : Int) ∧ q67 = Sp.toV q112 q68 ∧ (List.replicate q66 q18, q67, q21) = (Sp.heV q60 q63 q65 q112, q69) ∧ q83) ∧
                                        ∀ (x_1 : Nat),
                                          let q113 : List Int := Sp.visN q60 q63 q65 x_1 q11;
                                          let q114 : Int := (↑q113.length : Int);
                                          let q115 : List Int := Sp.toV q113 q68;
                                          let q116 : List (Int × (Int × Int × Int × Unit) × Int × Unit) × List Int × List (List Int) × List Int × Unit := (Sp.heV q60 q63 q65 q113, q69);
                                          let q117 : Bool := decide ((↑x_1 : Int) < (↑q79.length : Int));
                                          let q118 : Bool := (↑x_1 : Int) == q48;
                                          let q119 : Int := Sp.swC q63 q65 (↑x_1 : Int);
                                          let q120 : Prop := q70 ∧ q23 ∧ q71 ∧ q76 ∧ q77 ∧ q78 ∧ q81 ∧ (↑x_1 : Int) = (↑x_1 : Int) ∧ True;
                                          let q121 : Prop := q119 = q119;
                                          let q122 : Int := (↑x_1 : Int) + q9;
                                          let q141 : Prop :=
                                            ∀ (x : Nat),
                                              let q123 : List Int := Sp.visN q60 q63 q65 x_1 x;
                                              let q124 : Int := (↑q123.length : Int);
                                              let q125 : List Int := Sp.toV q123 q68;
                                              let q126 : List (Int × (Int × Int × Int × Unit) × Int × Unit) := Sp.heV q60 q63 q65 q123;
                                              let q127 : List (Int × (Int × Int × Int × Unit) × Int × Unit) × List Int × List (List Int) × List Int × Unit := (q126, q69);
                                              let q128 : Bool := decide ((↑x : Int) < q56);
                                              let q129 : Prop := inN (↑x : Int) q55;
                                              let q130 : Nat := (↑x : Int).toNat;
                                              let q131 : Int × (Int × Int × Int × Unit) × Int × Unit := q54.getD q130 q18;
                                              let q132 : Bool := q131.1 == q119;
                                              let q133 : Nat := q124.toNat;
                                              let q134 : List (Int × (Int × Int × Int × Unit) × Int × Unit) := q126.set q133 q131;
                                              let q135 : Int := q124 + q9;
                                              let q136 : Int := (↑x : Int) + q9;
                                              let q137 : Prop := (True ∧ inK IntKind.i64 q136 ∧ True ∧ True) ∧ True;
                                              x_1 < q58 ∧ x ≤ q68 →
                                                dFact (Ty.int IntKind.i64) (↑x : Int) ∧ dFact (Ty.int IntKind.i64) q119 ∧ dFact (Ty.int IntKind.i64) q124 ∧ dFact (Ty.int IntKind.i64).slice q125 ∧ dFact (((Ty.int IntKind.i64).prod (((Ty.int IntKind.i64).prod ((Ty.int IntKind.i64).prod ((Ty.int IntKind.i64).prod Ty.unit))).prod ((Ty.int IntKind.i64).prod Ty.unit))).slice.prod ((Ty.int IntKind.i64).slice.prod ((Ty.int IntKind.i64).slice.slice.prod ((Ty.int IntKind.i64).slice.prod Ty.unit)))) q127 ∧ True →
                                                  q25 ∧
                                                    (q128 = true →
                                                        ((True ∧ True ∧ True ∧ q129 ∧ q24) ∧ True) ∧
                                                          (q132 = true →
                                                              ((True ∧ True ∧ True ∧ inN (↑x : Int) q125.length ∧ True) ∧ True ∧ True) ∧
                                                                ((True ∧ True ∧ True ∧ True ∧ True ∧ True ∧ q129 ∧ True ∧ inN q124 q126.length ∧ True) ∧ True ∧ True) ∧
                                                                  ((True ∧ True ∧ True ∧ True ∧ inN q124 q134.length ∧ True ∧ True) ∧ True ∧ True) ∧
                                                                    ((True ∧ inK IntKind.i64 q135 ∧ True ∧ True) ∧ True) ∧
                                                                      q137 ∧
                                                                        ∃ (y : Nat),
                                                                          let q138 : List Int := Sp.visN q60 q63 q65 x_1 y;
                                                                          (x_1 < q58 ∧ y ≤ q68) ∧ q68 - y < q68 - x ∧ q136 = (↑y : Int) ∧ q121 ∧ q135 = (↑q138.length : Int) ∧ q125.set q130 q124 = Sp.toV q138 q68 ∧ (q134.set q133 ((↑x_1 : Int), (q134.getD q133 q18).2), q69) = (Sp.heV q60 q63 q65 q138, q69) ∧ q120) ∧
                                                            (q132 = false →
                                                              q137 ∧
                                                                ∃ (y : Nat),
                                                                  let q139 : List Int := Sp.visN q60 q63 q65 x_1 y;
                                                                  (x_1 < q58 ∧ y ≤ q68) ∧ q68 - y < q68 - x ∧ q136 = (↑y : Int) ∧ q121 ∧ q124 = (↑q139.length : Int) ∧ q125 = Sp.toV q139 q68 ∧ q127 = (Sp.heV q60 q63 q65 q139, q69) ∧ q120)) ∧
                                                      (q128 = false →
                                                        ((True ∧ inK IntKind.i64 q122 ∧ True ∧ True) ∧ True) ∧
                                                          ∃ (y : Nat),
                                                            let q140 : List Int := Sp.visN q60 q63 q65 y q11;
                                                            y ≤ q58 ∧ q58 - y < q58 - x_1 ∧ q122 = (↑y : Int) ∧ q124 = (↑q140.length : Int) ∧ q125 = Sp.toV q140 q68 ∧ q127 = (Sp.heV q60 q63 q65 q140, q69) ∧ q83);
                                          let q142 : Bool := (↑x_1 : Int) == q46;
                                          x_1 ≤ q58 →
                                            dFact (Ty.int IntKind.i64) (↑x_1 : Int) ∧ dFact (Ty.int IntKind.i64) q114 ∧ dFact (Ty.int IntKind.i64).slice q115 ∧ dFact (((Ty.int IntKind.i64).prod (((Ty.int IntKind.i64).prod ((Ty.int IntKind.i64).prod ((Ty.int IntKind.i64).prod Ty.unit))).prod ((Ty.int IntKind.i64).prod Ty.unit))).slice.prod ((Ty.int IntKind.i64).slice.prod ((Ty.int IntKind.i64).slice.slice.prod ((Ty.int IntKind.i64).slice.prod Ty.unit)))) q116 ∧ True →
                                              q25 ∧
                                                (q117 = true →
                                                    q2 ∧
                                                      q26 ∧
                                                        (q118 = true →
                                                            q2 ∧
                                                              q3 ∧
                                                                (∃ (x : Nat),
                                                                    let q143 : List Int := Sp.visN q60 q63 q65 x_1 x;
                                                                    (x_1 < q58 ∧ x ≤ q68) ∧ q6 = (↑x : Int) ∧ q46 = q119 ∧ q114 = (↑q143.length : Int) ∧ q115 = Sp.toV q143 q68 ∧ q116 = (Sp.heV q60 q63 q65 q143, q69) ∧ q120) ∧
                                                                  q141) ∧
                                                          (q118 = false →
                                                            q26 ∧
                                                              (q142 = true →
                                                                  q2 ∧
                                                                    q3 ∧
                                                                      (∃ (x : Nat),
                                                                          let q144 : List Int := Sp.visN q60 q63 q65 x_1 x;
                                                                          (x_1 < q58 ∧ x ≤ q68) ∧ q6 = (↑x : Int) ∧ q48 = q119 ∧ q114 = (↑q144.length : Int) ∧ q115 = Sp.toV q144 q68 ∧ q116 = (Sp.heV q60 q63 q65 q144, q69) ∧ q120) ∧
                                                                        q141) ∧
                                                                (q142 = false →
                                                                  q3 ∧
                                                                    (∃ (x : Nat),
                                                                        let q145 : List Int := Sp.visN q60 q63 q65 x_1 x;
                                                                        (x_1 < q58 ∧ x ≤ q68) ∧ q6 = (↑x : Int) ∧ (↑x_1 : Int) = q119 ∧ q114 = (↑q145.length : Int) ∧ q115 = Sp.toV q145 q68 ∧ q116 = (Sp.heV q60 q63 q65 q145, q69) ∧ q120) ∧
                                                                      q141))) ∧
                                                  (q117 = false →
                                                    q3 ∧
                                                      (∃ (x_2 : Nat), x_2 ≤ q68 ∧ q6 = (↑x_2 : Int) ∧ q115 = q84 ∧ q116 = (q85, Sp.reF (Sp.madeP x.1) q60 q86 q63 q65 x_2, q21) ∧ q87) ∧
                                                        ∀ (x_2 : Nat),
                                                          let q146 : List Int := Sp.reF (Sp.madeP x.1) q60 q86 q63 q65 x_2;
                                                          let q147 : List (Int × (Int × Int × Int × Unit) × Int × Unit) × List Int × List (List Int) × List Int × Unit := (q85, q146, q21);
                                                          let q148 : Bool := decide ((↑x_2 : Int) < q56);
                                                          let q149 : Prop := inN (↑x_2 : Int) q88;
                                                          let q150 : Nat := (↑x_2 : Int).toNat;
                                                          let q151 : Int := q84.getD q150 q6;
                                                          let q152 : Prop := inN (↑x_2 : Int) q89;
                                                          let q153 : Int := q72.getD q150 q6;
                                                          let q154 : Bool := decide (q153 ≥ q6);
                                                          let q155 : Nat := q151.toNat;
                                                          let q156 : List Int := q146.set q155 q27;
                                                          let q157 : Int := (↑x_2 : Int) + q9;
                                                          let q158 : Prop := (True ∧ inK IntKind.i64 q157 ∧ True ∧ True) ∧ True;
                                                          x_2 ≤ q68 →
                                                            dFact (Ty.int IntKind.i64) (↑x_2 : Int) ∧ dFact (Ty.int IntKind.i64).slice q84 ∧ dFact (((Ty.int IntKind.i64).prod (((Ty.int IntKind.i64).prod ((Ty.int IntKind.i64).prod ((Ty.int IntKind.i64).prod Ty.unit))).prod ((Ty.int IntKind.i64).prod Ty.unit))).slice.prod ((Ty.int IntKind.i64).slice.prod ((Ty.int IntKind.i64).slice.slice.prod ((Ty.int IntKind.i64).slice.prod Ty.unit)))) q147 ∧ True →
                                                              q25 ∧
                                                                (q148 = true → ((True ∧ True ∧ True ∧ True ∧ q149 ∧ True ∧ inN q151 q146.length ∧ True) ∧ True ∧ True) ∧ ((True ∧ True ∧ True ∧ q152 ∧ q1) ∧ True) ∧ (q154 = true → ((True ∧ True ∧ True ∧ True ∧ q149 ∧ True ∧ True ∧ True ∧ True ∧ True ∧ q152 ∧ True ∧ inN q153 q88 ∧ True ∧ inN q151 q156.length ∧ True) ∧ True ∧ True) ∧ q158 ∧ ∃ (y : Nat), y ≤ q68 ∧ q68 - y < q68 - x_2 ∧ q157 = (↑y : Int) ∧ q90 ∧ (q85, q156.set q155 (q84.getD q153.toNat q6), q21) = (q85, Sp.reF (Sp.madeP x.1) q60 q86 q63 q65 y, q21) ∧ q87) ∧ (q154 = false → q158 ∧ ∃ (y : Nat), y ≤ q68 ∧ q68 - y < q68 - x_2 ∧ q157 = (↑y : Int) ∧ q90 ∧ (q85, q156, q21) = (q85, Sp.reF (Sp.madeP x.1) q60 q86 q63 q65 y, q21) ∧ q87)) ∧
                                                                  (q148 = false →
                                                                    q3 ∧
                                                                      (∃ (x : Nat), x ≤ q7 ∧ q6 = (↑x : Int) ∧ q147 = (q85, q91, Sp.hMN q92 q84 x, q20) ∧ q93) ∧
                                                                        ∀ (x_3 : Nat),
                                                                          let q159 : Bool := decide ((↑x_3 : Int) < q28);
                                                                          let q160 : List Int := q73.getD (↑x_3 : Int).toNat (([] : List tI.den));
                                                                          let q161 : List (List Int) := Sp.ren q160 q84 :: q19;
                                                                          let q162 : Int := (↑x_3 : Int) + q9;
                                                                          let q163 : List (Int × (Int × Int × Int × Unit) × Int × Unit) × List Int × List (List Int) × List Int × Unit := (q85, q91, Sp.hMN q92 q84 x_3, Sp.ren q74 q84, ());
                                                                          let q164 : Bool := Sp.allowed q80 q163 != q98;
                                                                          let q165 : Prop := (true && bif q164 then false else true) = true;
                                                                          let q166 : Prop := q165 → True;
                                                                          let q167 : Bool := bif q164 then true else Sp.right q80 q163 != q99;
                                                                          x_3 ≤ q7 →
                                                                            dFact (Ty.int IntKind.i64) (↑x_3 : Int) ∧ dFact (((Ty.int IntKind.i64).prod (((Ty.int IntKind.i64).prod ((Ty.int IntKind.i64).prod ((Ty.int IntKind.i64).prod Ty.unit))).prod ((Ty.int IntKind.i64).prod Ty.unit))).slice.prod ((Ty.int IntKind.i64).slice.prod ((Ty.int IntKind.i64).slice.slice.prod ((Ty.int IntKind.i64).slice.prod Ty.unit)))) (q85, q91, Sp.hMN q92 q84 x_3, q20) ∧ True →
                                                                              q2 ∧
                                                                                (q159 = true → ((True ∧ True ∧ True ∧ True ∧ True ∧ inN (↑x_3 : Int) q94 ∧ True ∧ True ∧ (q160.length ≤ q29 ∧ ∀ (v : Int), v ∈ q160 → v < (↑q88 : Int)) ∧ True ∧ True) ∧ (↑((Sp.hMN q92 q84 x_3).length + q161.length) : Int) ≤ maxNew ∧ True ∧ q31 = q31 ∧ True) ∧ ((True ∧ inK IntKind.i64 q162 ∧ True ∧ True) ∧ True) ∧ ∃ (y : Nat), y ≤ q7 ∧ q7 - y < q7 - x_3 ∧ q162 = (↑y : Int) ∧ (q85, q91, Sp.hMN q92 q84 x_3 ++ q161, q20) = (q85, q91, Sp.hMN q92 q84 y, q20) ∧ q93) ∧
                                                                                  (q159 = false →
                                                                                    ((True ∧ True ∧ True ∧ (q95 ∧ ∀ (v : Int), v ∈ q74 → v < (↑q88 : Int)) ∧ True ∧ True) ∧ True ∧ True) ∧
                                                                                      ((True ∧ True ∧ q96 ∧ True ∧ True ∧ q97 ∧ True ∧ True ∧ q166 ∧ q166 ∧ (q165 → q96) ∧ q166 ∧ q166 ∧ (q165 → q97) ∧ q166 ∧ True ∧ True) ∧ True) ∧
                                                                                        (q167 = true → q4) ∧
                                                                                          (q167 = false →
                                                                                            (q1 ∧ True ∧ True) ∧
                                                                                              ((True ∧ (q55 ≤ q29 ∧ q89 ≤ q29 ∧ q94 ≤ q29 ∧ q95 ∧ ∀ (l : List Int), l ∈ q73 → l.length ≤ q29) ∧ True ∧ True) ∧ True ∧ True) ∧
                                                                                                q32 ∧
                                                                                                  ((True ∧ q8 ∧ True ∧ q33 ∧ q10 ∧ True ∧ q33 ∧ True ∧ inN q100 q34.length ∧ True) ∧ True ∧ True) ∧
                                                                                                    ((True ∧ q10 ∧ True ∧ q33 ∧ q8 ∧ True ∧ q33 ∧ True ∧ inN q101 q102.length ∧ True) ∧ True ∧ True) ∧
                                                                                                      q3 ∧
                                                                                                        (∃ (x_4 : Nat), x_4 ≤ q58 ∧ q6 = (↑x_4 : Int) ∧ q102.set q101.toNat q100 = q103 ∧ (q35, ()) = (Sp.mvN (Sp.madeP x.1) q103 x_4, ()) ∧ q105) ∧
                                                                                                          ∀ (x_4 : Nat),
                                                                                                            let q168 : List (List (Int × Int × Int × Unit)) := Sp.mvN (Sp.madeP x.1) q103 x_4;
                                                                                                            let q169 : List (List (Int × Int × Int × Unit)) × Unit := (q168, ());
                                                                                                            let q170 : Bool := decide ((↑x_4 : Int) < q43);
                                                                                                            let q171 : List (Int × Int × Int × Unit) := (Sp.madeP x.1).getD x_4 (([] : List Sp.LOp));
                                                                                                            let q172 : Nat := q171.length;
                                                                                                            let q173 : Prop := q169 = q169;
                                                                                                            let q174 : Prop := q23 ∧ q71 ∧ q76 ∧ q173 ∧ q104 ∧ q106 ∧ (↑x_4 : Int) = (↑x_4 : Int) ∧ True;
                                                                                                            let q175 : Prop := inN (↑x_4 : Int) q42;
                                                                                                            let q176 : List (Int × Int × Int × Unit) := (Sp.madeP x.1).getD (↑x_4 : Int).toNat (([] : List tLOp.den));
                                                                                                            let q177 : Nat := q176.length;
                                                                                                            let q178 : Int := (↑x_4 : Int) + q9;
                                                                                                            let q179 : Prop := q23 ∧ q71 ∧ q76 ∧ q173 ∧ q110;
                                                                                                            let q180 : Prop := (Sp.evs q6 q168).length ≤ q29;
                                                                                                            x_4 ≤ q58 →
                                                                                                              dFact (Ty.int IntKind.i64) (↑x_4 : Int) ∧ dFact (Ty.int IntKind.i64).slice q103 ∧ dFact (((Ty.int IntKind.i64).prod ((Ty.int IntKind.i64).prod ((Ty.int IntKind.i64).prod Ty.unit))).slice.slice.prod Ty.unit) q169 ∧ True →
                                                                                                                q25 ∧
                                                                                                                  (q170 = true →
                                                                                                                      q32 ∧
                                                                                                                        q3 ∧
                                                                                                                          (∃ (x : Nat), (x_4 < q58 ∧ x ≤ q172) ∧ q6 = (↑x : Int) ∧ ([] : List tLOp.den) = List.map (Sp.mvO q103) (List.take x q171) ∧ q174) ∧
                                                                                                                            ∀ (x_5 : Nat),
                                                                                                                              let q181 : List (Int × Int × Int × Unit) := List.map (Sp.mvO q103) (List.take x_5 q171);
                                                                                                                              let q182 : Bool := decide ((↑x_5 : Int) < (↑q177 : Int));
                                                                                                                              let q183 : Int × Int × Int × Unit := q176.getD (↑x_5 : Int).toNat q17;
                                                                                                                              let q184 : Int := q183.1;
                                                                                                                              let q185 : Bool := q184 != q36;
                                                                                                                              let q186 : Int × Int × Unit := q183.2;
                                                                                                                              let q187 : Int := q186.1;
                                                                                                                              let q188 : Nat := q181.length;
                                                                                                                              let q189 : List (Int × Int × Int × Unit) := (q184, q103.getD q187.toNat q6, q186.2) :: ([] : List tLOp.den);
                                                                                                                              let q190 : Int := (↑x_5 : Int) + q9;
                                                                                                                              let q191 : Prop := (True ∧ inK IntKind.i64 q190 ∧ True ∧ True) ∧ True;
                                                                                                                              let q192 : List (Int × Int × Int × Unit) := q183 :: ([] : List tLOp.den);
                                                                                                                              let q193 : List (List (Int × Int × Int × Unit)) := q181 :: q35;
                                                                                                                              x_4 < q58 ∧ x_5 ≤ q172 → dFact (Ty.int IntKind.i64) (↑x_5 : Int) ∧ dFact ((Ty.int IntKind.i64).prod ((Ty.int IntKind.i64).prod ((Ty.int IntKind.i64).prod Ty.unit))).slice q181 ∧ True → ((True ∧ True ∧ True ∧ True ∧ q175 ∧ q5) ∧ True) ∧ (q182 = true → ((True ∧ True ∧ True ∧ q175 ∧ True ∧ True ∧ inN (↑x_5 : Int) q177 ∧ q1) ∧ True ∧ True) ∧ q26 ∧ (q185 = true → ((True ∧ True ∧ True ∧ inN q187 q107 ∧ q1) ∧ True ∧ True) ∧ (q5 ∧ (↑(q188 + q189.length) : Int) ≤ maxNew ∧ True ∧ True) ∧ q191 ∧ ∃ (y : Nat), (x_4 < q58 ∧ y ≤ q172) ∧ q172 - y < q172 - x_5 ∧ q190 = (↑y : Int) ∧ q181 ++ q189 = List.map (Sp.mvO q103) (List.take y q171) ∧ q174) ∧ (q185 = false → (q5 ∧ (↑(q188 + q192.length) : Int) ≤ maxNew ∧ True ∧ True) ∧ q191 ∧ ∃ (y : Nat), (x_4 < q58 ∧ y ≤ q172) ∧ q172 - y < q172 - x_5 ∧ q190 = (↑y : Int) ∧ q181 ++ q192 = List.map (Sp.mvO q103) (List.take y q171) ∧ q174)) ∧ (q182 = false → (q24 ∧ (↑(q168.length + q193.length) : Int) ≤ maxNew ∧ True ∧ q37 = q37 ∧ True) ∧ ((True ∧ inK IntKind.i64 q178 ∧ True ∧ True) ∧ True) ∧ ∃ (y : Nat), y ≤ q58 ∧ q58 - y < q58 - x_4 ∧ q178 = (↑y : Int) ∧ q106 ∧ (q168 ++ q193, ()) = (Sp.mvN (Sp.madeP x.1) q103 y, ()) ∧ q105)) ∧
                                                                                                                    (q170 = false →
                                                                                                                      q3 ∧
                                                                                                                        (∃ (x : Nat), x ≤ q68 ∧ q6 = (↑x : Int) ∧ q75 = (Sp.mvEN q60 q103 x, q109) ∧ q179) ∧
                                                                                                                          ∀ (x : Nat),
                                                                                                                            let q194 : List (Int × (Int × Int × Int × Unit) × Int × Unit) × List Int × List (List Int) × List Int × Unit := (Sp.mvEN q60 q103 x, q109);
                                                                                                                            let q195 : Nat := (Sp.mvEN q60 q103 x).length;
                                                                                                                            let q196 : Bool := decide ((↑x : Int) < (↑q195 : Int));
                                                                                                                            let q197 : Prop := inN (↑x : Int) q195;
                                                                                                                            let q198 : Nat := (↑x : Int).toNat;
                                                                                                                            let q199 : Int × (Int × Int × Int × Unit) × Int × Unit := (Sp.mvEN q60 q103 x).getD q198 q18;
                                                                                                                            let q200 : (Int × Int × Int × Unit) × Int × Unit := q199.2;
                                                                                                                            let q201 : Int × Int × Int × Unit := q200.1;
                                                                                                                            let q202 : Int := q201.1;
                                                                                                                            let q203 : Bool := q202 != q36;
                                                                                                                            let q204 : Int × Int × Unit := q201.2;
                                                                                                                            let q205 : Int := q204.1;
                                                                                                                            let q206 : Int := (↑x : Int) + q9;
                                                                                                                            let q207 : Prop := (True ∧ inK IntKind.i64 q206 ∧ True ∧ True) ∧ True;
                                                                                                                            x ≤ q68 →
                                                                                                                              dFact (Ty.int IntKind.i64) (↑x : Int) ∧ dFact (((Ty.int IntKind.i64).prod (((Ty.int IntKind.i64).prod ((Ty.int IntKind.i64).prod ((Ty.int IntKind.i64).prod Ty.unit))).prod ((Ty.int IntKind.i64).prod Ty.unit))).slice.prod ((Ty.int IntKind.i64).slice.prod ((Ty.int IntKind.i64).slice.slice.prod ((Ty.int IntKind.i64).slice.prod Ty.unit)))) q194 ∧ True →
                                                                                                                                q25 ∧
                                                                                                                                  (q196 = true → ((True ∧ True ∧ True ∧ q197 ∧ q24) ∧ True) ∧ (q203 = true → ((True ∧ True ∧ True ∧ True ∧ True ∧ True ∧ True ∧ q197 ∧ True ∧ True ∧ True ∧ inN q205 q107 ∧ True ∧ q197 ∧ q1) ∧ True ∧ True) ∧ q207 ∧ ∃ (y : Nat), y ≤ q68 ∧ q68 - y < q68 - x ∧ q206 = (↑y : Int) ∧ ((Sp.mvEN q60 q103 x).set q198 (q199.1, (q202, q103.getD q205.toNat q6, q204.2), q200.2), q109) = (Sp.mvEN q60 q103 y, q109) ∧ q179) ∧ (q203 = false → q207 ∧ ∃ (y : Nat), y ≤ q68 ∧ q68 - y < q68 - x ∧ q206 = (↑y : Int) ∧ q194 = (Sp.mvEN q60 q103 y, q109) ∧ q179)) ∧
                                                                                                                                    (q196 = false →
                                                                                                                                      q3 ∧
                                                                                                                                        (∃ (x : Nat), x ≤ q7 ∧ q6 = (↑x : Int) ∧ q194 = (q111, q86, Sp.mvM q92 q103 x, q108) ∧ q179) ∧
                                                                                                                                          ∀ (x : Nat),
                                                                                                                                            let q208 : List (Int × (Int × Int × Int × Unit) × Int × Unit) × List Int × List (List Int) × List Int × Unit := (q111, q86, Sp.mvM q92 q103 x, q108);
                                                                                                                                            let q209 : Bool := decide ((↑x : Int) < q28);
                                                                                                                                            let q210 : Nat := (↑x : Int).toNat;
                                                                                                                                            let q211 : Int := q103.getD q210 q6;
                                                                                                                                            let q212 : Int := (↑x : Int) + q9;
                                                                                                                                            let q213 : Bool := Sp.allowed q169 q208 == q98;
                                                                                                                                            let q214 : Prop := (true && bif q213 then true else false) = true;
                                                                                                                                            let q215 : Prop := q214 → True;
                                                                                                                                            x ≤ q7 → dFact (Ty.int IntKind.i64) (↑x : Int) ∧ dFact (((Ty.int IntKind.i64).prod (((Ty.int IntKind.i64).prod ((Ty.int IntKind.i64).prod ((Ty.int IntKind.i64).prod Ty.unit))).prod ((Ty.int IntKind.i64).prod Ty.unit))).slice.prod ((Ty.int IntKind.i64).slice.prod ((Ty.int IntKind.i64).slice.slice.prod ((Ty.int IntKind.i64).slice.prod Ty.unit)))) q208 ∧ True → q2 ∧ (q209 = true → ((True ∧ True ∧ True ∧ True ∧ inN (↑x : Int) q107 ∧ True ∧ True ∧ True ∧ True ∧ inN (↑x : Int) q94 ∧ True ∧ inN q211 (Sp.mvM q92 q103 x).length ∧ True) ∧ True ∧ True) ∧ ((True ∧ inK IntKind.i64 q212 ∧ True ∧ True) ∧ True) ∧ ∃ (y : Nat), y ≤ q7 ∧ q7 - y < q7 - x ∧ q212 = (↑y : Int) ∧ (q111, q86, (Sp.mvM q92 q103 x).set q211.toNat (q73.getD q210 (([] : List tI.den))), q108) = (q111, q86, Sp.mvM q92 q103 y, q108) ∧ q179) ∧ (q209 = false → ((True ∧ True ∧ q39 ∧ q39 ∧ (q38 → q180) ∧ q39 ∧ q39 ∧ (q38 → q97) ∧ q39 ∧ True ∧ True ∧ q215 ∧ q215 ∧ (q214 → q180) ∧ q215 ∧ q215 ∧ (q214 → q97) ∧ q215 ∧ q1) ∧ True) ∧ (bif q213 then Sp.right q169 q208 == q99 else false) = true))))))))) := by kernel_rfl
end Go.User
namespace Go.User
open Go.Proofs Go.Lf
set_option maxRecDepth 100000
theorem vc10 : funI C10 (stpP C10) S10 L10 Try.f10 = (
let q0 : Prop := (True ∧ True) ∧ True;
let q1 : Prop := True ∧ True ∧ True;
let q2 : Prop := q1 ∧ True ∧ True;
let q3 : Prop := q1 ∧ True;
let q4 : Int := (0 : Int);
let q5 : Int := (2 : Int);
let q6 : Int := (1 : Int);
let q7 : Int × Unit := (q6, ());
let q8 : Int × Int × Int × Unit := (q5, q4, q7);
let q9 : Int × Unit := (q4, ());
let q10 : List (Int × Int × Int × Unit) := (q6, q6, q9) :: ([] : List tLOp.den);
let q11 : Int × Int × Int × Unit := (q5, q6, q7);
let q12 : Int × Int × Unit := (q4, q9);
let q13 : List (Int × Int × Int × Unit) := (q6, q12) :: ([] : List tLOp.den);
let q14 : List (List (Int × Int × Int × Unit)) := ([] : List tLOp.slice.den);
let q15 : List (List (Int × Int × Int × Unit)) := (q8 :: q10) :: (q11 :: q13) :: q14;
let q16 : List (Int × (Int × Int × Int × Unit) × Int × Unit) := Sp.evs q4 q15;
let q17 : Nat := q16.length;
let q18 : Nat := (1000 : Nat);
let q19 : Prop := q17 ≤ q18;
let q20 : Prop := (true && true) = true;
let q21 : Prop := q20 → True;
let q22 : Int := (4 : Int);
let q23 : Int × Int × Int × Unit := (q22, q12);
let q24 : List (List (Int × Int × Int × Unit)) := (q8 :: q23 :: q10) :: (q11 :: q23 :: q13) :: q14;
let q25 : List (Int × (Int × Int × Int × Unit) × Int × Unit) := Sp.evs q4 q24;
let q26 : Nat := q25.length;
let q27 : Prop := q20 → q26 ≤ q18;
let q28 : Nat := (100 : Nat);
let q29 : Int := -q6;
let q30 : List Int := q29 :: ([] : List tI.den);
let q31 : List Int := q29 :: q29 :: q30;
let q32 : List Int := q29 :: q31;
let q33 : List Int := q29 :: q29 :: q32;
let q34 : Prop := q20 → (q26 ≤ q28 ∧ ∀ (x : Sp.LEv), x ∈ q25 → inN x.2.1.2.1 (3 : Nat)) ∧ q33.length = q26 ∧ ∀ (v : Int), v ∈ q33 → v < (↑q26 : Int);
let q35 : List (List (Int × Int × Int × Unit)) × Unit := (q15, ());
let q36 : List (List (Int × Int × Int × Unit)) × Unit := (q24, ());
let q37 : List (Int × (Int × Int × Int × Unit) × Int × Unit) × List Int × List (List Int) × List Int × Unit := Sp.gr q36 q33 (q22 :: q6 :: ([] : List tI.den));
let q38 : Bool := bif bif bif bif !Sp.valid q35 then true else !Sp.valid q36 then true else Sp.valid (q14, ()) then true else Sp.right q35 (([] : List tLEv.den), ([] : List tI.den), ([] : List tI.slice.den), ([] : List tI.den), ()) then true else !Sp.right q36 q37;
let q39 : Prop := q0 ∧ false = true;
let q40 : Nat := q32.length;
let q41 : Bool := bif bif !Sp.allowed q35 (Sp.gr q35 q32 (([] : List tI.den))) then true else Sp.allowed q36 (Sp.gr q36 q33 (q6 :: q22 :: ([] : List tI.den))) then true else Sp.allowed q36 q37;
let q42 : Int := (1 : tI.den);
let q43 : Int × Unit := ((0 : tI.den), ());
let q44 : Int := (2 : tI.den);
let q45 : Int × Unit := (q6, ());
let q46 : List (List (Int × Int × Int × Unit)) := ((q42, q4, q43) :: (q44, q6, q45) :: ([] : List tLOp.den)) :: ((q42, q6, q43) :: (q44, q4, q45) :: ([] : List tLOp.den)) :: q14;
let q47 : List (Int × (Int × Int × Int × Unit) × Int × Unit) := Sp.evs q4 q46;
let q48 : Nat := q47.length;
let q49 : Prop := q48 ≤ q28 ∧ ∀ (x : Sp.LEv), x ∈ q47 → inN x.2.1.2.1 (3 : Nat);
let q50 : Int := (3 : Int);
let q51 : List Int := q50 :: q29 :: q6 :: q30;
let q52 : Prop := q48 ≤ q18;
let q53 : Prop := q20 → q52;
let q54 : List Int := q50 :: q31;
let q55 : List (List (Int × Int × Int × Unit)) × Unit := (q46, ());
let q56 : List (Int × (Int × Int × Int × Unit) × Int × Unit) × List Int × List (List Int) × List Int × Unit := Sp.gr q55 q51 (([] : List tI.den));
∀ (x : Unit), True → True → q0 ∧ q2 ∧ q2 ∧ ((True ∧ True ∧ True ∧ True ∧ True ∧ True ∧ True ∧ q1) ∧ True ∧ True) ∧ q3 ∧ q3 ∧ ((True ∧ q19 ∧ True ∧ True ∧ q21 ∧ q27 ∧ q21 ∧ True ∧ True ∧ q21 ∧ (q20 → (Sp.evs q4 q14).length ≤ q18) ∧ True ∧ True ∧ q21 ∧ q21 ∧ (q20 → q19) ∧ True ∧ True ∧ q21 ∧ q21 ∧ q21 ∧ q21 ∧ q34 ∧ q27 ∧ q21 ∧ True ∧ True) ∧ True) ∧ (q38 = true → q39) ∧ (q38 = false → ((True ∧ True ∧ True ∧ ((q17 ≤ q28 ∧ ∀ (x : Sp.LEv), x ∈ q16 → inN x.2.1.2.1 (3 : Nat)) ∧ q40 = q17 ∧ ∀ (v : Int), v ∈ q32 → v < (↑q17 : Int)) ∧ q19 ∧ True ∧ True ∧ q21 ∧ q21 ∧ q21 ∧ q21 ∧ q34 ∧ q27 ∧ True ∧ True ∧ q21 ∧ q21 ∧ q21 ∧ q21 ∧ q34 ∧ q27 ∧ True ∧ True) ∧ True) ∧ (q41 = true → q39) ∧ (q41 = false → ((True ∧ True ∧ (q49 ∧ q51.length = q48 ∧ ∀ (v : Int), v ∈ q51 → v < (↑q48 : Int)) ∧ True ∧ True) ∧ True ∧ True) ∧ ((True ∧ True ∧ q52 ∧ True ∧ q21 ∧ q21 ∧ q53 ∧ q21 ∧ True ∧ True ∧ q21 ∧ q21 ∧ q21 ∧ (q20 → q49 ∧ q40 = q48 ∧ ∀ (v : Int), v ∈ q32 → v < (↑q48 : Int)) ∧ q53 ∧ True ∧ True ∧ q21 ∧ q21 ∧ q21 ∧ (q20 → q49 ∧ q54.length = q48 ∧ ∀ (v : Int), v ∈ q54 → v < (↑q48 : Int)) ∧ q53 ∧ q1) ∧ True) ∧ (bif bif bif Sp.right q55 q56 then !Sp.allowed q55 q56 else false then Sp.allowed q55 (Sp.gr q55 q32 (([] : List tI.den))) else false then Sp.allowed q55 (Sp.gr q55 q54 (([] : List tI.den))) else false) = true))) := by kernel_rfl
end Go.User
namespace Go.User
open Go.Proofs Go.Lf
set_option maxRecDepth 100000
theorem vc12 : funI C12 (stpP C12) S12 L12 Try.f12 = (
let q0 : Int := (0 : Int);
let q1 : Nat := (3 : Nat);
let q2 : Prop := True ∧ True ∧ True;
let q3 : Prop := q2 ∧ True;
let q4 : Nat := (1000 : Nat);
let q5 : Prop := (True ∧ True) ∧ True;
let q6 : List (List Int) := ([] : List tI.slice.den);
let q7 : List Int × Unit := (([] : List tI.den), ());
let q8 : List Int × List (List Int) × List Int × Unit := (([] : List tI.den), q6, q7);
let q9 : List (Int × (Int × Int × Int × Unit) × Int × Unit) × List Int × List (List Int) × List Int × Unit := (([] : List tLEv.den), q8);
let q10 : Prop := q9 = q9;
let q11 : Prop := q10 ∧ True;
let q12 : Int := (3 : Int);
let q13 : List Step := Step.snd :: Step.fst :: ([] : List Step);
let q14 : List Step := List.append._f (([] : List Step)) PUnit.unit (Step.snd :: q13);
let q15 : Int := (1 : Int);
let q16 : Prop := True ∧ q2;
let q17 : Prop := True ∧ q16;
let q18 : Prop := (True ∧ q17) ∧ True;
let q19 : List Int := -q15 :: ([] : List tI.den);
let q20 : Nat := q19.length;
let q21 : List Step := List.append._f (([] : List Step)) PUnit.unit q13;
let q22 : Int × Unit := (q0, ());
let q23 : Int × (Int × Int × Int × Unit) × Int × Unit := (q0, (q0, q0, q22), q22);
let q24 : Int := (8 : Int);
let q25 : Prop := q24 ≠ q0;
let q26 : Nat := (8 : Nat);
∀ (x : (List (List (Int × Int × Int × Unit)) × Unit) × List Int × Unit),
  let q27 : List (Int × (Int × Int × Int × Unit) × Int × Unit) := Sp.evs q0 x.1.1;
  let q28 : Nat := q27.length;
  let q29 : Prop := x.2.1 = x.2.1;
  let q30 : Prop := x.1 = x.1;
  let q31 : Prop := q29 ∧ q30 ∧ q11;
  let q32 : Nat := q27.length;
  let q33 : Prop := q32 ≤ q4;
  let q34 : List Int := Sp.fen q27;
  let q35 : List (List Int) := Sp.mo3 q27 x.2.1;
  let q36 : List (List Int) × List Int × Unit := (q35, Sp.foOf q27 x.2.1, ());
  let q37 : List Int := (Sp.fromN q27 x.2.1 q28).1;
  let q38 : List Int × List (List Int) × List Int × Unit := (q37, q36);
  (q28 ≤ (100 : Nat) ∧ ∀ (x : Sp.LEv), x ∈ q27 → inN x.2.1.2.1 q1) →
    dFact (((Ty.int IntKind.i64).prod ((Ty.int IntKind.i64).prod ((Ty.int IntKind.i64).prod Ty.unit))).slice.slice.prod Ty.unit) x.1 ∧ dFact (Ty.int IntKind.u8).slice x.2.1 ∧ True →
      q3 ∧
        ((True ∧ q28 ≤ q4 ∧ q2) ∧ True ∧ True) ∧
          q5 ∧
            q5 ∧
              (∃ (x_1 : Nat),
                  let q39 : List (List Int) × Int := Sp.moN q27 x.2.1 x_1;
                  x_1 ≤ q1 ∧ q0 = (↑x_1 : Int) ∧ q0 = q39.2 ∧ (q27, q8) = (q27, ([] : List tI.den), q39.1, q7) ∧ q31) ∧
                ∀ (x_1 : Nat),
                  let q40 : List (List Int) × Int := Sp.moN q27 x.2.1 x_1;
                  let q41 : Int := q40.2;
                  let q42 : List (List Int) := q40.1;
                  let q43 : Bool := decide ((↑x_1 : Int) < q12);
                  let q44 : List Int := Sp.wr q27 (↑x_1 : Int);
                  let q45 : Nat := q44.length;
                  let q46 : Prop := q0 ≤ q41 ∧ q41 ≤ (1000 : (AK.val tI).den);
                  let q47 : List (List Int) := Sp.shuffled q44 x.2.1 q41 :: q6;
                  let q48 : Int := q41 + (↑q45 : Int);
                  let q49 : Int := (↑x_1 : Int) + q15;
                  let q50 : List Int := Sp.shuffled q34 x.2.1 q41;
                  let q51 : Int := q41 + (↑q50.length : Int);
                  x_1 ≤ q1 →
                    dFact (Ty.int IntKind.i64) (↑x_1 : Int) ∧ dFact (Ty.int IntKind.i64) q41 ∧ dFact (((Ty.int IntKind.i64).prod (((Ty.int IntKind.i64).prod ((Ty.int IntKind.i64).prod ((Ty.int IntKind.i64).prod Ty.unit))).prod ((Ty.int IntKind.i64).prod Ty.unit))).slice.prod ((Ty.int IntKind.i64).slice.prod ((Ty.int IntKind.i64).slice.slice.prod ((Ty.int IntKind.i64).slice.prod Ty.unit)))) (q27, ([] : List tI.den), q42, q7) ∧ True →
                      q3 ∧
                        (q43 = true →
                            ((True ∧ True ∧ True ∧ q33 ∧ True) ∧ True ∧ True) ∧
                              ((True ∧ True ∧ True ∧ True ∧ True ∧ (q45 ≤ q4 ∧ q46) ∧ True ∧ True) ∧ (↑(q42.length + q47.length) : Int) ≤ maxNew ∧ True ∧ q14 = q14 ∧ True) ∧
                                ((True ∧ True ∧ True ∧ inK IntKind.i64 q48 ∧ True ∧ True) ∧ True) ∧
                                  ((True ∧ inK IntKind.i64 q49 ∧ True ∧ True) ∧ True) ∧
                                    ∃ (y : Nat),
                                      let q52 : List (List Int) × Int := Sp.moN q27 x.2.1 y;
                                      y ≤ q1 ∧ q1 - y < q1 - x_1 ∧ q49 = (↑y : Int) ∧ q48 = q52.2 ∧ (q27, ([] : List tI.den), q42 ++ q47, q7) = (q27, ([] : List tI.den), q52.1, q7) ∧ q31) ∧
                          (q43 = false →
                            ((True ∧ True ∧ q33 ∧ True ∧ True ∧ (q34.length ≤ q4 ∧ q46) ∧ True ∧ True) ∧ True ∧ True) ∧
                              ((True ∧ True ∧ True ∧ True ∧ inK IntKind.i64 q51 ∧ True ∧ True) ∧ True) ∧
                                q5 ∧
                                  (∃ (x_2 : Nat),
                                      let q53 : List Int × Int := Sp.fromN q27 x.2.1 x_2;
                                      x_2 ≤ q28 ∧ q0 = (↑x_2 : Int) ∧ q51 = q53.2 ∧ (q27, ([] : List tI.den), q42, q50, ()) = (q27, q53.1, q36) ∧ q31) ∧
                                    ∀ (x_2 : Nat),
                                      let q54 : List Int × Int := Sp.fromN q27 x.2.1 x_2;
                                      let q55 : Int := q54.2;
                                      let q56 : List Int := q54.1;
                                      let q57 : List (Int × (Int × Int × Int × Unit) × Int × Unit) × List Int × List (List Int) × List Int × Unit := (q27, q56, q36);
                                      let q58 : Bool := decide ((↑x_2 : Int) < (↑q32 : Int));
                                      let q59 : Prop := inN (↑x_2 : Int) q32;
                                      let q60 : Nat := (↑x_2 : Int).toNat;
                                      let q61 : Int × Int × Int × Unit := (q27.getD q60 q23).2.1;
                                      let q62 : Bool := !Sp.reads q61;
                                      let q63 : Int := (↑x_2 : Int) + q15;
                                      let q64 : Prop := (True ∧ inK IntKind.i64 q63 ∧ True ∧ True) ∧ True;
                                      let q65 : List Int := q56 ++ q19;
                                      let q66 : Int := q61.2.1;
                                      let q67 : List Int := q35.getD q66.toNat (([] : List tI.den));
                                      let q68 : Int := q55 + q15;
                                      let q69 : Bool := q61.1 == q12;
                                      let q70 : Prop := (true && bif q69 then true else false) = true;
                                      let q71 : Prop := q70 → True;
                                      let q72 : Int := Sp.byteAt x.2.1 q55;
                                      let q73 : Bool := bif q69 then q72.tmod q24 != (7 : Int) else false;
                                      let q74 : List Int := q19 ++ q67;
                                      let q75 : Int := Sp.idx q74 (↑x_2 : Int) - q15;
                                      let q76 : Nat := q74.length;
                                      let q77 : Prop := True ∧ inN (↑x_2 : Int) q65.length ∧ True;
                                      let q78 : Int := q72.tdiv q24;
                                      let q79 : Int := (↑q76 : Int);
                                      let q80 : Int := q78.tmod q79;
                                      x_2 ≤ q28 →
                                        dFact (Ty.int IntKind.i64) (↑x_2 : Int) ∧ dFact (Ty.int IntKind.i64) q55 ∧ dFact (((Ty.int IntKind.i64).prod (((Ty.int IntKind.i64).prod ((Ty.int IntKind.i64).prod ((Ty.int IntKind.i64).prod Ty.unit))).prod ((Ty.int IntKind.i64).prod Ty.unit))).slice.prod ((Ty.int IntKind.i64).slice.prod ((Ty.int IntKind.i64).slice.slice.prod ((Ty.int IntKind.i64).slice.prod Ty.unit)))) q57 ∧ True →
                                          q18 ∧
                                            (q58 = true →
                                                (q16 ∧ (↑(q56.length + q20) : Int) ≤ maxNew ∧ True ∧ q21 = q21 ∧ True) ∧
                                                  ((True ∧ True ∧ True ∧ q59 ∧ q17) ∧ True) ∧
                                                    (q62 = true →
                                                        q64 ∧
                                                          ∃ (y : Nat),
                                                            let q81 : List Int × Int := Sp.fromN q27 x.2.1 y;
                                                            y ≤ q28 ∧ q28 - y < q28 - x_2 ∧ q63 = (↑y : Int) ∧ q55 = q81.2 ∧ (q27, q65, q36) = (q27, q81.1, q36) ∧ q31) ∧
                                                      (q62 = false →
                                                        ((True ∧ True ∧ True ∧ True ∧ True ∧ True ∧ q59 ∧ True ∧ True ∧ True ∧ inN q66 q35.length ∧ True ∧ (↑(q20 + q67.length) : Int) ≤ maxNew ∧ True) ∧ True ∧ True) ∧
                                                          ((True ∧ True ∧ (0 : (AK.val tI).den) ≤ q55 ∧ True ∧ True) ∧ True) ∧
                                                            ((True ∧ inK IntKind.i64 q68 ∧ True ∧ True) ∧ True) ∧
                                                              ((True ∧ True ∧ True ∧ q59 ∧ True ∧ True ∧ True ∧ True ∧ True ∧ q71 ∧ (q70 → q25) ∧ q71 ∧ True ∧ True) ∧ True) ∧
                                                                (q73 = true →
                                                                    ((True ∧ True ∧ True ∧ True ∧ True ∧ True ∧ True ∧ inK IntKind.i64 q75 ∧ inN q75 q76 ∧ q77) ∧ True ∧ True) ∧
                                                                      q64 ∧
                                                                        ∃ (y : Nat),
                                                                          let q82 : List Int × Int := Sp.fromN q27 x.2.1 y;
                                                                          y ≤ q28 ∧ q28 - y < q28 - x_2 ∧ q63 = (↑y : Int) ∧ q68 = q82.2 ∧ (q27, q65.set q60 (q74.getD q75.toNat q0), q36) = (q27, q82.1, q36) ∧ q31) ∧
                                                                  (q73 = false →
                                                                    ((True ∧ True ∧ True ∧ True ∧ True ∧ (q25 ∧ inK IntKind.i64 q78) ∧ True ∧ True ∧ q79 ≠ q0 ∧ inN q80 q76 ∧ q77) ∧ True ∧ True) ∧
                                                                      q64 ∧
                                                                        ∃ (y : Nat),
                                                                          let q83 : List Int × Int := Sp.fromN q27 x.2.1 y;
                                                                          y ≤ q28 ∧ q28 - y < q28 - x_2 ∧ q63 = (↑y : Int) ∧ q68 = q83.2 ∧ (q27, q65.set q60 (q74.getD q80.toNat q0), q36) = (q27, q83.1, q36) ∧ q31))) ∧
                                              (q58 = false →
                                                q5 ∧
                                                  (∃ (x : Nat), x ≤ q26 ∧ q0 = (↑x : Int) ∧ q57 = (Sp.rounds q37 q27 x, q38) ∧ q31) ∧
                                                    ∀ (x_3 : Nat),
                                                      let q84 : List (Int × (Int × Int × Int × Unit) × Int × Unit) × List Int × List (List Int) × List Int × Unit := (Sp.rounds q37 q27 x_3, q38);
                                                      let q85 : Bool := decide ((↑x_3 : Int) < q24);
                                                      let q86 : Prop := q29 ∧ q30 ∧ q10 ∧ (↑x_3 : Int) = (↑x_3 : Int) ∧ True;
                                                      let q87 : Int := (↑x_3 : Int) + q15;
                                                      x_3 ≤ q26 →
                                                        dFact (Ty.int IntKind.i64) (↑x_3 : Int) ∧ dFact (((Ty.int IntKind.i64).prod (((Ty.int IntKind.i64).prod ((Ty.int IntKind.i64).prod ((Ty.int IntKind.i64).prod Ty.unit))).prod ((Ty.int IntKind.i64).prod Ty.unit))).slice.prod ((Ty.int IntKind.i64).slice.prod ((Ty.int IntKind.i64).slice.slice.prod ((Ty.int IntKind.i64).slice.prod Ty.unit)))) q84 ∧ True →
                                                          q3 ∧
                                                            (q85 = true →
                                                                q5 ∧
                                                                  (∃ (x : Nat), x ≤ q28 ∧ q0 = (↑x : Int) ∧ q84 = (Sp.rndN q37 (Sp.rounds q37 q27 x_3) x, q38) ∧ q86) ∧
                                                                    ∀ (x : Nat),
                                                                      let q88 : List (Int × (Int × Int × Int × Unit) × Int × Unit) := Sp.rndN q37 (Sp.rounds q37 q27 x_3) x;
                                                                      let q89 : List (Int × (Int × Int × Int × Unit) × Int × Unit) × List Int × List (List Int) × List Int × Unit := (q88, q38);
                                                                      let q90 : Nat := q88.length;
                                                                      let q91 : Int := (↑q90 : Int);
                                                                      let q92 : Bool := decide ((↑x : Int) < q91);
                                                                      let q93 : Prop := inN (↑x : Int) q90;
                                                                      let q94 : Nat := (↑x : Int).toNat;
                                                                      let q95 : Int × (Int × Int × Int × Unit) × Int × Unit := q88.getD q94 q23;
                                                                      let q96 : (Int × Int × Int × Unit) × Int × Unit := q95.2;
                                                                      let q97 : Int × Int × Int × Unit := q96.1;
                                                                      let q98 : Bool := Sp.reads q97;
                                                                      let q99 : Int := q37.getD q94 q0;
                                                                      let q100 : Int := (↑x : Int) + q15;
                                                                      let q101 : Prop := (True ∧ inK IntKind.i64 q100 ∧ True ∧ True) ∧ True;
                                                                      x ≤ q28 → dFact (Ty.int IntKind.i64) (↑x : Int) ∧ dFact (((Ty.int IntKind.i64).prod (((Ty.int IntKind.i64).prod ((Ty.int IntKind.i64).prod ((Ty.int IntKind.i64).prod Ty.unit))).prod ((Ty.int IntKind.i64).prod Ty.unit))).slice.prod ((Ty.int IntKind.i64).slice.prod ((Ty.int IntKind.i64).slice.slice.prod ((Ty.int IntKind.i64).slice.prod Ty.unit)))) q89 ∧ True → q18 ∧ (q92 = true → ((True ∧ True ∧ True ∧ q93 ∧ q16) ∧ True) ∧ (q98 = true → ((True ∧ True ∧ True ∧ True ∧ True ∧ True ∧ True ∧ inN (↑x : Int) q37.length ∧ True ∧ q99 < q91 ∧ q93 ∧ True ∧ True) ∧ True ∧ True) ∧ q101 ∧ ∃ (y : Nat), y ≤ q28 ∧ q28 - y < q28 - x ∧ q100 = (↑y : Int) ∧ (q88.set q94 (q95.1, q97, Sp.value q88 q99, q96.2.2), q38) = (Sp.rndN q37 (Sp.rounds q37 q27 x_3) y, q38) ∧ q86) ∧ (q98 = false → q101 ∧ ∃ (y : Nat), y ≤ q28 ∧ q28 - y < q28 - x ∧ q100 = (↑y : Int) ∧ q89 = (Sp.rndN q37 (Sp.rounds q37 q27 x_3) y, q38) ∧ q86)) ∧ (q92 = false → ((True ∧ inK IntKind.i64 q87 ∧ True ∧ True) ∧ True) ∧ ∃ (y : Nat), y ≤ q26 ∧ q26 - y < q26 - x_3 ∧ q87 = (↑y : Int) ∧ q89 = (Sp.rounds q37 q27 y, q38) ∧ q31)) ∧
                                                              (q85 = false → ((True ∧ True) ∧ True ∧ True) ∧ q84 = Sp.graph x.1 x.2.1)))) := by kernel_rfl
theorem vc30 : funI C30 (stpP C30) S30 L30 Try.f30 = (
let q0 : Int := (0 : Int);
let q1 : Nat := (100 : Nat);
let q2 : Nat := (3 : Nat);
let q3 : Prop := True ∧ True ∧ True;
let q4 : Prop := q3 ∧ True;
let q5 : Prop := q3 ∧ True ∧ True;
let q6 : Prop := (True ∧ True) ∧ True;
let q7 : List Int := ([] : List (Ty.int IntKind.u8).den);
let q8 : Nat := (8 : Nat);
let q9 : List (Int × (Int × Int × Int × Unit) × Int × Unit) × List Int × List (List Int) × List Int × Unit := (([] : List tLEv.den), ([] : List tI.den), ([] : List tI.slice.den), ([] : List tI.den), ());
let q10 : Prop := q9 = q9;
let q11 : Prop := q10 ∧ True;
let q12 : Int × Unit := (q0, ());
let q13 : Int × (Int × Int × Int × Unit) × Int × Unit := (q0, (q0, q0, q12), q12);
let q14 : Int := (1 : Int);
∀ (x : (List (List (Int × Int × Int × Unit)) × Unit) × List Int × List Int × Unit),
  let q15 : List (Int × (Int × Int × Int × Unit) × Int × Unit) := Sp.evs q0 x.1.1;
  let q16 : Nat := q15.length;
  let q17 : Prop := q16 ≤ q1 ∧ ∀ (x : Sp.LEv), x ∈ q15 → inN x.2.1.2.1 q2;
  let q18 : Nat := x.2.1.length;
  let q19 : List Int × Unit := (x.2.2.1, ());
  let q20 : List (Int × (Int × Int × Int × Unit) × Int × Unit) := Sp.rounds (Sp.fromN q15 (([] : List Int)) q16).1 q15 q8;
  let q21 : List Int × List (List Int) × List Int × Unit := (x.2.1, Sp.mo3 q15 (([] : List Int)), q19);
  let q22 : Prop := x.2.1 = x.2.1;
  let q23 : Prop := x.2.2.1 = x.2.2.1;
  let q24 : Prop := x.1 = x.1;
  let q25 : Prop := q22 ∧ q23 ∧ q24 ∧ q11;
  (q17 ∧ q18 = q16 ∧ ∀ (v : Int), v ∈ x.2.1 → v < (↑q16 : Int)) →
    dFact (((Ty.int IntKind.i64).prod ((Ty.int IntKind.i64).prod ((Ty.int IntKind.i64).prod Ty.unit))).slice.slice.prod Ty.unit) x.1 ∧ dFact (Ty.int IntKind.i64).slice x.2.1 ∧ dFact (Ty.int IntKind.i64).slice x.2.2.1 ∧ True →
      q4 ∧
        ((True ∧ q17 ∧ True ∧ True) ∧ True ∧ True) ∧
          q5 ∧
            q5 ∧
              q6 ∧
                (∃ (x_1 : Nat), x_1 ≤ q2 ∧ q0 = (↑x_1 : Int) ∧ (Sp.rounds (Sp.fromN q15 q7 q16).1 q15 q8, x.2.1, Sp.mo3 q15 q7, q19) = (Sp.stGR x.2.1 q20 x_1, q21) ∧ q25) ∧
                  ∀ (x_1 : Nat),
                    let q26 : List (Int × (Int × Int × Int × Unit) × Int × Unit) := Sp.stGR x.2.1 q20 x_1;
                    let q27 : List (Int × (Int × Int × Int × Unit) × Int × Unit) × List Int × List (List Int) × List Int × Unit := (q26, q21);
                    let q28 : Bool := decide ((↑x_1 : Int) < (3 : Int));
                    let q29 : Prop := q22 ∧ q23 ∧ q24 ∧ q10 ∧ (↑x_1 : Int) = (↑x_1 : Int) ∧ True;
                    let q30 : Int := (↑x_1 : Int) + q14;
                    x_1 ≤ q2 →
                      dFact (Ty.int IntKind.i64) (↑x_1 : Int) ∧ dFact (((Ty.int IntKind.i64).prod (((Ty.int IntKind.i64).prod ((Ty.int IntKind.i64).prod ((Ty.int IntKind.i64).prod Ty.unit))).prod ((Ty.int IntKind.i64).prod Ty.unit))).slice.prod ((Ty.int IntKind.i64).slice.prod ((Ty.int IntKind.i64).slice.slice.prod ((Ty.int IntKind.i64).slice.prod Ty.unit)))) q27 ∧ True →
                        q4 ∧
                          (q28 = true →
                              q6 ∧
                                (∃ (x_2 : Nat), x_2 ≤ q16 ∧ q0 = (↑x_2 : Int) ∧ q27 = (Sp.stGN x.2.1 q26 x_2, q21) ∧ q29) ∧
                                  ∀ (x_2 : Nat),
                                    let q31 : List (Int × (Int × Int × Int × Unit) × Int × Unit) := Sp.stGN x.2.1 q26 x_2;
                                    let q32 : List (Int × (Int × Int × Int × Unit) × Int × Unit) × List Int × List (List Int) × List Int × Unit := (q31, q21);
                                    let q33 : Nat := q31.length;
                                    let q34 : Bool := decide ((↑x_2 : Int) < (↑q33 : Int));
                                    let q35 : Prop := inN (↑x_2 : Int) q18;
                                    let q36 : Nat := (↑x_2 : Int).toNat;
                                    let q37 : Int := x.2.1.getD q36 q0;
                                    let q38 : Bool := decide (q37 ≥ q0);
                                    let q39 : Int × (Int × Int × Int × Unit) × Int × Unit := q31.getD q36 q13;
                                    let q40 : (Int × Int × Int × Unit) × Int × Unit := q39.2;
                                    let q41 : List (Int × (Int × Int × Int × Unit) × Int × Unit) := q31.set q36 (q39.1, q40.1, q0, q40.2.2);
                                    let q42 : Nat := q41.length;
                                    let q43 : Int := (↑x_2 : Int) + q14;
                                    let q44 : Prop := (True ∧ inK IntKind.i64 q43 ∧ True ∧ True) ∧ True;
                                    let q45 : Int × (Int × Int × Int × Unit) × Int × Unit := q41.getD q36 q13;
                                    let q46 : (Int × Int × Int × Unit) × Int × Unit := q45.2;
                                    x_2 ≤ q16 → dFact (Ty.int IntKind.i64) (↑x_2 : Int) ∧ dFact (((Ty.int IntKind.i64).prod (((Ty.int IntKind.i64).prod ((Ty.int IntKind.i64).prod ((Ty.int IntKind.i64).prod Ty.unit))).prod ((Ty.int IntKind.i64).prod Ty.unit))).slice.prod ((Ty.int IntKind.i64).slice.prod ((Ty.int IntKind.i64).slice.slice.prod ((Ty.int IntKind.i64).slice.prod Ty.unit)))) q32 ∧ True → ((True ∧ True ∧ True ∧ q3) ∧ True) ∧ (q34 = true → ((True ∧ True ∧ True ∧ inN (↑x_2 : Int) q33 ∧ True ∧ True) ∧ True ∧ True) ∧ ((True ∧ True ∧ q35 ∧ q3) ∧ True) ∧ (q38 = true → ((True ∧ True ∧ True ∧ True ∧ True ∧ True ∧ True ∧ q35 ∧ True ∧ inN q37 q42 ∧ True ∧ True ∧ True ∧ inN (↑x_2 : Int) q42 ∧ True ∧ True) ∧ True ∧ True) ∧ q44 ∧ ∃ (y : Nat), y ≤ q16 ∧ q16 - y < q16 - x_2 ∧ q43 = (↑y : Int) ∧ (q41.set q36 (q45.1, q46.1, (q41.getD q37.toNat q13).2.1.2.2.1, q46.2.2), q21) = (Sp.stGN x.2.1 q26 y, q21) ∧ q29) ∧ (q38 = false → q44 ∧ ∃ (y : Nat), y ≤ q16 ∧ q16 - y < q16 - x_2 ∧ q43 = (↑y : Int) ∧ (q41, q21) = (Sp.stGN x.2.1 q26 y, q21) ∧ q29)) ∧ (q34 = false → ((True ∧ inK IntKind.i64 q30 ∧ True ∧ True) ∧ True) ∧ ∃ (y : Nat), y ≤ q2 ∧ q2 - y < q2 - x_1 ∧ q30 = (↑y : Int) ∧ q32 = (Sp.stGR x.2.1 q20 y, q21) ∧ q25)) ∧
                            (q28 = false → ((True ∧ True) ∧ True ∧ True) ∧ q27 = Sp.gr x.1 x.2.1 x.2.2.1)) := by kernel_rfl
end Go.User
