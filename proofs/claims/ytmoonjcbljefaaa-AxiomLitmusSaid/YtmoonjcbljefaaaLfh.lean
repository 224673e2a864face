/- Lists of events, the relations, whether lists are right: what is computed. -/
import Derived.Test.YtmoonjcbljefaaaLfg
set_option linter.unusedVariables false
set_option linter.unusedSimpArgs false
namespace Sp
def mkEv (c : Int) (o : LOp) : LEv := (c, o, 0, ())
def evs : Int → List (List LOp) → List LEv
  | _, [] => []
  | c, l :: ls => l.map (mkEv c) ++ evs (c + 1) ls
/-- The numbers below n with a property. -/
def sel (p : Nat → Bool) (n : Nat) : List Int := ((List.range n).filter p).map (fun (i : Nat) => (i : Int))
def wr (e : List LEv) (x : Int) : List Int := sel (fun i => writes (ev e i).2.1 && decide ((ev e i).2.1.2.1 = x)) e.length
def fen (e : List LEv) : List Int := sel (fun i => decide ((ev e i).2.1.1 = 4)) e.length
def shuf : Nat → List Int → List Int → Int → List Int
  | 0, _, _, _ => []
  | n + 1, l, b, i => l.getD ((byteAt b i).tmod (l.length : Int)).toNat 0 :: shuf n (l.eraseIdx ((byteAt b i).tmod (l.length : Int)).toNat) b (i + 1)
def shuffled (l b : List Int) (i : Int) : List Int := shuf l.length l b i
def get2 (r : Rel) (a b : Nat) : Bool := (r.getD a (List.replicate 6 false)).getD b false
def upd2 (r : Rel) (a b : Nat) (v : Bool) : Rel := r.set a ((r.getD a (List.replicate 6 false)).set b v)
def stepB (k a : Nat) (r : Rel) (b : Nat) : Rel := upd2 r a b (get2 r a b || (get2 r a k && get2 r k b))
def rowB (k a : Nat) (r : Rel) (n : Nat) : Rel := (List.range n).foldl (stepB k a) r
def rowA (k : Nat) (r : Rel) (n : Nat) : Rel := (List.range n).foldl (fun r a => rowB k a r 6) r
def closeN (r : Rel) (n : Nat) : Rel := (List.range n).foldl (fun r k => rowA k r 6) r
def close (r : Rel) : Rel := closeN r 6
def round (r : Rel) : Bool := (List.range 6).any fun a => get2 r a a
def mat (f : Nat → Nat → Bool) : Rel := (List.range 6).map fun a => (List.range 6).map fun b => f a b
/-- Ordered by the program, or by the fences. -/
def ordF (e : List LEv) (fo : List Int) (a b : Nat) : Bool :=
  (decide (a < b) && decide (b < e.length) && decide ((ev e a).1 = (ev e b).1)) || (List.range fo.length).any fun j => (List.range j).any fun i => decide (fo.getD i 0 = a) && decide (fo.getD j 0 = b)
def oA (e : List LEv) (i a b : Nat) : Bool := decide (a < i) && ordF e [] a b
def oB (e : List LEv) (i k a b : Nat) : Bool := (decide (a < i) || (decide (a = i) && decide (b < k))) && ordF e [] a b
def fo2 (fo : List Int) (p q a b : Nat) : Bool := decide (fo.getD p 0 = (a : Int)) && decide (fo.getD q 0 = (b : Int))
def oC (e : List LEv) (fo : List Int) (i a b : Nat) : Bool := ordF e [] a b || (List.range i).any fun p => (List.range fo.length).any fun q => decide (p < q) && fo2 fo p q a b
def oD (e : List LEv) (fo : List Int) (i k a b : Nat) : Bool := oC e fo i a b || (List.range k).any fun q => fo2 fo i (i + 1 + q) a b
def order (g : Gr) : Rel := mat (ordF g.1 g.2.2.2.1)
def plc (g : Gr) (n : Int) : Int × Int × Unit :=
  (idx (g.2.2.1.getD (ev g.1 n).2.1.2.1.toNat []) n, idx (g.2.2.1.getD (ev g.1 n).2.1.2.1.toNat []) (g.2.1.getD n.toNat 0), ())
/-- A list has exactly the events of a kind, each once. -/
def isList (l : List Int) (e : List LEv) (is : LOp → Bool) : Bool :=
  decide (l.Nodup ∧ ∀ n ∈ l, 0 ≤ n ∧ n < e.length ∧ is (ev e n).2.1 = true) && decide (∀ n < e.length, is (ev e n).2.1 = true → (n : Int) ∈ l)
def valid (t : Lit) : Bool :=
  decide (1 ≤ t.1.length) && decide (t.1.length ≤ 4) && decide (1 ≤ (evs 0 t.1).length) && decide ((evs 0 t.1).length ≤ 6) && (evs 0 t.1).all fun x => usual x.2.1
end Sp
namespace Go.User
open Go.Lf
-- events, Events
def S41 : FSpec := { args := [.val tLit], multi := false, res := .slice tLEv, mode := .own .shr, pre := fun x => (Sp.evs 0 x.1.1).length ≤ 1000, fn := fun x => Sp.evs 0 x.1.1 }
def C41 : Ctx := mkC 31 []
def L41 (x : kdens S41.args) : List LoopI := [
  { ι := Nat × List Sp.LEv, inv := fun i => i.1 ≤ x.1.1.length ∧ i.2 = Sp.evs 0 (x.1.1.take i.1), dec := fun i => x.1.1.length - i.1, ovr := fun i => [(11, .shr tI (i.1 : Int)), (3, .own (.slice tLEv) (.own .shr) i.2)], keep := [1, 9, 10], sub := fun i => [
    { ι := Nat × List Sp.LEv, inv := fun k => k.1 ≤ (x.1.1.getD i.1 []).length ∧ k.2 = Sp.evs 0 (x.1.1.take i.1) ++ ((x.1.1.getD i.1 []).take k.1).map (Sp.mkEv (i.1 : Int)), dec := fun k => (x.1.1.getD i.1 []).length - k.1, ovr := fun k => [(18, .shr tI (k.1 : Int)), (3, .own (.slice tLEv) (.own .shr) k.2)], keep := [1, 9, 10, 11, 4, 16, 17] }] }]
def S33 := S41
def C33 : Ctx := mkC 38 []
def L33 (x : kdens S41.args) : List LoopI := [
  { ι := Nat × List Sp.LEv, inv := fun i => i.1 ≤ x.1.1.length ∧ i.2 = Sp.evs 0 (x.1.1.take i.1), dec := fun i => x.1.1.length - i.1, ovr := fun i => [(4, .shr tI (i.1 : Int)), (3, .own (.slice tLEv) (.own .shr) i.2)], keep := [1], sub := fun i => [
    { ι := Nat × List Sp.LEv, inv := fun k => k.1 ≤ (x.1.1.getD i.1 []).length ∧ k.2 = Sp.evs 0 (x.1.1.take i.1) ++ ((x.1.1.getD i.1 []).take k.1).map (Sp.mkEv (i.1 : Int)), dec := fun k => (x.1.1.getD i.1 []).length - k.1, ovr := fun k => [(5, .shr tI (k.1 : Int)), (3, .own (.slice tLEv) (.own .shr) k.2)], keep := [1, 4] }] }]
-- Writes, Fences
def S34 : FSpec := { args := [.val (.slice tLEv), .val tI], multi := false, res := .slice tI, mode := .own .shr, pre := fun x => List.length x.1 ≤ 1000, fn := fun x => Sp.wr x.1 x.2.1 }
def C34 : Ctx := mkC 35 [(32, S32)]
def L34 (x : kdens S34.args) : List LoopI := [
  { ι := Nat × List Int, inv := fun i => i.1 ≤ List.length x.1 ∧ i.2 = Sp.sel (fun i => Sp.writes (Sp.ev x.1 i).2.1 && decide ((Sp.ev x.1 i).2.1.2.1 = x.2.1)) i.1, dec := fun i => List.length x.1 - i.1, ovr := fun i => [(6, .shr tI (i.1 : Int)), (5, .own (.slice tI) (.own .shr) i.2)], keep := [0, 1] }]
def S36 : FSpec := { args := [.val (.slice tLEv)], multi := false, res := .slice tI, mode := .own .shr, pre := fun x => List.length x.1 ≤ 1000, fn := fun x => Sp.fen x.1 }
def C36 : Ctx := mkC 24 []
def L36 (x : kdens S36.args) : List LoopI := [
  { ι := Nat × List Int, inv := fun i => i.1 ≤ List.length x.1 ∧ i.2 = Sp.sel (fun i => decide ((Sp.ev x.1 i).2.1.1 = 4)) i.1, dec := fun i => List.length x.1 - i.1, ovr := fun i => [(4, .shr tI (i.1 : Int)), (3, .own (.slice tI) (.own .shr) i.2)], keep := [0] }]
-- shuffled
def S35 : FSpec := { args := [.val (.slice tI), .val (.slice (.int .u8)), .val tI], multi := false, res := .slice tI, mode := .own .shr, pre := fun x => List.length x.1 ≤ 1000 ∧ (0 : Int) ≤ x.2.2.1 ∧ (x.2.2.1 : Int) ≤ 1000, fn := fun x => Sp.shuffled x.1 x.2.1 x.2.2.1 }
def C35 : Ctx := mkC 43 [(38, S38)]
def L35 (x : kdens S35.args) : List LoopI := [
  { ι := List Int × List Int × Int, inv := fun i => i.1.length + i.2.1.length = List.length x.1 ∧ (0 : Int) ≤ i.2.2 ∧ i.2.2 + i.2.1.length = x.2.2.1 + List.length x.1 ∧ i.1 ++ Sp.shuf i.2.1.length i.2.1 x.2.1 i.2.2 = Sp.shuffled x.1 x.2.1 x.2.2.1, dec := fun i => i.2.1.length, ovr := fun i => [(7, .own (.slice tI) (.own .shr) i.1), (8, .own (.slice tI) (.own .shr) i.2.1), (2, .shr tI i.2.2)], keep := [0, 1] }]
-- where
def S53 : FSpec := { args := [.val tGr, .val tI], multi := false, res := tPl, mode := .shr, pre := fun x => inN x.2.1 (List.length x.1.1) ∧ inN x.2.1 (List.length x.1.2.1) ∧ inN (Sp.ev x.1.1 x.2.1).2.1.2.1 (List.length x.1.2.2.1), fn := fun x => Sp.plc x.1 x.2.1 }
def C53 : Ctx := mkC 31 [(63, S63)]
def L53 (x : kdens S53.args) : List LoopI := []
-- close, round
def S51 : PSpec := { τ := tRel, pre := fun _ => True, fn := fun r => Sp.close r }
def C51 : Ctx := { mkC 48 [] with p0 := true }
def L51 (x : S51.τ.den) : List LoopI := [
  { ι := Nat × Sp.Rel, inv := fun i => i.1 ≤ 6 ∧ i.2 = Sp.closeN x i.1, dec := fun i => 6 - i.1, ovr := fun i => [(5, .shr tI (i.1 : Int)), (0, .box tRel .shr i.2)], keep := [], sub := fun i => [
    { ι := Nat × Sp.Rel, inv := fun a => a.1 ≤ 6 ∧ a.2 = Sp.rowA i.1 (Sp.closeN x i.1) a.1, dec := fun a => 6 - a.1, ovr := fun a => [(8, .shr tI (a.1 : Int)), (0, .box tRel .shr a.2)], keep := [5, 2], sub := fun a => [
      { ι := Nat × Sp.Rel, inv := fun b => b.1 ≤ 6 ∧ b.2 = Sp.rowB i.1 a.1 (Sp.rowA i.1 (Sp.closeN x i.1) a.1) b.1, dec := fun b => 6 - b.1, ovr := fun b => [(11, .shr tI (b.1 : Int)), (0, .box tRel .shr b.2)], keep := [5, 2, 8, 3] }] }] }]
def S52 : FSpec := { args := [.sptr tRel], multi := false, res := .bool, mode := .shr, pre := fun _ => True, fn := fun x => Sp.round x.1 }
def C52 : Ctx := mkC 15 []
def L52 (x : kdens S52.args) : List LoopI := [
  { ι := Nat, inv := fun i => i ≤ 6 ∧ ∀ a < i, Sp.get2 x.1 a a = false, dec := fun i => 6 - i, ovr := fun i => [(4, .shr tI (i : Int))], keep := [0] }]
-- order
def S50 : FSpec := { args := [.val tGr], multi := false, res := tRel, mode := .shr, pre := fun x => List.length x.1.1 ≤ 6 ∧ ∀ n ∈ (x.1.2.2.2.1 : List Int), inN n 6, fn := fun x => Sp.order x.1 }
def mRel : Md := .own (.own .shr)
def C50 : Ctx := mkC 68 []
def L50 (x : kdens S50.args) : List LoopI := [
  { ι := Nat, inv := fun i => i ≤ List.length x.1.1, dec := fun i => List.length x.1.1 - i, ovr := fun i => [(13, .shr tI (i : Int)), (3, .box tRel mRel (Sp.mat (Sp.oA x.1.1 i)))], keep := [1, 2, 11, 12], sub := fun i => [
    { ι := Nat, inv := fun k => i < k ∧ k ≤ List.length x.1.1, dec := fun k => List.length x.1.1 - k, ovr := fun k => [(5, .shr tI (k : Int)), (3, .box tRel mRel (Sp.mat (Sp.oB x.1.1 i k)))], keep := [1, 2, 11, 12, 13, 4] }] },
  { ι := Nat, inv := fun i => i ≤ List.length x.1.2.2.2.1, dec := fun i => List.length x.1.2.2.2.1 - i, ovr := fun i => [(46, .shr tI (i : Int)), (3, .box tRel mRel (Sp.mat (Sp.oC x.1.1 x.1.2.2.2.1 i)))], keep := [1, 2, 44, 45], sub := fun i => [
    { ι := Nat, inv := fun k => i + 1 + k ≤ List.length x.1.2.2.2.1, dec := fun k => List.length x.1.2.2.2.1 - k, ovr := fun k => [(57, .shr tI (k : Int)), (3, .box tRel mRel (Sp.mat (Sp.oD x.1.1 x.1.2.2.2.1 i k)))], keep := [1, 2, 44, 45, 46, 6, 7, 55, 56] }] }]
-- isList
def S45 : FSpec := { args := [.val (.slice tI), .val (.slice tLEv), .fn [tLOp] .bool], multi := false, res := .bool, mode := .shr, pre := fun x => List.length x.2.1 ≤ 1000 ∧ ∀ o, x.2.2.1.pre (o, ()), fn := fun x => Sp.isList x.1 x.2.1 (fun o => x.2.2.1.fn (o, ())) }
def C45 : Ctx := mkC 68 []
def L45 (x : kdens S45.args) : List LoopI := [
  { ι := Nat × List Bool, inv := fun i => i.1 ≤ List.length x.1 ∧ i.2.length = List.length x.2.1 ∧ (List.take i.1 x.1).Nodup ∧ (∀ n ∈ (List.take i.1 x.1 : List Int), 0 ≤ n ∧ n < (List.length x.2.1 : Int) ∧ x.2.2.1.fn ((Sp.ev x.2.1 n).2.1, ()) = true) ∧ ∀ n < List.length x.2.1, (i.2.getD n false = true ↔ (n : Int) ∈ (List.take i.1 x.1 : List Int)), dec := fun i => List.length x.1 - i.1, ovr := fun i => [(16, .shr tI (i.1 : Int)), (7, .own (.slice .bool) (.own .shr) i.2)], keep := [0, 1, 2, 14, 15] },
  { ι := Nat, inv := fun i => i ≤ List.length x.2.1 ∧ ∀ n < i, x.2.2.1.fn ((Sp.ev x.2.1 n).2.1, ()) = true → (n : Int) ∈ (x.1 : List Int), dec := fun i => List.length x.2.1 - i, ovr := fun i => [(50, .shr tI (i : Int))], keep := [0, 1, 2, 7, 48, 49] }]
-- Valid
def S21 : FSpec := { args := [.val tLit], multi := false, res := .bool, mode := .shr, pre := fun x => (Sp.evs 0 x.1.1).length ≤ 1000, fn := fun x => Sp.valid x.1 }
def C21 : Ctx := mkC 31 [(41, S41), (60, S60), (61, S61)]
def L21 (x : kdens S21.args) : List LoopI := []
end Go.User
