/- Graphs out of bytes; fixed examples: what is computed. Tests out of bytes; the fixed examples; the law of coherence: what is computed. One operation after the other on a memory; the law of sequential executions: what is computed. The law of fences: what is computed. Written by gen.py: what is left to show of each function. Written by gen.py: what is left to show of each function. Written by gen.py: what is left to show of each function. Written by gen.py: what is left to show of each function. -/
import Derived.Test.YtmoonjcbljefaaaLff
set_option linter.unusedVariables false
set_option linter.unusedSimpArgs false
namespace Sp
def moN (e : List LEv) (b : List Int) : Nat → List (List Int) × Int
  | 0 => ([], 0)
  | n + 1 => ((moN e b n).1 ++ [shuffled (wr e n) b (moN e b n).2], (moN e b n).2 + ((wr e n).length : Int))
def mo3 (e : List LEv) (b : List Int) : List (List Int) := (moN e b 3).1
def foOf (e : List LEv) (b : List Int) : List Int := shuffled (fen e) b (moN e b 3).2
def i4 (e : List LEv) (b : List Int) : Int := (moN e b 3).2 + ((foOf e b).length : Int)
def pickF (e : List LEv) (mo : List (List Int)) (b : List Int) (i : Int) (n : Nat) : Int :=
  if (ev e n).2.1.1 = 3 ∧ (byteAt b i).tmod 8 ≠ 7 then ([-1] ++ mo.getD (ev e n).2.1.2.1.toNat []).getD (idx ([-1] ++ mo.getD (ev e n).2.1.2.1.toNat []) n - 1).toNat 0
  else ([-1] ++ mo.getD (ev e n).2.1.2.1.toNat []).getD (((byteAt b i).tdiv 8).tmod (([-1] ++ mo.getD (ev e n).2.1.2.1.toNat []).length : Int)).toNat 0
def fromN (e : List LEv) (b : List Int) : Nat → List Int × Int
  | 0 => ([], i4 e b)
  | n + 1 => if reads (ev e n).2.1 = true then ((fromN e b n).1 ++ [pickF e (mo3 e b) b (fromN e b n).2 n], (fromN e b n).2 + 1) else ((fromN e b n).1 ++ [-1], (fromN e b n).2)
def setR (e : List LEv) (n : Nat) (v : Int) : List LEv := e.set n ((ev e n).1, (ev e n).2.1, v, ())
def rnd (frm : List Int) (e : List LEv) (n : Nat) : List LEv := if reads (ev e n).2.1 = true then setR e n (value e (frm.getD n 0)) else e
def rndN (frm : List Int) (e : List LEv) (n : Nat) : List LEv := (List.range n).foldl (rnd frm) e
def rounds (frm : List Int) (e : List LEv) (r : Nat) : List LEv := (List.range r).foldl (fun e _ => rndN frm e e.length) e
def graph (t : Lit) (b : List Int) : Gr :=
  (rounds (fromN (evs 0 t.1) b (evs 0 t.1).length).1 (evs 0 t.1) 8, (fromN (evs 0 t.1) b (evs 0 t.1).length).1, mo3 (evs 0 t.1) b, foOf (evs 0 t.1) b, ())
def stG (frm : List Int) (e : List LEv) (n : Nat) : List LEv := if 0 ≤ frm.getD n 0 then setR (setR e n 0) n (ev (setR e n 0) (frm.getD n 0)).2.1.2.2.1 else setR e n 0
def stGN (frm : List Int) (e : List LEv) (n : Nat) : List LEv := (List.range n).foldl (stG frm) e
def stGR (frm : List Int) (e : List LEv) (r : Nat) : List LEv := (List.range r).foldl (fun e _ => stGN frm e e.length) e
def gr (t : Lit) (frm fo : List Int) : Gr := (stGR frm (graph t []).1 3, frm, (graph t []).2.2.1, fo, ())
end Sp
namespace Go.User
open Go.Lf
def mGr : Md := .pair (.own .shr) (.pair (.own .shr) (.pair (.own (.own .shr)) (.pair (.own .shr) .shr)))
def fine (t : Sp.Lit) : Prop := (Sp.evs 0 t.1).length ≤ 100 ∧ ∀ x ∈ Sp.evs 0 t.1, inN x.2.1.2.1 3
def S12 : FSpec := { args := [.val tLit, .val (.slice (.int .u8))], multi := false, res := tGr, mode := mGr, pre := fun x => fine x.1, fn := fun x => Sp.graph x.1 x.2.1 }
def C12 : Ctx := { mkC 155 [(33, S33), (34, S34), (35, S35), (36, S36), (37, S37), (38, S38), (39, S39), (40, S40)] with mds := [(16, mGr), (5, mGr), (4, mGr), (31, .own (.own .shr))] }
def L12 (x : kdens S12.args) : List LoopI := [
  { ι := Nat, inv := fun i => i ≤ 3, dec := fun i => 3 - i, ovr := fun i => [(7, .shr tI (i : Int)), (6, .shr tI (Sp.moN (Sp.evs 0 x.1.1) x.2.1 i).2), (5, .box tGr mGr (Sp.evs 0 x.1.1, [], (Sp.moN (Sp.evs 0 x.1.1) x.2.1 i).1, [], ()))], keep := [1, 2, 4] },
  { ι := Nat, inv := fun n => n ≤ (Sp.evs 0 x.1.1).length, dec := fun n => (Sp.evs 0 x.1.1).length - n, ovr := fun n => [(9, .shr tI (n : Int)), (6, .shr tI (Sp.fromN (Sp.evs 0 x.1.1) x.2.1 n).2), (5, .box tGr mGr (Sp.evs 0 x.1.1, (Sp.fromN (Sp.evs 0 x.1.1) x.2.1 n).1, Sp.mo3 (Sp.evs 0 x.1.1) x.2.1, Sp.foOf (Sp.evs 0 x.1.1) x.2.1, ()))], keep := [1, 2, 4] },
  { ι := Nat, inv := fun r => r ≤ 8, dec := fun r => 8 - r, ovr := fun r => [(12, .shr tI (r : Int)), (5, .box tGr mGr (Sp.rounds (Sp.fromN (Sp.evs 0 x.1.1) x.2.1 (Sp.evs 0 x.1.1).length).1 (Sp.evs 0 x.1.1) r, (Sp.fromN (Sp.evs 0 x.1.1) x.2.1 (Sp.evs 0 x.1.1).length).1, Sp.mo3 (Sp.evs 0 x.1.1) x.2.1, Sp.foOf (Sp.evs 0 x.1.1) x.2.1, ()))], keep := [1, 2, 4], sub := fun r => [
    { ι := Nat, inv := fun n => n ≤ (Sp.evs 0 x.1.1).length, dec := fun n => (Sp.evs 0 x.1.1).length - n, ovr := fun n => [(13, .shr tI (n : Int)), (5, .box tGr mGr (Sp.rndN (Sp.fromN (Sp.evs 0 x.1.1) x.2.1 (Sp.evs 0 x.1.1).length).1 (Sp.rounds (Sp.fromN (Sp.evs 0 x.1.1) x.2.1 (Sp.evs 0 x.1.1).length).1 (Sp.evs 0 x.1.1) r) n, (Sp.fromN (Sp.evs 0 x.1.1) x.2.1 (Sp.evs 0 x.1.1).length).1, Sp.mo3 (Sp.evs 0 x.1.1) x.2.1, Sp.foOf (Sp.evs 0 x.1.1) x.2.1, ()))], keep := [1, 2, 4, 12] }] }]
def mG3 : Md := .pair (.own .shr) (.pair .shr (.pair (.own (.own .shr)) (.pair .shr .shr)))
def S30 : FSpec := { args := [.val tLit, .val (.slice tI), .val (.slice tI)], multi := false, res := tGr, mode := .shr, pre := fun x => fine x.1 ∧ (x.2.1 : List Int).length = (Sp.evs 0 x.1.1).length ∧ ∀ v ∈ (x.2.1 : List Int), v < ((Sp.evs 0 x.1.1).length : Int), fn := fun x => Sp.gr x.1 x.2.1 x.2.2.1 }
def C30 : Ctx := mkC 53 [(12, S12)]
def L30 (x : kdens S30.args) : List LoopI := [
  { ι := Nat, inv := fun r => r ≤ 3, dec := fun r => 3 - r, ovr := fun r => [(8, .shr tI (r : Int)), (7, .box tGr mG3 (Sp.stGR x.2.1 (Sp.graph x.1 []).1 r, x.2.1, (Sp.graph x.1 []).2.2.1, x.2.2.1, ()))], keep := [1, 2, 3, 6], sub := fun r => [
    { ι := Nat, inv := fun n => n ≤ (Sp.evs 0 x.1.1).length, dec := fun n => (Sp.evs 0 x.1.1).length - n, ovr := fun n => [(9, .shr tI (n : Int)), (7, .box tGr mG3 (Sp.stGN x.2.1 (Sp.stGR x.2.1 (Sp.graph x.1 []).1 r) n, x.2.1, (Sp.graph x.1 []).2.2.1, x.2.2.1, ()))], keep := [1, 2, 3, 6, 8] }] }]
end Go.User
namespace Sp
def nC (b : List Int) : Int := if 0 < b.length then 1 + b.getD 0 0 % 4 else 1
def opOf (b : List Int) (i : Nat) : LOp :=
  (1 + b.getD i 0 % 4, if (1 + b.getD i 0 % 4) = 4 then 0 else (b.getD i 0 / 4).tmod 3, if (1 + b.getD i 0 % 4) = 2 ∨ (1 + b.getD i 0 % 4) = 3 then 1 + (b.getD (i + 1) 0 / 4).tmod 9 else 0, ())
def addOp (P : List (List LOp)) (c : Int) (o : LOp) : List (List LOp) := P.set c.toNat (P.getD c.toNat [] ++ [o])
def madeN (b : List Int) : Nat → List (List LOp)
  | 0 => List.replicate (nC b).toNat []
  | k + 1 => addOp (madeN b k) ((b.getD (2 * k + 2) 0).tmod (nC b)) (opOf b (2 * k + 1))
def nK (b : List Int) : Nat := min 6 ((b.length - 1) / 2)
def madeP (b : List Int) : List (List LOp) := if (evs 0 (madeN b (nK b))).length = 0 then (madeN b (nK b)).set 0 [(1, 0, 0, ())] else madeN b (nK b)
def gE (t : Lit) (b : List Int) : List LEv := (graph t b).1
def gF (t : Lit) (b : List Int) : List Int := (graph t b).2.1
def gM (t : Lit) (b : List Int) : List (List Int) := (graph t b).2.2.1
def gO (t : Lit) (b : List Int) : List Int := (graph t b).2.2.2.1
end Sp
namespace Go.User
open Go.Lf
def mLit : Md := .pair (.own (.own .shr)) .shr
def S11 : FSpec := { args := [.val (.slice (.int .u8))], multi := false, res := tLit, mode := mLit, pre := fun _ => True, fn := fun x => (Sp.madeP x.1, ()) }
def S12c : FSpec := { args := [.val tLit, .val (.slice (.int .u8))], multi := false, res := tGr, mode := mGr, pre := fun x => fine x.1, fn := fun x => (Sp.gE x.1 x.2.1, Sp.gF x.1 x.2.1, Sp.gM x.1 x.2.1, Sp.gO x.1 x.2.1, ()) }
def C11 : Ctx := { mkC 104 [(32, S32), (33, S33)] with mds := [(10, .own (.own .shr)), (11, mLit), (3, mLit), (2, mLit), (29, .own (.own .shr))] }
def L11 (x : kdens S11.args) : List LoopI := [
  { ι := Nat, inv := fun i => 1 ≤ i ∧ (i : Int) ≤ Sp.nC x.1, dec := fun i => (Sp.nC x.1).toNat - i, ovr := fun i => [(5, .shr tI (i : Int)), (3, .box tLit mLit (List.replicate i [], ()))], keep := [0, 2, 4] },
  { ι := Nat, inv := fun k => k ≤ Sp.nK x.1, dec := fun k => Sp.nK x.1 - k, ovr := fun k => [(6, .shr tI ((2 * k + 1 : Nat) : Int)), (3, .box tLit mLit (Sp.madeN x.1 k, ()))], keep := [0, 2, 4] }]
def S10 : FSpec := { args := [], multi := false, res := .bool, mode := .shr, pre := fun _ => True, fn := fun _ => true }
def C10 : Ctx := { mkC 93 [(31, S31), (27, S27), (28, S28), (21, S21), (16, S16), (18, S18), (30, S30)] with frz := [11, 14, 15, 16, 17, 18, 28, 33, 40, 55, 63, 68, 89] }
def L10 (x : kdens S10.args) : List LoopI := []
def S5 : FSpec := { args := [.val (.slice (.int .u8)), .val (.slice (.int .u8))], multi := false, res := .bool, mode := .shr, pre := fun _ => True, fn := fun _ => true }
def C5 : Ctx := { mkC 120 [(10, S10), (11, S11), (12, S12c), (18, S18), (22, S22)] with frz := [19, 22] }
def L5 (x : kdens S5.args) : List LoopI := [
  { ι := Nat, inv := fun i => i ≤ (Sp.gE (Sp.madeP x.1, ()) x.2.1).length, dec := fun i => (Sp.gE (Sp.madeP x.1, ()) x.2.1).length - i, ovr := fun i => [(8, .shr tI (i : Int))], keep := [5, 6, 7], sub := fun i => [
    { ι := Nat, inv := fun k => i < k ∧ k ≤ (Sp.gE (Sp.madeP x.1, ()) x.2.1).length, dec := fun k => (Sp.gE (Sp.madeP x.1, ()) x.2.1).length - k, ovr := fun k => [(9, .shr tI (k : Int))], keep := [5, 6, 7, 8] }] }]
end Go.User
namespace Sp
def lastOr (l : List Int) : Int := if 0 < l.length then l.getD (l.length - 1) 0 else -1
def nxN (p : List (List LOp)) (i : Nat) : List Int := (List.range i).map fun j => ((evs 0 (p.take j)).length : Int)
def enN (p : List (List LOp)) (i : Nat) : List Int := (List.range i).map fun j => ((evs 0 (p.take (j + 1))).length : Int)
def canN (nx en : List Int) (i : Nat) : List Int := sel (fun j => decide (nx.getD j 0 < en.getD j 0)) i
/-- The core that is next, and its event. -/
def pkC (nx en b : List Int) (k : Nat) : Int := (canN nx en nx.length).getD ((byteAt b k).tmod ((canN nx en nx.length).length : Int)).toNat 0
def pkE (nx en b : List Int) (k : Nat) : Int := nx.getD (pkC nx en b k).toNat 0
def xN (nx en b : List Int) (k : Nat) : List Int := nx.set (pkC nx en b k).toNat (pkE nx en b k + 1)
def plL (E : List LEv) (M : List (List Int)) (e : Int) : List Int := M.getD (ev E e).2.1.2.1.toNat []
def takes (E : List LEv) (M : List (List Int)) (e : Int) : Bool := !decide ((ev E e).2.1.1 = 4) && reads (ev E e).2.1 && decide (0 < (plL E M e).length)
def lastL (E : List LEv) (M : List (List Int)) (e : Int) : Int := (plL E M e).getD ((plL E M e).length - 1) 0
def xF (E : List LEv) (F : List Int) (M : List (List Int)) (e : Int) : List Int := if takes E M e = true then F.set e.toNat (lastL E M e) else F
def xE (E : List LEv) (M : List (List Int)) (e : Int) : List LEv := if takes E M e = true then setR E e.toNat (value E (lastL E M e)) else E
def xM (E : List LEv) (M : List (List Int)) (e : Int) : List (List Int) := if (ev E e).2.1.1 ≠ 4 ∧ writes (ev E e).2.1 = true then M.set (ev E e).2.1.2.1.toNat (plL E M e ++ [e]) else M
def xO (E : List LEv) (O : List Int) (e : Int) : List Int := if (ev E e).2.1.1 = 4 then O ++ [e] else O
abbrev Run := List Int × List LEv × List Int × List (List Int) × List Int
def runS (en b : List Int) (k : Nat) (s : Run) : Run :=
  (xN s.1 en b k, xE s.2.1 s.2.2.2.1 (pkE s.1 en b k), xF s.2.1 s.2.2.1 s.2.2.2.1 (pkE s.1 en b k), xM s.2.1 s.2.2.2.1 (pkE s.1 en b k), xO s.2.1 s.2.2.2.2 (pkE s.1 en b k))
def runN (p : List (List LOp)) (b : List Int) : Nat → Run
  | 0 => (nxN p p.length, evs 0 p, List.replicate (evs 0 p).length (-1), [[], [], []], [])
  | k + 1 => runS (enN p p.length) b k (runN p b k)
def iE (t : Lit) (b : List Int) : List LEv := (runN t.1 b (evs 0 t.1).length).2.1
def iF (t : Lit) (b : List Int) : List Int := (runN t.1 b (evs 0 t.1).length).2.2.1
def iM (t : Lit) (b : List Int) : List (List Int) := (runN t.1 b (evs 0 t.1).length).2.2.2.1
def iO (t : Lit) (b : List Int) : List Int := (runN t.1 b (evs 0 t.1).length).2.2.2.2
end Sp
namespace Go.User
open Go.Lf
def mG14 : Md := .pair (.own .shr) (.pair (.own .shr) (.pair (.own (.own .shr)) (.pair (.own .shr) .shr)))
def S14 : FSpec := { args := [.val tLit, .val (.slice (.int .u8))], multi := false, res := tGr, mode := mG14, pre := fun x => fine x.1 ∧ x.1.1.length ≤ 100, fn := fun x => (Sp.iE x.1 x.2.1, Sp.iF x.1 x.2.1, Sp.iM x.1 x.2.1, Sp.iO x.1 x.2.1, ()) }
def C14 : Ctx := { mkC 167 [(32, S32), (33, S33), (37, S37), (38, S38), (40, S40)] with mds := [(23, .own (.own .shr)), (25, mG14), (5, mG14), (4, mG14)], ded := [57, 106, 115, 134, 144, 148] }
def L14 (x : kdens S14.args) : List LoopI := [
  { ι := Nat, inv := fun i => i ≤ x.1.1.length, dec := fun i => x.1.1.length - i, ovr := fun i => [(9, .shr tI (i : Int)), (8, .shr tI ((Sp.evs 0 (x.1.1.take i)).length : Int)), (6, .own (.slice tI) (.own .shr) (Sp.nxN x.1.1 i)), (7, .own (.slice tI) (.own .shr) (Sp.enN x.1.1 i))], keep := [1, 2, 4, 5] },
  { ι := Nat, inv := fun i => i ≤ (Sp.evs 0 x.1.1).length, dec := fun i => (Sp.evs 0 x.1.1).length - i, ovr := fun i => [(10, .shr tI (i : Int)), (5, .box tGr mG14 (Sp.evs 0 x.1.1, List.replicate i (-1), [[], [], []], [], ()))], keep := [1, 2, 4, 6, 7, 8] },
  { ι := Nat, inv := fun k => k ≤ (Sp.evs 0 x.1.1).length, dec := fun k => (Sp.evs 0 x.1.1).length - k, ovr := fun k => [(11, .shr tI (k : Int)), (6, .own (.slice tI) (.own .shr) (Sp.runN x.1.1 x.2.1 k).1),
      (5, .box tGr mG14 ((Sp.runN x.1.1 x.2.1 k).2.1, (Sp.runN x.1.1 x.2.1 k).2.2.1, (Sp.runN x.1.1 x.2.1 k).2.2.2.1, (Sp.runN x.1.1 x.2.1 k).2.2.2.2, ()))], keep := [1, 2, 4, 7, 8], sub := fun k => [
    { ι := Nat, inv := fun i => i ≤ (Sp.runN x.1.1 x.2.1 k).1.length, dec := fun i => (Sp.runN x.1.1 x.2.1 k).1.length - i, ovr := fun i => [(13, .shr tI (i : Int)), (12, .own (.slice tI) (.own .shr) (Sp.canN (Sp.runN x.1.1 x.2.1 k).1 (Sp.enN x.1.1 x.1.1.length) i))], keep := [1, 2, 4, 5, 6, 7, 8, 11] }] }]
def S4 : FSpec := { args := [.val (.slice (.int .u8)), .val (.slice (.int .u8))], multi := false, res := .bool, mode := .shr, pre := fun _ => True, fn := fun _ => true }
def C4 : Ctx := { mkC 27 [(10, S10), (11, S11), (14, S14), (16, S16), (18, S18)] with frz := [12, 15] }
def L4 (x : kdens S4.args) : List LoopI := []
end Go.User
namespace Sp
/-- The lists with other numbers. -/
def renN (l to : List Int) (n : Nat) : List Int := (l.take n).filterMap fun v => if v < 0 then some v else if 0 ≤ to.getD v.toNat 0 then some (to.getD v.toNat 0) else none
def ren (l to : List Int) : List Int := renN l to l.length
/-- The numbers without one of them. -/
def tq (gone : Nat) (i : Nat) : Int := if i = gone then -1 else if i < gone then (i : Int) else (i : Int) - 1
def toL (gone n : Nat) : List Int := (List.range n).map (tq gone)
def stp (p : List (List LOp)) (c : Nat) : Nat := (evs 0 (p.take c)).length
def lessK (p : List (List LOp)) (gone c k : Nat) : List LOp := if stp p c ≤ gone then ((p.getD c []).take k).eraseIdx (gone - stp p c) else (p.getD c []).take k
def lessN (p : List (List LOp)) (gone i : Nat) : List (List LOp) := (List.range i).map fun c => lessK p gone c (p.getD c []).length
def lessP (p : List (List LOp)) (gone : Nat) : List (List LOp) := lessN p gone p.length
def hEN (E : List LEv) (gone n : Nat) : List LEv := (E.take n).eraseIdx gone
def hF1 (F : List Int) (gone i : Nat) : Int := if F.getD i 0 < 0 then -1 else tq gone (F.getD i 0).toNat
def hFN (F : List Int) (gone n : Nat) : List Int := ((List.range n).filter (fun i => !decide (i = gone))).map (hF1 F gone)
def hMN (M : List (List Int)) (to : List Int) (n : Nat) : List (List Int) := (List.range n).map fun x => ren (M.getD x []) to
def gg (p : List (List LOp)) (b : List Int) (n : Int) : Gr := if n % 2 = 0 then (gE (p, ()) b, gF (p, ()) b, gM (p, ()) b, gO (p, ()) b, ()) else (iE (p, ()) b, iF (p, ()) b, iM (p, ()) b, iO (p, ()) b, ())
def ggE (p : List (List LOp)) (b : List Int) (n : Int) : List LEv := (gg p b n).1
def ggF (p : List (List LOp)) (b : List Int) (n : Int) : List Int := (gg p b n).2.1
def ggM (p : List (List LOp)) (b : List Int) (n : Int) : List (List Int) := (gg p b n).2.2.1
def ggO (p : List (List LOp)) (b : List Int) (n : Int) : List Int := (gg p b n).2.2.2.1
def goneN (p : List (List LOp)) (b : List Int) (n : Int) : Nat := ((ggO p b n).getD (n.tmod ((ggO p b n).length : Int)).toNat 0).toNat
end Sp
namespace Go.User
open Go.Lf
def S25 : FSpec := { args := [.val (.slice tI), .val (.slice tI)], multi := false, res := .slice tI, mode := .own .shr, pre := fun x => List.length x.1 ≤ 1000 ∧ ∀ v ∈ (x.1 : List Int), v < (List.length x.2.1 : Int), fn := fun x => Sp.ren x.1 x.2.1 }
def C25 : Ctx := mkC 45 []
def L25 (x : kdens S25.args) : List LoopI := [
  { ι := Nat, inv := fun i => i ≤ List.length x.1, dec := fun i => List.length x.1 - i, ovr := fun i => [(6, .shr tI (i : Int)), (5, .own (.slice tI) (.own .shr) (Sp.renN x.1 x.2.1 i))], keep := [0, 1] }]
def S7 : FSpec := { args := [.val (.slice (.int .u8)), .val (.slice (.int .u8)), .val (.int .u8)], multi := false, res := .bool, mode := .shr, pre := fun _ => True, fn := fun _ => true }
def C7 : Ctx := { mkC 209 [(10, S10), (11, S11), (12, S12c), (14, S14), (16, S16), (18, S18), (25, S25)] with frz := [23, 26, 32], mds := [(60, mLit), (11, mLit), (74, .own (.own .shr)), (61, .own (.own .shr)), (62, mGr), (12, mGr), (190, .own (.own .shr))] }
def L7 (x : kdens S7.args) : List LoopI := [
  { ι := Nat, inv := fun i => i ≤ (Sp.madeP x.1).length, dec := fun i => (Sp.madeP x.1).length - i, ovr := fun i => [(15, .shr tI (i : Int)), (14, .shr tI (Sp.stp (Sp.madeP x.1) i : Int)), (10, .shr tI (Sp.goneN (Sp.madeP x.1) x.2.1 x.2.2.1 : Int)),
      (9, .box tGr .shr (Sp.ggE (Sp.madeP x.1) x.2.1 x.2.2.1, Sp.ggF (Sp.madeP x.1) x.2.1 x.2.2.1, Sp.ggM (Sp.madeP x.1) x.2.1 x.2.2.1, Sp.ggO (Sp.madeP x.1) x.2.1 x.2.2.1, ())),
      (13, .own (.slice tI) (.own .shr) (Sp.toL (Sp.goneN (Sp.madeP x.1) x.2.1 x.2.2.1) (Sp.stp (Sp.madeP x.1) i))), (11, .box tLit mLit (Sp.lessN (Sp.madeP x.1) (Sp.goneN (Sp.madeP x.1) x.2.1 x.2.2.1) i, ())),
      (12, .box tGr mGr (Sp.hEN (Sp.ggE (Sp.madeP x.1) x.2.1 x.2.2.1) (Sp.goneN (Sp.madeP x.1) x.2.1 x.2.2.1) (Sp.stp (Sp.madeP x.1) i), [], [], [], ()))], keep := [7, 8], sub := fun i => [
    { ι := Nat, inv := fun k => i < (Sp.madeP x.1).length ∧ k ≤ ((Sp.madeP x.1).getD i []).length, dec := fun k => ((Sp.madeP x.1).getD i []).length - k, ovr := fun k => [(16, .shr tI (k : Int)), (14, .shr tI (Sp.stp (Sp.madeP x.1) i + k : Int)),
      (13, .own (.slice tI) (.own .shr) (Sp.toL (Sp.goneN (Sp.madeP x.1) x.2.1 x.2.2.1) (Sp.stp (Sp.madeP x.1) i + k))), (11, .box tLit mLit (Sp.lessN (Sp.madeP x.1) (Sp.goneN (Sp.madeP x.1) x.2.1 x.2.2.1) i ++ [Sp.lessK (Sp.madeP x.1) (Sp.goneN (Sp.madeP x.1) x.2.1 x.2.2.1) i k], ())),
      (12, .box tGr mGr (Sp.hEN (Sp.ggE (Sp.madeP x.1) x.2.1 x.2.2.1) (Sp.goneN (Sp.madeP x.1) x.2.1 x.2.2.1) (Sp.stp (Sp.madeP x.1) i + k), [], [], [], ()))], keep := [7, 8, 9, 10, 15] }] },
  { ι := Nat, inv := fun i => i ≤ (Sp.ggE (Sp.madeP x.1) x.2.1 x.2.2.1).length, dec := fun i => (Sp.ggE (Sp.madeP x.1) x.2.1 x.2.2.1).length - i, ovr := fun i => [(17, .shr tI (i : Int)),
      (13, .own (.slice tI) (.own .shr) (Sp.toL (Sp.goneN (Sp.madeP x.1) x.2.1 x.2.2.1) (Sp.ggE (Sp.madeP x.1) x.2.1 x.2.2.1).length)), (11, .box tLit mLit (Sp.lessP (Sp.madeP x.1) (Sp.goneN (Sp.madeP x.1) x.2.1 x.2.2.1), ())),
      (12, .box tGr mGr ((Sp.ggE (Sp.madeP x.1) x.2.1 x.2.2.1).eraseIdx (Sp.goneN (Sp.madeP x.1) x.2.1 x.2.2.1), Sp.hFN (Sp.ggF (Sp.madeP x.1) x.2.1 x.2.2.1) (Sp.goneN (Sp.madeP x.1) x.2.1 x.2.2.1) i, [], [], ()))], keep := [7, 9, 10] },
  { ι := Nat, inv := fun i => i ≤ 3, dec := fun i => 3 - i, ovr := fun i => [(18, .shr tI (i : Int)),
      (12, .box tGr mGr ((Sp.ggE (Sp.madeP x.1) x.2.1 x.2.2.1).eraseIdx (Sp.goneN (Sp.madeP x.1) x.2.1 x.2.2.1), Sp.hFN (Sp.ggF (Sp.madeP x.1) x.2.1 x.2.2.1) (Sp.goneN (Sp.madeP x.1) x.2.1 x.2.2.1) (Sp.ggE (Sp.madeP x.1) x.2.1 x.2.2.1).length,
        Sp.hMN (Sp.ggM (Sp.madeP x.1) x.2.1 x.2.2.1) (Sp.toL (Sp.goneN (Sp.madeP x.1) x.2.1 x.2.2.1) (Sp.ggE (Sp.madeP x.1) x.2.1 x.2.2.1).length) i, [], ()))], keep := [7, 9, 11, 13] }]
end Go.User
namespace Go.User
open Go.Proofs Go.Lf
set_option maxRecDepth 100000
theorem vc25 : funI C25 (stpP C25) S25 L25 Try.f25 = (
let q0 : Prop := (True ∧ True) ∧ True;
let q1 : Int := (0 : Int);
let q2 : Prop := True ∧ True ∧ True;
let q3 : Int := (1 : Int);
∀ (x : List Int × List Int × Unit),
  let q4 : Nat := x.1.length;
  let q5 : Nat := x.2.1.length;
  let q6 : Prop := x.1 = x.1 ∧ x.2.1 = x.2.1 ∧ True;
  (q4 ≤ (1000 : Nat) ∧ ∀ (v : Int), v ∈ x.1 → v < (↑q5 : Int)) →
    dFact (Ty.int IntKind.i64).slice x.1 ∧ dFact (Ty.int IntKind.i64).slice x.2.1 ∧ True →
      q0 ∧
        ((True ∧ True) ∧ True ∧ True) ∧
          q0 ∧
            (∃ (x_1 : Nat), x_1 ≤ q4 ∧ q1 = (↑x_1 : Int) ∧ ([] : List tI.den) = Sp.renN x.1 x.2.1 x_1 ∧ q6) ∧
              ∀ (x_1 : Nat),
                let q7 : List Int := Sp.renN x.1 x.2.1 x_1;
                let q8 : Bool := decide ((↑x_1 : Int) < (↑q4 : Int));
                let q9 : Prop := inN (↑x_1 : Int) q4;
                let q10 : Prop := True ∧ True ∧ q9 ∧ q2;
                let q11 : Int := x.1.getD (↑x_1 : Int).toNat q1;
                let q12 : Bool := decide (q11 < q1);
                let q13 : Nat := q7.length;
                let q14 : List Int := q11 :: ([] : List tI.den);
                let q15 : Int := (↑x_1 : Int) + q3;
                let q16 : Prop := (True ∧ inK IntKind.i64 q15 ∧ True ∧ True) ∧ True;
                let q17 : Prop := True ∧ True ∧ True ∧ q9 ∧ True ∧ inN q11 q5 ∧ q2;
                let q18 : Int := x.2.1.getD q11.toNat q1;
                let q19 : Bool := decide (q18 ≥ q1);
                let q20 : List Int := q18 :: ([] : List tI.den);
                x_1 ≤ q4 → dFact (Ty.int IntKind.i64) (↑x_1 : Int) ∧ dFact (Ty.int IntKind.i64).slice q7 ∧ True → ((True ∧ True ∧ q2) ∧ True) ∧ (q8 = true → (q10 ∧ True) ∧ (q12 = true → ((True ∧ q10) ∧ (↑(q13 + q14.length) : Int) ≤ maxNew ∧ True ∧ True) ∧ q16 ∧ ∃ (y : Nat), y ≤ q4 ∧ q4 - y < q4 - x_1 ∧ q15 = (↑y : Int) ∧ q7 ++ q14 = Sp.renN x.1 x.2.1 y ∧ q6) ∧ (q12 = false → (q17 ∧ True) ∧ (q19 = true → ((True ∧ q17) ∧ (↑(q13 + q20.length) : Int) ≤ maxNew ∧ True ∧ True) ∧ q16 ∧ ∃ (y : Nat), y ≤ q4 ∧ q4 - y < q4 - x_1 ∧ q15 = (↑y : Int) ∧ q7 ++ q20 = Sp.renN x.1 x.2.1 y ∧ q6) ∧ (q19 = false → q16 ∧ ∃ (y : Nat), y ≤ q4 ∧ q4 - y < q4 - x_1 ∧ q15 = (↑y : Int) ∧ q7 = Sp.renN x.1 x.2.1 y ∧ q6))) ∧ (q8 = false → (q2 ∧ True) ∧ q7 = Sp.ren x.1 x.2.1)) := by kernel_rfl
theorem vc7 : funI C7 (stpP C7) S7 L7 Try.f7 = (
let q0 : Prop := (True ∧ True) ∧ True;
let q1 : Prop := True ∧ True ∧ True;
let q2 : Prop := q1 ∧ True;
let q3 : Prop := True ∧ q1;
let q4 : Prop := q3 ∧ True ∧ True;
let q5 : Int := (0 : Int);
let q6 : Nat := (100 : Nat);
let q7 : Nat := (3 : Nat);
let q8 : Int := (2 : Int);
let q9 : Nat := (1000 : Nat);
let q10 : Prop := q2 ∧ true = true;
let q11 : Prop := q1 ∧ True ∧ True;
let q12 : Prop := (True ∧ True) ∧ True ∧ True;
let q13 : List (List (Int × Int × Int × Unit)) := ([] : List tLOp.slice.den);
let q14 : List (List Int) := ([] : List tI.slice.den);
let q15 : List Int × Unit := (([] : List tI.den), ());
let q16 : List (List Int) × List Int × Unit := (q14, q15);
let q17 : List Int × List (List Int) × List Int × Unit := (([] : List tI.den), q16);
let q18 : Prop := true = true;
let q19 : Prop := True ∧ q3;
let q20 : Prop := True ∧ q19;
let q21 : Prop := q20 ∧ True;
let q22 : List (List (Int × Int × Int × Unit)) := ([] : List tLOp.den) :: q13;
let q23 : List Step := Step.fst :: ([] : List Step);
let q24 : List Step := List.append._f (([] : List Step)) PUnit.unit q23;
let q25 : Prop := True ∧ q24 = q24 ∧ True;
let q26 : Int := (1 : Int);
let q27 : List Int := -q26 :: ([] : List tI.den);
let q28 : Nat := q27.length;
let q29 : Int × Unit := (q5, ());
let q30 : Int × Int × Int × Unit := (q5, q5, q29);
let q31 : Int × (Int × Int × Int × Unit) × Int × Unit := (q5, q30, q29);
let q32 : Prop := Step.fst = Step.fst ∧ True;
let q33 : Prop := True ∧ True ∧ True ∧ True ∧ True ∧ True ∧ q20;
let q34 : List Step := Step.snd :: q23;
let q35 : List Step := List.append._f (([] : List Step)) PUnit.unit q34;
let q36 : Prop := True ∧ q35 = q35 ∧ True;
let q37 : List Step := List.append._f (([] : List Step)) PUnit.unit (Step.snd :: q34);
let q38 : Prop := (true && true) = true;
let q39 : Prop := q38 → True;
∀ (x : List Int × List Int × Int × Unit),
  let q40 : List (Int × (Int × Int × Int × Unit) × Int × Unit) := Sp.evs q5 (Sp.madeP x.1);
  let q41 : Nat := q40.length;
  let q42 : Prop := q41 ≤ q6 ∧ ∀ (x : Sp.LEv), x ∈ q40 → inN x.2.1.2.1 q7;
  let q43 : Nat := (Sp.madeP x.1).length;
  let q44 : Bool := x.2.2.1 % q8 == q5;
  let q45 : Prop := q41 ≤ q9;
  let q46 : List (List (Int × Int × Int × Unit)) × Unit := (Sp.madeP x.1, ());
  let q47 : List (Int × (Int × Int × Int × Unit) × Int × Unit) := Sp.gE q46 x.2.1;
  let q48 : List Int := Sp.gO q46 x.2.1;
  let q49 : List (Int × (Int × Int × Int × Unit) × Int × Unit) × List Int × List (List Int) × List Int × Unit := (q47, Sp.gF q46 x.2.1, Sp.gM q46 x.2.1, q48, ());
  let q50 : Bool := !Sp.allowed q46 q49;
  let q51 : Prop := (true && bif q50 then false else true) = true → True;
  let q52 : Nat := q48.length;
  let q53 : Int := (↑q52 : Int);
  let q54 : Bool := bif q50 then true else q53 == q5;
  let q55 : Prop := (true && bif q54 then false else true) = true → True;
  let q56 : Bool := bif q54 then true else decide ((↑q47.length : Int) < q8);
  let q57 : Int := x.2.2.1.tmod q53;
  let q58 : Nat := (Sp.madeP x.1).length;
  let q59 : Nat := Sp.goneN (Sp.madeP x.1) x.2.1 x.2.2.1;
  let q60 : Int := (↑q59 : Int);
  let q61 : List (Int × (Int × Int × Int × Unit) × Int × Unit) := Sp.ggE (Sp.madeP x.1) x.2.1 x.2.2.1;
  let q62 : List Int := Sp.ggF (Sp.madeP x.1) x.2.1 x.2.2.1;
  let q63 : List (List Int) := Sp.ggM (Sp.madeP x.1) x.2.1 x.2.2.1;
  let q64 : List Int := Sp.ggO (Sp.madeP x.1) x.2.1 x.2.2.1;
  let q65 : List (Int × (Int × Int × Int × Unit) × Int × Unit) × List Int × List (List Int) × List Int × Unit := (q61, q62, q63, q64, ());
  let q66 : Prop := q46 = q46;
  let q67 : Prop := q18 ∧ q66 ∧ True;
  let q68 : Prop := q65 = q65;
  let q69 : Prop := q60 = q60;
  let q70 : Nat := q61.length;
  let q71 : Nat := q61.length;
  let q72 : List Int := Sp.toL q59 q71;
  let q73 : List (List (Int × Int × Int × Unit)) := Sp.lessP (Sp.madeP x.1) q59;
  let q74 : List (List (Int × Int × Int × Unit)) × Unit := (q73, ());
  let q75 : List (Int × (Int × Int × Int × Unit) × Int × Unit) := q61.eraseIdx q59;
  let q76 : Prop := q18 ∧ q68 ∧ q69 ∧ True;
  let q77 : Nat := q62.length;
  let q78 : Nat := q72.length;
  let q79 : Prop := q72 = q72;
  let q80 : Prop := q74 = q74;
  let q81 : List Int := Sp.hFN q62 q59 q71;
  let q82 : Prop := q18 ∧ q68 ∧ q80 ∧ q79 ∧ True;
  let q83 : Prop := (Sp.evs q5 q73).length ≤ q9;
  let q150 : Prop :=
    ∀ (x_1 : Nat),
      let q84 : Nat := Sp.stp (Sp.madeP x.1) x_1;
      let q85 : Int := (↑q84 : Int);
      let q86 : List Int := Sp.toL q59 q84;
      let q87 : List (List (Int × Int × Int × Unit)) := Sp.lessN (Sp.madeP x.1) q59 x_1;
      let q88 : List (List (Int × Int × Int × Unit)) × Unit := (q87, ());
      let q89 : List (Int × (Int × Int × Int × Unit) × Int × Unit) × List Int × List (List Int) × List Int × Unit := (Sp.hEN q61 q59 q84, q17);
      let q90 : Bool := decide ((↑x_1 : Int) < (↑q43 : Int));
      let q91 : Nat := ((Sp.madeP x.1).getD x_1 (([] : List Sp.LOp))).length;
      let q92 : Prop := q18 ∧ q66 ∧ q68 ∧ q69 ∧ (↑x_1 : Int) = (↑x_1 : Int) ∧ True;
      let q93 : Prop := inN (↑x_1 : Int) q43;
      let q94 : Nat := (↑x_1 : Int).toNat;
      let q95 : List (Int × Int × Int × Unit) := (Sp.madeP x.1).getD q94 (([] : List tLOp.den));
      let q96 : Nat := q95.length;
      let q97 : List Step := List.append._f q23 ⟨List.append._f (([] : List Step)) PUnit.unit, PUnit.unit⟩ (Step.idx q94 :: ([] : List Step));
      let q98 : Int := (↑x_1 : Int) + q26;
      x_1 ≤ q58 →
        dFact (Ty.int IntKind.i64) (↑x_1 : Int) ∧ dFact (Ty.int IntKind.i64) q85 ∧ dFact (Ty.int IntKind.i64) q60 ∧ dFact (((Ty.int IntKind.i64).prod (((Ty.int IntKind.i64).prod ((Ty.int IntKind.i64).prod ((Ty.int IntKind.i64).prod Ty.unit))).prod ((Ty.int IntKind.i64).prod Ty.unit))).slice.prod ((Ty.int IntKind.i64).slice.prod ((Ty.int IntKind.i64).slice.slice.prod ((Ty.int IntKind.i64).slice.prod Ty.unit)))) q65 ∧ dFact (Ty.int IntKind.i64).slice q86 ∧ dFact (((Ty.int IntKind.i64).prod ((Ty.int IntKind.i64).prod ((Ty.int IntKind.i64).prod Ty.unit))).slice.slice.prod Ty.unit) q88 ∧ dFact (((Ty.int IntKind.i64).prod (((Ty.int IntKind.i64).prod ((Ty.int IntKind.i64).prod ((Ty.int IntKind.i64).prod Ty.unit))).prod ((Ty.int IntKind.i64).prod Ty.unit))).slice.prod ((Ty.int IntKind.i64).slice.prod ((Ty.int IntKind.i64).slice.slice.prod ((Ty.int IntKind.i64).slice.prod Ty.unit)))) q89 ∧ True →
          q21 ∧
            (q90 = true →
                (q19 ∧ (↑(q87.length + q22.length) : Int) ≤ maxNew ∧ q25) ∧
                  q0 ∧
                    (∃ (x_2 : Nat),
                        let q99 : Nat := q84 + x_2;
                        (x_1 < q58 ∧ x_2 ≤ q91) ∧ q5 = (↑x_2 : Int) ∧ q85 = q85 + (↑x_2 : Int) ∧ q86 = Sp.toL q59 q99 ∧ (q87 ++ q22, ()) = (q87 ++ Sp.lessK (Sp.madeP x.1) q59 x_1 x_2 :: ([] : List (List Sp.LOp)), ()) ∧ q89 = (Sp.hEN q61 q59 q99, q17) ∧ q92) ∧
                      ∀ (x_2 : Nat),
                        let q100 : Int := q85 + (↑x_2 : Int);
                        let q101 : Nat := q84 + x_2;
                        let q102 : List Int := Sp.toL q59 q101;
                        let q103 : List (List (Int × Int × Int × Unit)) := q87 ++ Sp.lessK (Sp.madeP x.1) q59 x_1 x_2 :: ([] : List (List Sp.LOp));
                        let q104 : List (List (Int × Int × Int × Unit)) × Unit := (q103, ());
                        let q105 : List (Int × (Int × Int × Int × Unit) × Int × Unit) := Sp.hEN q61 q59 q101;
                        let q106 : List (Int × (Int × Int × Int × Unit) × Int × Unit) × List Int × List (List Int) × List Int × Unit := (q105, q17);
                        let q107 : Bool := decide ((↑x_2 : Int) < (↑q96 : Int));
                        let q108 : Bool := q100 == q60;
                        let q109 : Nat := q102.length;
                        let q110 : Int := q100 + q26;
                        let q111 : Prop := (True ∧ inK IntKind.i64 q110 ∧ True ∧ True) ∧ True;
                        let q112 : Int := (↑x_2 : Int) + q26;
                        let q113 : Prop := (True ∧ inK IntKind.i64 q112 ∧ True ∧ True) ∧ True;
                        let q114 : Nat := q105.length;
                        let q115 : List Int := (↑q114 : Int) :: ([] : List tI.den);
                        let q116 : List (Int × (Int × Int × Int × Unit) × Int × Unit) := q61.getD q100.toNat q31 :: ([] : List tLEv.den);
                        let q117 : Prop := inN (↑x_1 : Int) q103.length;
                        let q118 : List (Int × Int × Int × Unit) := q103.getD q94 (([] : List tLOp.den));
                        let q119 : List (Int × Int × Int × Unit) := q95.getD (↑x_2 : Int).toNat q30 :: ([] : List tLOp.den);
                        x_1 < q58 ∧ x_2 ≤ q91 →
                          dFact (Ty.int IntKind.i64) (↑x_2 : Int) ∧ dFact (Ty.int IntKind.i64) q100 ∧ dFact (Ty.int IntKind.i64).slice q102 ∧ dFact (((Ty.int IntKind.i64).prod ((Ty.int IntKind.i64).prod ((Ty.int IntKind.i64).prod Ty.unit))).slice.slice.prod Ty.unit) q104 ∧ dFact (((Ty.int IntKind.i64).prod (((Ty.int IntKind.i64).prod ((Ty.int IntKind.i64).prod ((Ty.int IntKind.i64).prod Ty.unit))).prod ((Ty.int IntKind.i64).prod Ty.unit))).slice.prod ((Ty.int IntKind.i64).slice.prod ((Ty.int IntKind.i64).slice.slice.prod ((Ty.int IntKind.i64).slice.prod Ty.unit)))) q106 ∧ True →
                            ((True ∧ True ∧ True ∧ True ∧ q93 ∧ q3) ∧ True) ∧
                              (q107 = true →
                                  (q3 ∧ True) ∧
                                    (q108 = true →
                                        (q1 ∧ (↑(q109 + q28) : Int) ≤ maxNew ∧ True ∧ True) ∧
                                          q111 ∧
                                            q113 ∧
                                              ∃ (y : Nat),
                                                let q120 : Nat := q84 + y;
                                                (x_1 < q58 ∧ y ≤ q91) ∧ q91 - y < q91 - x_2 ∧ q112 = (↑y : Int) ∧ q110 = q85 + (↑y : Int) ∧ q102 ++ q27 = Sp.toL q59 q120 ∧ q104 = (q87 ++ Sp.lessK (Sp.madeP x.1) q59 x_1 y :: ([] : List (List Sp.LOp)), ()) ∧ q106 = (Sp.hEN q61 q59 q120, q17) ∧ q92) ∧
                                      (q108 = false →
                                        (q20 ∧ (↑(q109 + q115.length) : Int) ≤ maxNew ∧ True ∧ True) ∧
                                          ((True ∧ True ∧ True ∧ True ∧ True ∧ inN q100 q70 ∧ q1) ∧ (↑(q114 + q116.length) : Int) ≤ maxNew ∧ q25) ∧
                                            (((True ∧ True ∧ True ∧ True ∧ True ∧ True ∧ q117 ∧ True ∧ True ∧ True ∧ True ∧ q93 ∧ True ∧ True ∧ inN (↑x_2 : Int) q96 ∧ True ∧ True ∧ (↑(q118.length + q119.length) : Int) ≤ maxNew ∧ q117 ∧ True) ∧ True ∧ True ∧ True ∧ True ∧ True ∧ True ∧ True ∧ True ∧ True ∧ True ∧ True ∧ True ∧ True ∧ True ∧ True ∧ True ∧ True ∧ ((True ∧ q32 ∧ True ∧ True ∧ q32 ∧ True ∧ True ∧ (Step.fst = Step.fst ∧ Step.idx q94 = Step.idx q94 ∧ True) ∧ q33) ∧ True ∧ True ∧ True ∧ True ∧ True ∧ True ∧ True ∧ True ∧ True ∧ True ∧ True ∧ True ∧ True ∧ True ∧ True ∧ True ∧ True ∧ True ∧ True ∧ True ∧ True ∧ True ∧ True ∧ True ∧ True ∧ True ∧ True ∧ True ∧ True ∧ True ∧ True ∧ True ∧ True ∧ True ∧ True ∧ True ∧ True ∧ True ∧ True ∧ True ∧ True ∧ True ∧ True ∧ True ∧ True ∧ True ∧ True ∧ True ∧ True ∧ True ∧ True ∧ True ∧ True ∧ True ∧ True ∧ True ∧ True ∧ True ∧ True ∧ True ∧ True ∧ True ∧ True ∧ True ∧ True ∧ True ∧ True ∧ True ∧ True ∧ True ∧ True ∧ True ∧ True ∧ True ∧ True ∧ True ∧ True ∧ True ∧ True ∧ True ∧ True ∧ True ∧ True ∧ True ∧ True ∧ True ∧ True ∧ True ∧ True ∧ True ∧ True ∧ True ∧ True ∧ True ∧ True ∧ True ∧ True ∧ True ∧ True ∧ True ∧ True ∧ True ∧ True ∧ True ∧ True ∧ True ∧ True ∧ True ∧ True ∧ True ∧ True ∧ True ∧ True ∧ True ∧ True ∧ True ∧ True ∧ True ∧ True ∧ True ∧ True ∧ True ∧ True ∧ True ∧ True ∧ True ∧ True ∧ True ∧ True ∧ True ∧ True ∧ True ∧ True ∧ True ∧ True ∧ True ∧ True ∧ True ∧ True ∧ True ∧ True ∧ True ∧ True ∧ True ∧ True ∧ True ∧ True ∧ True ∧ True ∧ True ∧ True ∧ True ∧ True ∧ True ∧ True ∧ True ∧ True ∧ True ∧ True ∧ True ∧ True ∧ True ∧ True ∧ True ∧ True ∧ True ∧ True ∧ True ∧ True ∧ True ∧ True ∧ True ∧ True ∧ True ∧ True ∧ True ∧ True ∧ True ∧ True ∧ True ∧ True ∧ True ∧ True ∧ True ∧ True ∧ True ∧ True ∧ True ∧ True ∧ True ∧ True ∧ True ∧ True ∧ True ∧ True ∧ True ∧ True ∧ True ∧ q33) ∧ True ∧ True) ∧ q97 = q97 ∧ True) ∧
                                              q111 ∧
                                                q113 ∧
                                                  ∃ (y : Nat),
                                                    let q121 : Nat := q84 + y;
                                                    (x_1 < q58 ∧ y ≤ q91) ∧ q91 - y < q91 - x_2 ∧ q112 = (↑y : Int) ∧ q110 = q85 + (↑y : Int) ∧ q102 ++ q115 = Sp.toL q59 q121 ∧ (q103.set q94 (q118 ++ q119), ()) = (q87 ++ Sp.lessK (Sp.madeP x.1) q59 x_1 y :: ([] : List (List Sp.LOp)), ()) ∧ (q105 ++ q116, q17) = (Sp.hEN q61 q59 q121, q17) ∧ q92)) ∧
                                (q107 = false →
                                  ((True ∧ inK IntKind.i64 q98 ∧ True ∧ True) ∧ True) ∧
                                    ∃ (y : Nat),
                                      let q122 : Nat := Sp.stp (Sp.madeP x.1) y;
                                      y ≤ q58 ∧ q58 - y < q58 - x_1 ∧ q98 = (↑y : Int) ∧ q100 = (↑q122 : Int) ∧ q69 ∧ q68 ∧ q102 = Sp.toL q59 q122 ∧ q104 = (Sp.lessN (Sp.madeP x.1) q59 y, ()) ∧ q106 = (Sp.hEN q61 q59 q122, q17) ∧ q67)) ∧
              (q90 = false →
                q0 ∧
                  (∃ (x : Nat), x ≤ q71 ∧ q5 = (↑x : Int) ∧ q86 = q72 ∧ q88 = q74 ∧ q89 = (q75, Sp.hFN q62 q59 x, q16) ∧ q76) ∧
                    ∀ (x : Nat),
                      let q123 : List (Int × (Int × Int × Int × Unit) × Int × Unit) × List Int × List (List Int) × List Int × Unit := (q75, Sp.hFN q62 q59 x, q16);
                      let q124 : Bool := decide ((↑x : Int) < (↑q70 : Int));
                      let q125 : Bool := (↑x : Int) != q60;
                      let q126 : Prop := (true && bif q125 then true else false) = true;
                      let q127 : Prop := q126 → True;
                      let q128 : Prop := inN (↑x : Int) q77;
                      let q129 : Prop := (True ∧ True ∧ True ∧ True ∧ q127 ∧ q127 ∧ q127 ∧ (q126 → q128) ∧ q127 ∧ q127 ∧ True ∧ True) ∧ True;
                      let q130 : Int := q62.getD (↑x : Int).toNat q5;
                      let q131 : Bool := bif q125 then decide (q130 < q5) else false;
                      let q132 : Nat := (Sp.hFN q62 q59 x).length;
                      let q133 : Bool := bif q125 then decide (q130 ≥ q5) else false;
                      let q134 : Prop := q133 = true;
                      let q135 : Prop := True ∧ True ∧ True ∧ True ∧ True ∧ True ∧ q128 ∧ True ∧ inN q130 q78 ∧ q1;
                      let q136 : List Int := Sp.hFN q62 q59 x ++ q27;
                      let q137 : List Int := q72.getD q130.toNat q5 :: ([] : List tI.den);
                      let q138 : Nat := q137.length;
                      let q139 : Int := (↑x : Int) + q26;
                      let q140 : Prop := (True ∧ inK IntKind.i64 q139 ∧ True ∧ True) ∧ True;
                      let q141 : Prop := q133 = false;
                      x ≤ q71 →
                        dFact (Ty.int IntKind.i64) (↑x : Int) ∧ dFact (Ty.int IntKind.i64).slice q72 ∧ dFact (((Ty.int IntKind.i64).prod ((Ty.int IntKind.i64).prod ((Ty.int IntKind.i64).prod Ty.unit))).slice.slice.prod Ty.unit) q74 ∧ dFact (((Ty.int IntKind.i64).prod (((Ty.int IntKind.i64).prod ((Ty.int IntKind.i64).prod ((Ty.int IntKind.i64).prod Ty.unit))).prod ((Ty.int IntKind.i64).prod Ty.unit))).slice.prod ((Ty.int IntKind.i64).slice.prod ((Ty.int IntKind.i64).slice.slice.prod ((Ty.int IntKind.i64).slice.prod Ty.unit)))) q123 ∧ True →
                          q21 ∧
                            (q124 = true → q129 ∧ (q131 = true → (q3 ∧ (↑(q132 + q28) : Int) ≤ maxNew ∧ q36) ∧ q129 ∧ (q134 → (q135 ∧ (↑(q136.length + q138) : Int) ≤ maxNew ∧ q36) ∧ q140 ∧ ∃ (y : Nat), y ≤ q71 ∧ q71 - y < q71 - x ∧ q139 = (↑y : Int) ∧ q79 ∧ q80 ∧ (q75, q136 ++ q137, q16) = (q75, Sp.hFN q62 q59 y, q16) ∧ q76) ∧ (q141 → q140 ∧ ∃ (y : Nat), y ≤ q71 ∧ q71 - y < q71 - x ∧ q139 = (↑y : Int) ∧ q79 ∧ q80 ∧ (q75, q136, q16) = (q75, Sp.hFN q62 q59 y, q16) ∧ q76)) ∧ (q131 = false → q129 ∧ (q134 → (q135 ∧ (↑(q132 + q138) : Int) ≤ maxNew ∧ q36) ∧ q140 ∧ ∃ (y : Nat), y ≤ q71 ∧ q71 - y < q71 - x ∧ q139 = (↑y : Int) ∧ q79 ∧ q80 ∧ (q75, Sp.hFN q62 q59 x ++ q137, q16) = (q75, Sp.hFN q62 q59 y, q16) ∧ q76) ∧ (q141 → q140 ∧ ∃ (y : Nat), y ≤ q71 ∧ q71 - y < q71 - x ∧ q139 = (↑y : Int) ∧ q79 ∧ q80 ∧ q123 = (q75, Sp.hFN q62 q59 y, q16) ∧ q76))) ∧
                              (q124 = false →
                                q0 ∧
                                  (∃ (x : Nat), x ≤ q7 ∧ q5 = (↑x : Int) ∧ q123 = (q75, q81, Sp.hMN q63 q72 x, q15) ∧ q82) ∧
                                    ∀ (x : Nat),
                                      let q142 : Bool := decide ((↑x : Int) < (3 : Int));
                                      let q143 : List Int := q63.getD (↑x : Int).toNat (([] : List tI.den));
                                      let q144 : List (List Int) := Sp.ren q143 q72 :: q14;
                                      let q145 : Int := (↑x : Int) + q26;
                                      let q146 : List (Int × (Int × Int × Int × Unit) × Int × Unit) × List Int × List (List Int) × List Int × Unit := (q75, q81, Sp.hMN q63 q72 x, Sp.ren q64 q72, ());
                                      let q147 : Bool := Sp.right q74 q146;
                                      let q148 : Prop := (true && bif q147 then true else false) = true;
                                      let q149 : Prop := q148 → True;
                                      x ≤ q7 → dFact (Ty.int IntKind.i64) (↑x : Int) ∧ dFact (((Ty.int IntKind.i64).prod (((Ty.int IntKind.i64).prod ((Ty.int IntKind.i64).prod ((Ty.int IntKind.i64).prod Ty.unit))).prod ((Ty.int IntKind.i64).prod Ty.unit))).slice.prod ((Ty.int IntKind.i64).slice.prod ((Ty.int IntKind.i64).slice.slice.prod ((Ty.int IntKind.i64).slice.prod Ty.unit)))) (q75, q81, Sp.hMN q63 q72 x, q15) ∧ True → q2 ∧ (q142 = true → ((True ∧ True ∧ True ∧ True ∧ True ∧ inN (↑x : Int) q63.length ∧ True ∧ True ∧ (q143.length ≤ q9 ∧ ∀ (v : Int), v ∈ q143 → v < (↑q78 : Int)) ∧ True ∧ True) ∧ (↑((Sp.hMN q63 q72 x).length + q144.length) : Int) ≤ maxNew ∧ True ∧ q37 = q37 ∧ True) ∧ ((True ∧ inK IntKind.i64 q145 ∧ True ∧ True) ∧ True) ∧ ∃ (y : Nat), y ≤ q7 ∧ q7 - y < q7 - x ∧ q145 = (↑y : Int) ∧ (q75, q81, Sp.hMN q63 q72 x ++ q144, q15) = (q75, q81, Sp.hMN q63 q72 y, q15) ∧ q82) ∧ (q142 = false → ((True ∧ True ∧ True ∧ (q64.length ≤ q9 ∧ ∀ (v : Int), v ∈ q64 → v < (↑q78 : Int)) ∧ True ∧ True) ∧ True ∧ True) ∧ ((True ∧ True ∧ q39 ∧ q39 ∧ (q38 → q83) ∧ True ∧ True ∧ q149 ∧ q149 ∧ (q148 → q83) ∧ q1) ∧ True) ∧ (bif q147 then Sp.allowed q74 q146 else false) = true)));
  let q151 : List (Int × (Int × Int × Int × Unit) × Int × Unit) := Sp.iE q46 x.2.1;
  let q152 : List Int := Sp.iO q46 x.2.1;
  let q153 : List (Int × (Int × Int × Int × Unit) × Int × Unit) × List Int × List (List Int) × List Int × Unit := (q151, Sp.iF q46 x.2.1, Sp.iM q46 x.2.1, q152, ());
  let q154 : Bool := !Sp.allowed q46 q153;
  let q155 : Prop := (true && bif q154 then false else true) = true → True;
  let q156 : Nat := q152.length;
  let q157 : Int := (↑q156 : Int);
  let q158 : Bool := bif q154 then true else q157 == q5;
  let q159 : Prop := (true && bif q158 then false else true) = true → True;
  let q160 : Bool := bif q158 then true else decide ((↑q151.length : Int) < q8);
  let q161 : Int := x.2.2.1.tmod q157;
  True →
    dFact (Ty.int IntKind.u8).slice x.1 ∧ dFact (Ty.int IntKind.u8).slice x.2.1 ∧ dFact (Ty.int IntKind.u8) x.2.2.1 ∧ True →
      q0 ∧
        q2 ∧
          q2 ∧
            ((!true) = true → q0 ∧ false = true) ∧
              ((!true) = false →
                q4 ∧
                  ((True ∧ True ∧ (q42 ∧ q43 ≤ q6) ∧ True ∧ True) ∧ True ∧ True) ∧
                    ((True ∧ q8 ≠ q5 ∧ True ∧ True) ∧ True) ∧
                      (q44 = true →
                          ((True ∧ True ∧ q42 ∧ True) ∧ True ∧ True) ∧
                            ((True ∧ True ∧ q45 ∧ True ∧ True ∧ q51 ∧ q51 ∧ q51 ∧ q51 ∧ True ∧ True ∧ q55 ∧ q55 ∧ q55 ∧ q55 ∧ True ∧ True) ∧ True) ∧
                              (q56 = true → q10) ∧
                                (q56 = false →
                                  ((True ∧ True ∧ True ∧ True ∧ True ∧ True ∧ True ∧ q53 ≠ q5 ∧ inN q57 q52 ∧ q1) ∧ True) ∧
                                    q11 ∧
                                      q4 ∧
                                        q12 ∧
                                          q0 ∧
                                            q0 ∧
                                              (∃ (x_1 : Nat),
                                                  let q162 : Nat := Sp.stp (Sp.madeP x.1) x_1;
                                                  x_1 ≤ q58 ∧ q5 = (↑x_1 : Int) ∧ q5 = (↑q162 : Int) ∧ q48.getD q57.toNat q5 = q60 ∧ q49 = q65 ∧ ([] : List tI.den) = Sp.toL q59 q162 ∧ (q13, ()) = (Sp.lessN (Sp.madeP x.1) q59 x_1, ()) ∧ (([] : List tLEv.den), q17) = (Sp.hEN q61 q59 q162, q17) ∧ q67) ∧
                                                q150)) ∧
                        (q44 = false →
                          ((True ∧ True ∧ q45 ∧ True ∧ True ∧ q155 ∧ q155 ∧ q155 ∧ q155 ∧ True ∧ True ∧ q159 ∧ q159 ∧ q159 ∧ q159 ∧ True ∧ True) ∧ True) ∧
                            (q160 = true → q10) ∧
                              (q160 = false →
                                ((True ∧ True ∧ True ∧ True ∧ True ∧ True ∧ True ∧ q157 ≠ q5 ∧ inN q161 q156 ∧ q1) ∧ True) ∧
                                  q11 ∧
                                    q4 ∧
                                      q12 ∧
                                        q0 ∧
                                          q0 ∧
                                            (∃ (x_1 : Nat),
                                                let q163 : Nat := Sp.stp (Sp.madeP x.1) x_1;
                                                x_1 ≤ q58 ∧ q5 = (↑x_1 : Int) ∧ q5 = (↑q163 : Int) ∧ q152.getD q161.toNat q5 = q60 ∧ q153 = q65 ∧ ([] : List tI.den) = Sp.toL q59 q163 ∧ (q13, ()) = (Sp.lessN (Sp.madeP x.1) q59 x_1, ()) ∧ (([] : List tLEv.den), q17) = (Sp.hEN q61 q59 q163, q17) ∧ q67) ∧
                                              q150)))) := by kernel_rfl
end Go.User
namespace Go.User
open Go.Proofs Go.Lf
set_option maxRecDepth 100000
theorem vc10 : funI C10 (stpP C10) S10 L10 Try.f10 = (
let q0 : Prop := (True ∧ True) ∧ True;
let q1 : Prop := True ∧ True ∧ True;
let q2 : Prop := q1 ∧ True ∧ True;
let q3 : Prop := q1 ∧ True;
let q4 : Int := (0 : Int);
let q5 : Int := (2 : Int);
let q6 : Int := (1 : Int);
let q7 : Int × Unit := (q6, ());
let q8 : Int × Int × Int × Unit := (q5, q4, q7);
let q9 : Int × Unit := (q4, ());
let q10 : List (Int × Int × Int × Unit) := (q6, q6, q9) :: ([] : List tLOp.den);
let q11 : Int × Int × Int × Unit := (q5, q6, q7);
let q12 : Int × Int × Unit := (q4, q9);
let q13 : List (Int × Int × Int × Unit) := (q6, q12) :: ([] : List tLOp.den);
let q14 : List (List (Int × Int × Int × Unit)) := ([] : List tLOp.slice.den);
let q15 : List (List (Int × Int × Int × Unit)) := (q8 :: q10) :: (q11 :: q13) :: q14;
let q16 : List (Int × (Int × Int × Int × Unit) × Int × Unit) := Sp.evs q4 q15;
let q17 : Nat := q16.length;
let q18 : Nat := (1000 : Nat);
let q19 : Prop := q17 ≤ q18;
let q20 : Prop := (true && true) = true;
let q21 : Prop := q20 → True;
let q22 : Int := (4 : Int);
let q23 : Int × Int × Int × Unit := (q22, q12);
let q24 : List (List (Int × Int × Int × Unit)) := (q8 :: q23 :: q10) :: (q11 :: q23 :: q13) :: q14;
let q25 : List (Int × (Int × Int × Int × Unit) × Int × Unit) := Sp.evs q4 q24;
let q26 : Nat := q25.length;
let q27 : Prop := q20 → q26 ≤ q18;
let q28 : Nat := (100 : Nat);
let q29 : Int := -q6;
let q30 : List Int := q29 :: ([] : List tI.den);
let q31 : List Int := q29 :: q29 :: q30;
let q32 : List Int := q29 :: q31;
let q33 : List Int := q29 :: q29 :: q32;
let q34 : Prop := q20 → (q26 ≤ q28 ∧ ∀ (x : Sp.LEv), x ∈ q25 → inN x.2.1.2.1 (3 : Nat)) ∧ q33.length = q26 ∧ ∀ (v : Int), v ∈ q33 → v < (↑q26 : Int);
let q35 : List (List (Int × Int × Int × Unit)) × Unit := (q15, ());
let q36 : List (List (Int × Int × Int × Unit)) × Unit := (q24, ());
let q37 : List (Int × (Int × Int × Int × Unit) × Int × Unit) × List Int × List (List Int) × List Int × Unit := Sp.gr q36 q33 (q22 :: q6 :: ([] : List tI.den));
let q38 : Bool := bif bif bif bif !Sp.valid q35 then true else !Sp.valid q36 then true else Sp.valid (q14, ()) then true else Sp.right q35 (([] : List tLEv.den), ([] : List tI.den), ([] : List tI.slice.den), ([] : List tI.den), ()) then true else !Sp.right q36 q37;
let q39 : Prop := q0 ∧ false = true;
let q40 : Nat := q32.length;
let q41 : Bool := bif bif !Sp.allowed q35 (Sp.gr q35 q32 (([] : List tI.den))) then true else Sp.allowed q36 (Sp.gr q36 q33 (q6 :: q22 :: ([] : List tI.den))) then true else Sp.allowed q36 q37;
let q42 : Int := (1 : tI.den);
let q43 : Int × Unit := ((0 : tI.den), ());
let q44 : Int := (2 : tI.den);
let q45 : Int × Unit := (q6, ());
let q46 : List (List (Int × Int × Int × Unit)) := ((q42, q4, q43) :: (q44, q6, q45) :: ([] : List tLOp.den)) :: ((q42, q6, q43) :: (q44, q4, q45) :: ([] : List tLOp.den)) :: q14;
let q47 : List (Int × (Int × Int × Int × Unit) × Int × Unit) := Sp.evs q4 q46;
let q48 : Nat := q47.length;
let q49 : Prop := q48 ≤ q28 ∧ ∀ (x : Sp.LEv), x ∈ q47 → inN x.2.1.2.1 (3 : Nat);
let q50 : Int := (3 : Int);
let q51 : List Int := q50 :: q29 :: q6 :: q30;
let q52 : Prop := q48 ≤ q18;
let q53 : Prop := q20 → q52;
let q54 : List Int := q50 :: q31;
let q55 : List (List (Int × Int × Int × Unit)) × Unit := (q46, ());
let q56 : List (Int × (Int × Int × Int × Unit) × Int × Unit) × List Int × List (List Int) × List Int × Unit := Sp.gr q55 q51 (([] : List tI.den));
∀ (x : Unit), True → True → q0 ∧ q2 ∧ q2 ∧ ((True ∧ True ∧ True ∧ True ∧ True ∧ True ∧ True ∧ q1) ∧ True ∧ True) ∧ q3 ∧ q3 ∧ ((True ∧ q19 ∧ True ∧ True ∧ q21 ∧ q27 ∧ q21 ∧ True ∧ True ∧ q21 ∧ (q20 → (Sp.evs q4 q14).length ≤ q18) ∧ True ∧ True ∧ q21 ∧ q21 ∧ (q20 → q19) ∧ True ∧ True ∧ q21 ∧ q21 ∧ q21 ∧ q21 ∧ q34 ∧ q27 ∧ q21 ∧ True ∧ True) ∧ True) ∧ (q38 = true → q39) ∧ (q38 = false → ((True ∧ True ∧ True ∧ ((q17 ≤ q28 ∧ ∀ (x : Sp.LEv), x ∈ q16 → inN x.2.1.2.1 (3 : Nat)) ∧ q40 = q17 ∧ ∀ (v : Int), v ∈ q32 → v < (↑q17 : Int)) ∧ q19 ∧ True ∧ True ∧ q21 ∧ q21 ∧ q21 ∧ q21 ∧ q34 ∧ q27 ∧ True ∧ True ∧ q21 ∧ q21 ∧ q21 ∧ q21 ∧ q34 ∧ q27 ∧ True ∧ True) ∧ True) ∧ (q41 = true → q39) ∧ (q41 = false → ((True ∧ True ∧ (q49 ∧ q51.length = q48 ∧ ∀ (v : Int), v ∈ q51 → v < (↑q48 : Int)) ∧ True ∧ True) ∧ True ∧ True) ∧ ((True ∧ True ∧ q52 ∧ True ∧ q21 ∧ q21 ∧ q53 ∧ q21 ∧ True ∧ True ∧ q21 ∧ q21 ∧ q21 ∧ (q20 → q49 ∧ q40 = q48 ∧ ∀ (v : Int), v ∈ q32 → v < (↑q48 : Int)) ∧ q53 ∧ True ∧ True ∧ q21 ∧ q21 ∧ q21 ∧ (q20 → q49 ∧ q54.length = q48 ∧ ∀ (v : Int), v ∈ q54 → v < (↑q48 : Int)) ∧ q53 ∧ q1) ∧ True) ∧ (bif bif bif Sp.right q55 q56 then !Sp.allowed q55 q56 else false then Sp.allowed q55 (Sp.gr q55 q32 (([] : List tI.den))) else false then Sp.allowed q55 (Sp.gr q55 q54 (([] : List tI.den))) else false) = true))) := by kernel_rfl
end Go.User
namespace Go.User
open Go.Proofs Go.Lf
set_option maxRecDepth 100000
theorem vc12 : funI C12 (stpP C12) S12 L12 Try.f12 = (
let q0 : Int := (0 : Int);
let q1 : Nat := (3 : Nat);
let q2 : Prop := True ∧ True ∧ True;
let q3 : Prop := q2 ∧ True;
let q4 : Nat := (1000 : Nat);
let q5 : Prop := (True ∧ True) ∧ True;
let q6 : List (List Int) := ([] : List tI.slice.den);
let q7 : List Int × Unit := (([] : List tI.den), ());
let q8 : List Int × List (List Int) × List Int × Unit := (([] : List tI.den), q6, q7);
let q9 : List (Int × (Int × Int × Int × Unit) × Int × Unit) × List Int × List (List Int) × List Int × Unit := (([] : List tLEv.den), q8);
let q10 : Prop := q9 = q9;
let q11 : Prop := q10 ∧ True;
let q12 : Int := (3 : Int);
let q13 : List Step := Step.snd :: Step.fst :: ([] : List Step);
let q14 : List Step := List.append._f (([] : List Step)) PUnit.unit (Step.snd :: q13);
let q15 : Int := (1 : Int);
let q16 : Prop := True ∧ q2;
let q17 : Prop := True ∧ q16;
let q18 : Prop := (True ∧ q17) ∧ True;
let q19 : List Int := -q15 :: ([] : List tI.den);
let q20 : Nat := q19.length;
let q21 : List Step := List.append._f (([] : List Step)) PUnit.unit q13;
let q22 : Int × Unit := (q0, ());
let q23 : Int × (Int × Int × Int × Unit) × Int × Unit := (q0, (q0, q0, q22), q22);
let q24 : Int := (8 : Int);
let q25 : Prop := q24 ≠ q0;
let q26 : Nat := (8 : Nat);
∀ (x : (List (List (Int × Int × Int × Unit)) × Unit) × List Int × Unit),
  let q27 : List (Int × (Int × Int × Int × Unit) × Int × Unit) := Sp.evs q0 x.1.1;
  let q28 : Nat := q27.length;
  let q29 : Prop := x.2.1 = x.2.1;
  let q30 : Prop := x.1 = x.1;
  let q31 : Prop := q29 ∧ q30 ∧ q11;
  let q32 : Nat := q27.length;
  let q33 : Prop := q32 ≤ q4;
  let q34 : List Int := Sp.fen q27;
  let q35 : List (List Int) := Sp.mo3 q27 x.2.1;
  let q36 : List (List Int) × List Int × Unit := (q35, Sp.foOf q27 x.2.1, ());
  let q37 : List Int := (Sp.fromN q27 x.2.1 q28).1;
  let q38 : List Int × List (List Int) × List Int × Unit := (q37, q36);
  (q28 ≤ (100 : Nat) ∧ ∀ (x : Sp.LEv), x ∈ q27 → inN x.2.1.2.1 q1) →
    dFact (((Ty.int IntKind.i64).prod ((Ty.int IntKind.i64).prod ((Ty.int IntKind.i64).prod Ty.unit))).slice.slice.prod Ty.unit) x.1 ∧ dFact (Ty.int IntKind.u8).slice x.2.1 ∧ True →
      q3 ∧
        ((True ∧ q28 ≤ q4 ∧ q2) ∧ True ∧ True) ∧
          q5 ∧
            q5 ∧
              (∃ (x_1 : Nat),
                  let q39 : List (List Int) × Int := Sp.moN q27 x.2.1 x_1;
                  x_1 ≤ q1 ∧ q0 = (↑x_1 : Int) ∧ q0 = q39.2 ∧ (q27, q8) = (q27, ([] : List tI.den), q39.1, q7) ∧ q31) ∧
                ∀ (x_1 : Nat),
                  let q40 : List (List Int) × Int := Sp.moN q27 x.2.1 x_1;
                  let q41 : Int := q40.2;
                  let q42 : List (List Int) := q40.1;
                  let q43 : Bool := decide ((↑x_1 : Int) < q12);
                  let q44 : List Int := Sp.wr q27 (↑x_1 : Int);
                  let q45 : Nat := q44.length;
                  let q46 : Prop := q0 ≤ q41 ∧ q41 ≤ (1000 : (AK.val tI).den);
                  let q47 : List (List Int) := Sp.shuffled q44 x.2.1 q41 :: q6;
                  let q48 : Int := q41 + (↑q45 : Int);
                  let q49 : Int := (↑x_1 : Int) + q15;
                  let q50 : List Int := Sp.shuffled q34 x.2.1 q41;
                  let q51 : Int := q41 + (↑q50.length : Int);
                  x_1 ≤ q1 →
                    dFact (Ty.int IntKind.i64) (↑x_1 : Int) ∧ dFact (Ty.int IntKind.i64) q41 ∧ dFact (((Ty.int IntKind.i64).prod (((Ty.int IntKind.i64).prod ((Ty.int IntKind.i64).prod ((Ty.int IntKind.i64).prod Ty.unit))).prod ((Ty.int IntKind.i64).prod Ty.unit))).slice.prod ((Ty.int IntKind.i64).slice.prod ((Ty.int IntKind.i64).slice.slice.prod ((Ty.int IntKind.i64).slice.prod Ty.unit)))) (q27, ([] : List tI.den), q42, q7) ∧ True →
                      q3 ∧
                        (q43 = true →
                            ((True ∧ True ∧ True ∧ q33 ∧ True) ∧ True ∧ True) ∧
                              ((True ∧ True ∧ True ∧ True ∧ True ∧ (q45 ≤ q4 ∧ q46) ∧ True ∧ True) ∧ (↑(q42.length + q47.length) : Int) ≤ maxNew ∧ True ∧ q14 = q14 ∧ True) ∧
                                ((True ∧ True ∧ True ∧ inK IntKind.i64 q48 ∧ True ∧ True) ∧ True) ∧
                                  ((True ∧ inK IntKind.i64 q49 ∧ True ∧ True) ∧ True) ∧
                                    ∃ (y : Nat),
                                      let q52 : List (List Int) × Int := Sp.moN q27 x.2.1 y;
                                      y ≤ q1 ∧ q1 - y < q1 - x_1 ∧ q49 = (↑y : Int) ∧ q48 = q52.2 ∧ (q27, ([] : List tI.den), q42 ++ q47, q7) = (q27, ([] : List tI.den), q52.1, q7) ∧ q31) ∧
                          (q43 = false →
                            ((True ∧ True ∧ q33 ∧ True ∧ True ∧ (q34.length ≤ q4 ∧ q46) ∧ True ∧ True) ∧ True ∧ True) ∧
                              ((True ∧ True ∧ True ∧ True ∧ inK IntKind.i64 q51 ∧ True ∧ True) ∧ True) ∧
                                q5 ∧
                                  (∃ (x_2 : Nat),
                                      let q53 : List Int × Int := Sp.fromN q27 x.2.1 x_2;
                                      x_2 ≤ q28 ∧ q0 = (↑x_2 : Int) ∧ q51 = q53.2 ∧ (q27, ([] : List tI.den), q42, q50, ()) = (q27, q53.1, q36) ∧ q31) ∧
                                    ∀ (x_2 : Nat),
                                      let q54 : List Int × Int := Sp.fromN q27 x.2.1 x_2;
                                      let q55 : Int := q54.2;
                                      let q56 : List Int := q54.1;
                                      let q57 : List (Int × (Int × Int × Int × Unit) × Int × Unit) × List Int × List (List Int) × List Int × Unit := (q27, q56, q36);
                                      let q58 : Bool := decide ((↑x_2 : Int) < (↑q32 : Int));
                                      let q59 : Prop := inN (↑x_2 : Int) q32;
                                      let q60 : Nat := (↑x_2 : Int).toNat;
                                      let q61 : Int × Int × Int × Unit := (q27.getD q60 q23).2.1;
                                      let q62 : Bool := !Sp.reads q61;
                                      let q63 : Int := (↑x_2 : Int) + q15;
                                      let q64 : Prop := (True ∧ inK IntKind.i64 q63 ∧ True ∧ True) ∧ True;
                                      let q65 : List Int := q56 ++ q19;
                                      let q66 : Int := q61.2.1;
                                      let q67 : List Int := q35.getD q66.toNat (([] : List tI.den));
                                      let q68 : Int := q55 + q15;
                                      let q69 : Bool := q61.1 == q12;
                                      let q70 : Prop := (true && bif q69 then true else false) = true;
                                      let q71 : Prop := q70 → True;
                                      let q72 : Int := Sp.byteAt x.2.1 q55;
                                      let q73 : Bool := bif q69 then q72.tmod q24 != (7 : Int) else false;
                                      let q74 : List Int := q19 ++ q67;
                                      let q75 : Int := Sp.idx q74 (↑x_2 : Int) - q15;
                                      let q76 : Nat := q74.length;
                                      let q77 : Prop := True ∧ inN (↑x_2 : Int) q65.length ∧ True;
                                      let q78 : Int := q72.tdiv q24;
                                      let q79 : Int := (↑q76 : Int);
                                      let q80 : Int := q78.tmod q79;
                                      x_2 ≤ q28 →
                                        dFact (Ty.int IntKind.i64) (↑x_2 : Int) ∧ dFact (Ty.int IntKind.i64) q55 ∧ dFact (((Ty.int IntKind.i64).prod (((Ty.int IntKind.i64).prod ((Ty.int IntKind.i64).prod ((Ty.int IntKind.i64).prod Ty.unit))).prod ((Ty.int IntKind.i64).prod Ty.unit))).slice.prod ((Ty.int IntKind.i64).slice.prod ((Ty.int IntKind.i64).slice.slice.prod ((Ty.int IntKind.i64).slice.prod Ty.unit)))) q57 ∧ True →
                                          q18 ∧
                                            (q58 = true →
                                                (q16 ∧ (↑(q56.length + q20) : Int) ≤ maxNew ∧ True ∧ q21 = q21 ∧ True) ∧
                                                  ((True ∧ True ∧ True ∧ q59 ∧ q17) ∧ True) ∧
                                                    (q62 = true →
                                                        q64 ∧
                                                          ∃ (y : Nat),
                                                            let q81 : List Int × Int := Sp.fromN q27 x.2.1 y;
                                                            y ≤ q28 ∧ q28 - y < q28 - x_2 ∧ q63 = (↑y : Int) ∧ q55 = q81.2 ∧ (q27, q65, q36) = (q27, q81.1, q36) ∧ q31) ∧
                                                      (q62 = false →
                                                        ((True ∧ True ∧ True ∧ True ∧ True ∧ True ∧ q59 ∧ True ∧ True ∧ True ∧ inN q66 q35.length ∧ True ∧ (↑(q20 + q67.length) : Int) ≤ maxNew ∧ True) ∧ True ∧ True) ∧
                                                          ((True ∧ True ∧ (0 : (AK.val tI).den) ≤ q55 ∧ True ∧ True) ∧ True) ∧
                                                            ((True ∧ inK IntKind.i64 q68 ∧ True ∧ True) ∧ True) ∧
                                                              ((True ∧ True ∧ True ∧ q59 ∧ True ∧ True ∧ True ∧ True ∧ True ∧ q71 ∧ (q70 → q25) ∧ q71 ∧ True ∧ True) ∧ True) ∧
                                                                (q73 = true →
                                                                    ((True ∧ True ∧ True ∧ True ∧ True ∧ True ∧ True ∧ inK IntKind.i64 q75 ∧ inN q75 q76 ∧ q77) ∧ True ∧ True) ∧
                                                                      q64 ∧
                                                                        ∃ (y : Nat),
                                                                          let q82 : List Int × Int := Sp.fromN q27 x.2.1 y;
                                                                          y ≤ q28 ∧ q28 - y < q28 - x_2 ∧ q63 = (↑y : Int) ∧ q68 = q82.2 ∧ (q27, q65.set q60 (q74.getD q75.toNat q0), q36) = (q27, q82.1, q36) ∧ q31) ∧
                                                                  (q73 = false →
                                                                    ((True ∧ True ∧ True ∧ True ∧ True ∧ (q25 ∧ inK IntKind.i64 q78) ∧ True ∧ True ∧ q79 ≠ q0 ∧ inN q80 q76 ∧ q77) ∧ True ∧ True) ∧
                                                                      q64 ∧
                                                                        ∃ (y : Nat),
                                                                          let q83 : List Int × Int := Sp.fromN q27 x.2.1 y;
                                                                          y ≤ q28 ∧ q28 - y < q28 - x_2 ∧ q63 = (↑y : Int) ∧ q68 = q83.2 ∧ (q27, q65.set q60 (q74.getD q80.toNat q0), q36) = (q27, q83.1, q36) ∧ q31))) ∧
                                              (q58 = false →
                                                q5 ∧
                                                  (∃ (x : Nat), x ≤ q26 ∧ q0 = (↑x : Int) ∧ q57 = (Sp.rounds q37 q27 x, q38) ∧ q31) ∧
                                                    ∀ (x_3 : Nat),
                                                      let q84 : List (Int × (Int × Int × Int × Unit) × Int × Unit) × List Int × List (List Int) × List Int × Unit := (Sp.rounds q37 q27 x_3, q38);
                                                      let q85 : Bool := decide ((↑x_3 : Int) < q24);
                                                      let q86 : Prop := q29 ∧ q30 ∧ q10 ∧ (↑x_3 : Int) = (↑x_3 : Int) ∧ True;
                                                      let q87 : Int := (↑x_3 : Int) + q15;
                                                      x_3 ≤ q26 →
                                                        dFact (Ty.int IntKind.i64) (↑x_3 : Int) ∧ dFact (((Ty.int IntKind.i64).prod (((Ty.int IntKind.i64).prod ((Ty.int IntKind.i64).prod ((Ty.int IntKind.i64).prod Ty.unit))).prod ((Ty.int IntKind.i64).prod Ty.unit))).slice.prod ((Ty.int IntKind.i64).slice.prod ((Ty.int IntKind.i64).slice.slice.prod ((Ty.int IntKind.i64).slice.prod Ty.unit)))) q84 ∧ True →
                                                          q3 ∧
                                                            (q85 = true →
                                                                q5 ∧
                                                                  (∃ (x : Nat), x ≤ q28 ∧ q0 = (↑x : Int) ∧ q84 = (Sp.rndN q37 (Sp.rounds q37 q27 x_3) x, q38) ∧ q86) ∧
                                                                    ∀ (x : Nat),
                                                                      let q88 : List (Int × (Int × Int × Int × Unit) × Int × Unit) := Sp.rndN q37 (Sp.rounds q37 q27 x_3) x;
                                                                      let q89 : List (Int × (Int × Int × Int × Unit) × Int × Unit) × List Int × List (List Int) × List Int × Unit := (q88, q38);
                                                                      let q90 : Nat := q88.length;
                                                                      let q91 : Int := (↑q90 : Int);
                                                                      let q92 : Bool := decide ((↑x : Int) < q91);
                                                                      let q93 : Prop := inN (↑x : Int) q90;
                                                                      let q94 : Nat := (↑x : Int).toNat;
                                                                      let q95 : Int × (Int × Int × Int × Unit) × Int × Unit := q88.getD q94 q23;
                                                                      let q96 : (Int × Int × Int × Unit) × Int × Unit := q95.2;
                                                                      let q97 : Int × Int × Int × Unit := q96.1;
                                                                      let q98 : Bool := Sp.reads q97;
                                                                      let q99 : Int := q37.getD q94 q0;
                                                                      let q100 : Int := (↑x : Int) + q15;
                                                                      let q101 : Prop := (True ∧ inK IntKind.i64 q100 ∧ True ∧ True) ∧ True;
                                                                      x ≤ q28 → dFact (Ty.int IntKind.i64) (↑x : Int) ∧ dFact (((Ty.int IntKind.i64).prod (((Ty.int IntKind.i64).prod ((Ty.int IntKind.i64).prod ((Ty.int IntKind.i64).prod Ty.unit))).prod ((Ty.int IntKind.i64).prod Ty.unit))).slice.prod ((Ty.int IntKind.i64).slice.prod ((Ty.int IntKind.i64).slice.slice.prod ((Ty.int IntKind.i64).slice.prod Ty.unit)))) q89 ∧ True → q18 ∧ (q92 = true → ((True ∧ True ∧ True ∧ q93 ∧ q16) ∧ True) ∧ (q98 = true → ((True ∧ True ∧ True ∧ True ∧ True ∧ True ∧ True ∧ inN (↑x : Int) q37.length ∧ True ∧ q99 < q91 ∧ q93 ∧ True ∧ True) ∧ True ∧ True) ∧ q101 ∧ ∃ (y : Nat), y ≤ q28 ∧ q28 - y < q28 - x ∧ q100 = (↑y : Int) ∧ (q88.set q94 (q95.1, q97, Sp.value q88 q99, q96.2.2), q38) = (Sp.rndN q37 (Sp.rounds q37 q27 x_3) y, q38) ∧ q86) ∧ (q98 = false → q101 ∧ ∃ (y : Nat), y ≤ q28 ∧ q28 - y < q28 - x ∧ q100 = (↑y : Int) ∧ q89 = (Sp.rndN q37 (Sp.rounds q37 q27 x_3) y, q38) ∧ q86)) ∧ (q92 = false → ((True ∧ inK IntKind.i64 q87 ∧ True ∧ True) ∧ True) ∧ ∃ (y : Nat), y ≤ q26 ∧ q26 - y < q26 - x_3 ∧ q87 = (↑y : Int) ∧ q89 = (Sp.rounds q37 q27 y, q38) ∧ q31)) ∧
                                                              (q85 = false → ((True ∧ True) ∧ True ∧ True) ∧ q84 = Sp.graph x.1 x.2.1)))) := by kernel_rfl
theorem vc30 : funI C30 (stpP C30) S30 L30 Try.f30 = (
let q0 : Int := (0 : Int);
let q1 : Nat := (100 : Nat);
let q2 : Nat := (3 : Nat);
let q3 : Prop := True ∧ True ∧ True;
let q4 : Prop := q3 ∧ True;
let q5 : Prop := q3 ∧ True ∧ True;
let q6 : Prop := (True ∧ True) ∧ True;
let q7 : List Int := ([] : List (Ty.int IntKind.u8).den);
let q8 : Nat := (8 : Nat);
let q9 : List (Int × (Int × Int × Int × Unit) × Int × Unit) × List Int × List (List Int) × List Int × Unit := (([] : List tLEv.den), ([] : List tI.den), ([] : List tI.slice.den), ([] : List tI.den), ());
let q10 : Prop := q9 = q9;
let q11 : Prop := q10 ∧ True;
let q12 : Int × Unit := (q0, ());
let q13 : Int × (Int × Int × Int × Unit) × Int × Unit := (q0, (q0, q0, q12), q12);
let q14 : Int := (1 : Int);
∀ (x : (List (List (Int × Int × Int × Unit)) × Unit) × List Int × List Int × Unit),
  let q15 : List (Int × (Int × Int × Int × Unit) × Int × Unit) := Sp.evs q0 x.1.1;
  let q16 : Nat := q15.length;
  let q17 : Prop := q16 ≤ q1 ∧ ∀ (x : Sp.LEv), x ∈ q15 → inN x.2.1.2.1 q2;
  let q18 : Nat := x.2.1.length;
  let q19 : List Int × Unit := (x.2.2.1, ());
  let q20 : List (Int × (Int × Int × Int × Unit) × Int × Unit) := Sp.rounds (Sp.fromN q15 (([] : List Int)) q16).1 q15 q8;
  let q21 : List Int × List (List Int) × List Int × Unit := (x.2.1, Sp.mo3 q15 (([] : List Int)), q19);
  let q22 : Prop := x.2.1 = x.2.1;
  let q23 : Prop := x.2.2.1 = x.2.2.1;
  let q24 : Prop := x.1 = x.1;
  let q25 : Prop := q22 ∧ q23 ∧ q24 ∧ q11;
  (q17 ∧ q18 = q16 ∧ ∀ (v : Int), v ∈ x.2.1 → v < (↑q16 : Int)) →
    dFact (((Ty.int IntKind.i64).prod ((Ty.int IntKind.i64).prod ((Ty.int IntKind.i64).prod Ty.unit))).slice.slice.prod Ty.unit) x.1 ∧ dFact (Ty.int IntKind.i64).slice x.2.1 ∧ dFact (Ty.int IntKind.i64).slice x.2.2.1 ∧ True →
      q4 ∧
        ((True ∧ q17 ∧ True ∧ True) ∧ True ∧ True) ∧
          q5 ∧
            q5 ∧
              q6 ∧
                (∃ (x_1 : Nat), x_1 ≤ q2 ∧ q0 = (↑x_1 : Int) ∧ (Sp.rounds (Sp.fromN q15 q7 q16).1 q15 q8, x.2.1, Sp.mo3 q15 q7, q19) = (Sp.stGR x.2.1 q20 x_1, q21) ∧ q25) ∧
                  ∀ (x_1 : Nat),
                    let q26 : List (Int × (Int × Int × Int × Unit) × Int × Unit) := Sp.stGR x.2.1 q20 x_1;
                    let q27 : List (Int × (Int × Int × Int × Unit) × Int × Unit) × List Int × List (List Int) × List Int × Unit := (q26, q21);
                    let q28 : Bool := decide ((↑x_1 : Int) < (3 : Int));
                    let q29 : Prop := q22 ∧ q23 ∧ q24 ∧ q10 ∧ (↑x_1 : Int) = (↑x_1 : Int) ∧ True;
                    let q30 : Int := (↑x_1 : Int) + q14;
                    x_1 ≤ q2 →
                      dFact (Ty.int IntKind.i64) (↑x_1 : Int) ∧ dFact (((Ty.int IntKind.i64).prod (((Ty.int IntKind.i64).prod ((Ty.int IntKind.i64).prod ((Ty.int IntKind.i64).prod Ty.unit))).prod ((Ty.int IntKind.i64).prod Ty.unit))).slice.prod ((Ty.int IntKind.i64).slice.prod ((Ty.int IntKind.i64).slice.slice.prod ((Ty.int IntKind.i64).slice.prod Ty.unit)))) q27 ∧ True →
                        q4 ∧
                          (q28 = true →
                              q6 ∧
                                (∃ (x_2 : Nat), x_2 ≤ q16 ∧ q0 = (↑x_2 : Int) ∧ q27 = (Sp.stGN x.2.1 q26 x_2, q21) ∧ q29) ∧
                                  ∀ (x_2 : Nat),
                                    let q31 : List (Int × (Int × Int × Int × Unit) × Int × Unit) := Sp.stGN x.2.1 q26 x_2;
                                    let q32 : List (Int × (Int × Int × Int × Unit) × Int × Unit) × List Int × List (List Int) × List Int × Unit := (q31, q21);
                                    let q33 : Nat := q31.length;
                                    let q34 : Bool := decide ((↑x_2 : Int) < (↑q33 : Int));
                                    let q35 : Prop := inN (↑x_2 : Int) q18;
                                    let q36 : Nat := (↑x_2 : Int).toNat;
                                    let q37 : Int := x.2.1.getD q36 q0;
                                    let q38 : Bool := decide (q37 ≥ q0);
                                    let q39 : Int × (Int × Int × Int × Unit) × Int × Unit := q31.getD q36 q13;
                                    let q40 : (Int × Int × Int × Unit) × Int × Unit := q39.2;
                                    let q41 : List (Int × (Int × Int × Int × Unit) × Int × Unit) := q31.set q36 (q39.1, q40.1, q0, q40.2.2);
                                    let q42 : Nat := q41.length;
                                    let q43 : Int := (↑x_2 : Int) + q14;
                                    let q44 : Prop := (True ∧ inK IntKind.i64 q43 ∧ True ∧ True) ∧ True;
                                    let q45 : Int × (Int × Int × Int × Unit) × Int × Unit := q41.getD q36 q13;
                                    let q46 : (Int × Int × Int × Unit) × Int × Unit := q45.2;
                                    x_2 ≤ q16 → dFact (Ty.int IntKind.i64) (↑x_2 : Int) ∧ dFact (((Ty.int IntKind.i64).prod (((Ty.int IntKind.i64).prod ((Ty.int IntKind.i64).prod ((Ty.int IntKind.i64).prod Ty.unit))).prod ((Ty.int IntKind.i64).prod Ty.unit))).slice.prod ((Ty.int IntKind.i64).slice.prod ((Ty.int IntKind.i64).slice.slice.prod ((Ty.int IntKind.i64).slice.prod Ty.unit)))) q32 ∧ True → ((True ∧ True ∧ True ∧ q3) ∧ True) ∧ (q34 = true → ((True ∧ True ∧ True ∧ inN (↑x_2 : Int) q33 ∧ True ∧ True) ∧ True ∧ True) ∧ ((True ∧ True ∧ q35 ∧ q3) ∧ True) ∧ (q38 = true → ((True ∧ True ∧ True ∧ True ∧ True ∧ True ∧ True ∧ q35 ∧ True ∧ inN q37 q42 ∧ True ∧ True ∧ True ∧ inN (↑x_2 : Int) q42 ∧ True ∧ True) ∧ True ∧ True) ∧ q44 ∧ ∃ (y : Nat), y ≤ q16 ∧ q16 - y < q16 - x_2 ∧ q43 = (↑y : Int) ∧ (q41.set q36 (q45.1, q46.1, (q41.getD q37.toNat q13).2.1.2.2.1, q46.2.2), q21) = (Sp.stGN x.2.1 q26 y, q21) ∧ q29) ∧ (q38 = false → q44 ∧ ∃ (y : Nat), y ≤ q16 ∧ q16 - y < q16 - x_2 ∧ q43 = (↑y : Int) ∧ (q41, q21) = (Sp.stGN x.2.1 q26 y, q21) ∧ q29)) ∧ (q34 = false → ((True ∧ inK IntKind.i64 q30 ∧ True ∧ True) ∧ True) ∧ ∃ (y : Nat), y ≤ q2 ∧ q2 - y < q2 - x_1 ∧ q30 = (↑y : Int) ∧ q32 = (Sp.stGR x.2.1 q20 y, q21) ∧ q25)) ∧
                            (q28 = false → ((True ∧ True) ∧ True ∧ True) ∧ q27 = Sp.gr x.1 x.2.1 x.2.2.1)) := by kernel_rfl
end Go.User
namespace Go.User
open Go.Proofs Go.Lf
set_option maxRecDepth 100000
theorem vc54 : funI C54 (stpP C54) S54 L54 Try.f54 = (
let q0 : Prop := True ∧ True ∧ True;
let q1 : Prop := q0 ∧ True;
let q2 : Prop := True ∧ q0;
let q3 : Prop := q2 ∧ True;
let q4 : Int := (0 : Int);
let q5 : Int × Unit := (q4, ());
let q6 : Int × (Int × Int × Int × Unit) × Int × Unit := (q4, (q4, q4, q5), q5);
let q7 : Prop := (True ∧ True) ∧ True;
∀ (x : (List (Int × (Int × Int × Int × Unit) × Int × Unit) × List Int × List (List Int) × List Int × Unit) × Int × Int × Unit),
  let q8 : Nat := x.1.1.length;
  let q9 : Nat := x.1.2.1.length;
  let q10 : Int := (Sp.ev x.1.1 x.2.1).2.1.2.1;
  let q11 : Nat := x.1.2.2.1.length;
  let q12 : Int := (Sp.ev x.1.1 x.2.2.1).2.1.2.1;
  let q13 : Nat := x.1.1.length;
  let q14 : Prop := inN x.2.1 q13;
  let q15 : Nat := x.1.2.1.length;
  let q16 : Nat := x.1.2.2.1.length;
  let q17 : Prop := inN x.2.2.1 q13;
  let q18 : Bool := Sp.writes (x.1.1.getD x.2.1.toNat q6).2.1;
  let q19 : Nat := x.2.2.1.toNat;
  let q20 : Int × Int × Int × Unit := (x.1.1.getD q19 q6).2.1;
  let q21 : Bool := Sp.reads q20;
  let q22 : Prop := (true && bif q21 then true else false) = true → True;
  let q23 : Prop := (True ∧ True ∧ True ∧ q22 ∧ q22 ∧ q22 ∧ q22 ∧ q0) ∧ True;
  let q24 : List Int := x.1.2.2.1.getD q12.toNat (([] : List Int));
  let q25 : Int := Sp.idx q24 (x.1.2.1.getD q19 q4);
  let q26 : List Int := x.1.2.2.1.getD q10.toNat (([] : List Int));
  let q27 : Int := Sp.idx q26 x.2.1;
  let q28 : Bool := bif q21 then decide (q25 < q27) else false;
  let q29 : Bool := Sp.coh x.1 x.2.1 x.2.2.1;
  let q30 : Prop := q7 ∧ false = q29;
  let q31 : Bool := Sp.writes q20;
  let q32 : Prop := (true && bif q31 then true else false) = true → True;
  let q33 : Prop := (True ∧ True ∧ True ∧ q32 ∧ q32 ∧ q32 ∧ q32 ∧ q0) ∧ True;
  let q34 : Int := Sp.idx q24 x.2.2.1;
  let q35 : Bool := bif q31 then decide (q34 ≤ q27) else false;
  let q36 : Prop := q7 ∧ true = q29;
  let q37 : Int := Sp.idx q26 (x.1.2.1.getD x.2.1.toNat q4);
  let q38 : Bool := bif q21 then decide (q25 < q37) else false;
  let q39 : Bool := bif q31 then decide (q34 ≤ q37) else false;
  (inN x.2.1 q8 ∧ inN x.2.1 q9 ∧ inN q10 q11) ∧ inN x.2.2.1 q8 ∧ inN x.2.2.1 q9 ∧ inN q12 q11 → dFact (((Ty.int IntKind.i64).prod (((Ty.int IntKind.i64).prod ((Ty.int IntKind.i64).prod ((Ty.int IntKind.i64).prod Ty.unit))).prod ((Ty.int IntKind.i64).prod Ty.unit))).slice.prod ((Ty.int IntKind.i64).slice.prod ((Ty.int IntKind.i64).slice.slice.prod ((Ty.int IntKind.i64).slice.prod Ty.unit)))) x.1 ∧ dFact (Ty.int IntKind.i64) x.2.1 ∧ dFact (Ty.int IntKind.i64) x.2.2.1 ∧ True → q1 ∧ ((True ∧ True ∧ (q14 ∧ inN x.2.1 q15 ∧ inN q10 q16) ∧ True ∧ True ∧ (q17 ∧ inN x.2.2.1 q15 ∧ inN q12 q16) ∧ q0) ∧ q0) ∧ (True ∧ True ∧ True ∧ q14 ∧ True ∧ True ∧ True ∧ True ∧ True ∧ q17 ∧ True ∧ q2) ∧ q3 ∧ q1 ∧ (q18 = true → q3 ∧ q23 ∧ (q28 = true → q30) ∧ (q28 = false → q33 ∧ (q35 = true → q30) ∧ (q35 = false → q36))) ∧ (q18 = false → q23 ∧ (q38 = true → q30) ∧ (q38 = false → q33 ∧ (q39 = true → q30) ∧ (q39 = false → q36)))) := by kernel_rfl
theorem vc16 : funI C16 (stpP C16) S16 L16 Try.f16 = (
let q0 : Int := (0 : Int);
let q1 : Nat := (1000 : Nat);
let q2 : Prop := True ∧ True ∧ True;
let q3 : Prop := True ∧ q2;
let q4 : Prop := q3 ∧ True;
let q5 : Int := (3 : Int);
let q6 : Prop := (True ∧ True) ∧ True;
let q7 : Prop := ([] : List Step) = ([] : List Step);
let q8 : Int × Unit := (q0, ());
let q9 : Int × (Int × Int × Int × Unit) × Int × Unit := (q0, (q0, q0, q8), q8);
let q10 : Int := (1 : Int);
let q11 : Prop := (True ∧ q3) ∧ True;
let q12 : Nat := (3 : Nat);
∀ (x : (List (List (Int × Int × Int × Unit)) × Unit) × (List (Int × (Int × Int × Int × Unit) × Int × Unit) × List Int × List (List Int) × List Int × Unit) × Unit),
  let q13 : List (Int × (Int × Int × Int × Unit) × Int × Unit) := Sp.evs q0 x.1.1;
  let q14 : Nat := q13.length;
  let q15 : Prop := q14 ≤ q1;
  let q16 : Bool := !Sp.valid x.1;
  let q17 : Prop := (true && bif q16 then false else true) = true → True;
  let q18 : Nat := x.2.1.1.length;
  let q19 : Int := (↑q18 : Int);
  let q20 : Nat := q13.length;
  let q21 : Int := (↑q20 : Int);
  let q22 : Bool := bif q16 then true else q19 != q21;
  let q23 : Prop := (true && bif q22 then false else true) = true → True;
  let q24 : Nat := x.2.1.2.1.length;
  let q25 : Bool := bif q22 then true else (↑q24 : Int) != q21;
  let q26 : Prop := (true && bif q25 then false else true) = true → True;
  let q27 : List (List Int) := x.2.1.2.2.1;
  let q28 : Nat := q27.length;
  let q29 : Bool := bif q25 then true else (↑q28 : Int) != q5;
  let q30 : Bool := Sp.right x.1 x.2.1;
  let q31 : Prop := q6 ∧ false = q30;
  let q32 : Prop := x.1 = x.1;
  let q33 : Prop := x.2.1 = x.2.1;
  let q34 : Prop := q13 = q13;
  let q35 : Prop := q32 ∧ q33 ∧ q34 ∧ q7 ∧ q21 = q21 ∧ True;
  let q36 : Prop := q32 ∧ q33 ∧ q34 ∧ x.2.1.1 = x.2.1.1 ∧ q19 = q19 ∧ True;
  let q37 : Prop := q32 ∧ q33 ∧ q34 ∧ True;
  let q38 : Prop := True ∧ (q20 ≤ q1 ∧ ∀ (o : Int × Int × Int × Unit), True) ∧ True ∧ True;
  q15 →
    dFact (((Ty.int IntKind.i64).prod ((Ty.int IntKind.i64).prod ((Ty.int IntKind.i64).prod Ty.unit))).slice.slice.prod Ty.unit) x.1 ∧ dFact (((Ty.int IntKind.i64).prod (((Ty.int IntKind.i64).prod ((Ty.int IntKind.i64).prod ((Ty.int IntKind.i64).prod Ty.unit))).prod ((Ty.int IntKind.i64).prod Ty.unit))).slice.prod ((Ty.int IntKind.i64).slice.prod ((Ty.int IntKind.i64).slice.slice.prod ((Ty.int IntKind.i64).slice.prod Ty.unit)))) x.2.1 ∧ True →
      q4 ∧
        ((True ∧ q15 ∧ True) ∧ True ∧ True) ∧
          ((True ∧ q15 ∧ True ∧ True ∧ q17 ∧ q17 ∧ q17 ∧ q17 ∧ q17 ∧ q17 ∧ True ∧ True ∧ q23 ∧ q23 ∧ q23 ∧ q23 ∧ q23 ∧ q23 ∧ True ∧ True ∧ q26 ∧ q26 ∧ q26 ∧ q26 ∧ True ∧ True) ∧ True) ∧
            (q29 = true → q31) ∧
              (q29 = false →
                q4 ∧
                  (∃ (x_1 : Nat), (x_1 ≤ q14 ∧ ∀ (n : Nat), n < x_1 → Sp.src q13 x.2.1 n) ∧ q0 = (↑x_1 : Int) ∧ q35) ∧
                    ∀ (x_1 : Nat),
                      let q39 : Bool := decide ((↑x_1 : Int) < q21);
                      let q40 : Nat := (↑x_1 : Int).toNat;
                      let q41 : Int × (Int × Int × Int × Unit) × Int × Unit := x.2.1.1.getD q40 q9;
                      let q42 : Int × (Int × Int × Int × Unit) × Int × Unit := q13.getD q40 q9;
                      let q43 : (Int × Int × Int × Unit) × Int × Unit := q41.2;
                      let q44 : Int × Int × Int × Unit := q43.1;
                      let q45 : Int × Int × Int × Unit := q42.2.1;
                      let q46 : Int × Int × Unit := q44.2;
                      let q47 : Int × Int × Unit := q45.2;
                      let q48 : Int := q47.1;
                      let q49 : Int := q43.2.1;
                      let q50 : Bool := !(decide (q41.1 = q42.1) && (decide (q44.1 = q45.1) && (decide (q46.1 = q48) && (decide (q46.2.1 = q47.2.1) && true)) && (decide (q49 = q49) && true)));
                      let q51 : Prop := (true && bif q50 then false else true) = true → True;
                      let q52 : Int := x.2.1.2.1.getD q40 q0;
                      let q53 : Bool := bif q50 then true else decide (q52 < -q10);
                      let q54 : Prop := (true && bif q53 then false else true) = true → True;
                      let q55 : Bool := bif q53 then true else decide (q52 ≥ q21);
                      let q56 : Bool := decide (q52 ≥ q0);
                      let q57 : Bool := true && bif q56 then true else false;
                      let q58 : Prop := q57 = true → True;
                      let q59 : Bool := !Sp.reads q45;
                      let q60 : Prop := (q57 && bif q59 then false else true) = true;
                      let q61 : Prop := q60 → True;
                      let q62 : Prop := inN q52 q20;
                      let q63 : Int × Int × Int × Unit := (q13.getD q52.toNat q9).2.1;
                      let q64 : Bool := bif q59 then true else !Sp.writes q63;
                      let q65 : Prop := (q57 && bif q64 then false else true) = true;
                      let q66 : Prop := q65 → True;
                      let q67 : Bool := bif q56 then bif q64 then true else q63.2.1 != q48 else false;
                      let q68 : Int := (↑x_1 : Int) + q10;
                      (x_1 ≤ q14 ∧ ∀ (n : Nat), n < x_1 → Sp.src q13 x.2.1 n) →
                        dFact (Ty.int IntKind.i64) (↑x_1 : Int) ∧ True →
                          q6 ∧
                            (q39 = true → ((True ∧ inN (↑x_1 : Int) q20 ∧ q3) ∧ True ∧ True) ∧ ((True ∧ True ∧ True ∧ inN (↑x_1 : Int) q18 ∧ q2) ∧ True ∧ True) ∧ ((True ∧ True ∧ True ∧ inN (↑x_1 : Int) q24 ∧ q2) ∧ True) ∧ (q3 ∧ True ∧ True) ∧ ((True ∧ True ∧ True ∧ True ∧ q51 ∧ q51 ∧ True ∧ True ∧ q54 ∧ q54 ∧ q54 ∧ q54 ∧ True ∧ True) ∧ True) ∧ (q55 = true → q31) ∧ (q55 = false → ((True ∧ True ∧ True ∧ q58 ∧ q58 ∧ q58 ∧ q58 ∧ q58 ∧ q61 ∧ q61 ∧ (q60 → q62) ∧ q61 ∧ q61 ∧ q61 ∧ q61 ∧ q58 ∧ q58 ∧ q66 ∧ q66 ∧ (q65 → q62) ∧ q66 ∧ q66 ∧ q66 ∧ q66 ∧ q66 ∧ q66 ∧ q66 ∧ q58 ∧ True ∧ True) ∧ True) ∧ (q67 = true → q31) ∧ (q67 = false → ((inK IntKind.i64 q68 ∧ True ∧ True) ∧ True) ∧ ∃ (y : Nat), (y ≤ q14 ∧ ∀ (n : Nat), n < y → Sp.src q13 x.2.1 n) ∧ q14 - y < q14 - x_1 ∧ q68 = (↑y : Int) ∧ q35))) ∧
                              (q39 = false →
                                q11 ∧
                                  (∃ (x_2 : Nat), (x_2 ≤ q18 ∧ ∀ (n : Nat), n < x_2 → Sp.got x.2.1 n) ∧ q0 = (↑x_2 : Int) ∧ q36) ∧
                                    ∀ (x_2 : Nat),
                                      let q69 : Bool := decide ((↑x_2 : Int) < q19);
                                      let q70 : Nat := (↑x_2 : Int).toNat;
                                      let q71 : (Int × Int × Int × Unit) × Int × Unit := (x.2.1.1.getD q70 q9).2;
                                      let q72 : Bool := Sp.reads q71.1;
                                      let q73 : Int := x.2.1.2.1.getD q70 q0;
                                      let q74 : Int := q71.2.1;
                                      let q75 : Bool := q74 != Sp.value x.2.1.1 q73;
                                      let q76 : Int := (↑x_2 : Int) + q10;
                                      let q77 : Prop := ((inK IntKind.i64 q76 ∧ True ∧ True) ∧ True) ∧ ∃ (y : Nat), (y ≤ q18 ∧ ∀ (n : Nat), n < y → Sp.got x.2.1 n) ∧ q18 - y < q18 - x_2 ∧ q76 = (↑y : Int) ∧ q36;
                                      let q78 : Bool := q74 != q0;
                                      (x_2 ≤ q18 ∧ ∀ (n : Nat), n < x_2 → Sp.got x.2.1 n) →
                                        dFact (Ty.int IntKind.i64) (↑x_2 : Int) ∧ True →
                                          q6 ∧
                                            (q69 = true → ((True ∧ inN (↑x_2 : Int) q18 ∧ q3) ∧ True ∧ True) ∧ q6 ∧ q4 ∧ (q72 = true → ((True ∧ True ∧ True ∧ True ∧ inN (↑x_2 : Int) q24 ∧ True ∧ q73 < q19 ∧ True ∧ True) ∧ True) ∧ q11 ∧ (q75 = true → q31) ∧ (q75 = false → q77)) ∧ (q72 = false → q11 ∧ (q78 = true → q31) ∧ (q78 = false → q77))) ∧
                                              (q69 = false →
                                                q6 ∧
                                                  (∃ (x : Nat), (x ≤ q12 ∧ ∀ (p : Nat), p < x → (Sp.isList (q27.getD p (([] : List Int))) q13 fun (o : Sp.LOp) => Sp.writes o && decide (o.2.1 = (↑p : Int))) = true) ∧ q0 = (↑x : Int) ∧ q37) ∧
                                                    ∀ (x_3 : Nat),
                                                      let q79 : Bool := decide ((↑x_3 : Int) < q5);
                                                      let q80 : Bool := !Sp.isList (q27.getD (↑x_3 : Int).toNat (([] : List tI.den))) q13 fun (o : Sp.LOp) => Sp.writes o && decide (o.2.1 = (↑x_3 : Int));
                                                      let q81 : Int := (↑x_3 : Int) + q10;
                                                      (x_3 ≤ q12 ∧ ∀ (p : Nat), p < x_3 → (Sp.isList (q27.getD p (([] : List Int))) q13 fun (o : Sp.LOp) => Sp.writes o && decide (o.2.1 = (↑p : Int))) = true) → dFact (Ty.int IntKind.i64) (↑x_3 : Int) ∧ True → q6 ∧ (q79 = true → (q2 ∧ True ∧ True) ∧ ((True ∧ True ∧ True ∧ inN (↑x_3 : Int) q28 ∧ q2) ∧ q38) ∧ (q80 = true → q31) ∧ (q80 = false → ((inK IntKind.i64 q81 ∧ True ∧ True) ∧ True) ∧ ∃ (y : Nat), (y ≤ q12 ∧ ∀ (p : Nat), p < y → (Sp.isList (q27.getD p (([] : List Int))) q13 fun (o : Sp.LOp) => Sp.writes o && decide (o.2.1 = (↑p : Int))) = true) ∧ q12 - y < q12 - x_3 ∧ q81 = (↑y : Int) ∧ q37)) ∧ (q79 = false → ((True ∧ True ∧ q38) ∧ True) ∧ (Sp.isList x.2.1.2.2.2.1 q13 fun (o : Sp.LOp) => decide (o.1 = (4 : tI.den))) = q30))))) := by kernel_rfl
theorem vc18 : funI C18 (stpP C18) S18 L18 Try.f18 = (
let q0 : Int := (0 : Int);
let q1 : Nat := (1000 : Nat);
let q2 : Prop := True ∧ True ∧ True;
let q3 : Prop := True ∧ q2;
let q4 : Prop := (True ∧ True) ∧ True;
let q5 : Nat := (6 : Nat);
let q6 : Prop := (True ∧ q3) ∧ True;
let q7 : Int := (1 : Int);
let q8 : List Bool := List.replicate q5 false;
let q9 : Int × Unit := (q0, ());
let q10 : Int × (Int × Int × Int × Unit) × Int × Unit := (q0, (q0, q0, q9), q9);
let q11 : Int := (4 : Int);
∀ (x : (List (List (Int × Int × Int × Unit)) × Unit) × (List (Int × (Int × Int × Int × Unit) × Int × Unit) × List Int × List (List Int) × List Int × Unit) × Unit),
  let q12 : Prop := (Sp.evs q0 x.1.1).length ≤ q1;
  let q13 : Bool := !Sp.right x.1 x.2.1;
  let q14 : Bool := Sp.allowed x.1 x.2.1;
  let q15 : Prop := q4 ∧ false = q14;
  let q16 : Nat := x.2.1.1.length;
  let q17 : Nat := x.2.1.2.1.length;
  let q18 : Prop := x.1 = x.1;
  let q19 : Prop := x.2.1 = x.2.1;
  let q20 : Int := (↑q17 : Int);
  let q21 : Prop := q18 ∧ q19 ∧ Sp.order x.2.1 = Sp.order x.2.1 ∧ x.2.1.2.1 = x.2.1.2.1 ∧ q20 = q20 ∧ True;
  let q22 : List (List Bool) := Sp.close (Sp.order x.2.1);
  let q23 : Prop := q22 = q22;
  let q24 : Prop := x.2.1.1 = x.2.1.1;
  let q25 : Int := (↑q16 : Int);
  let q26 : Prop := q25 = q25;
  let q27 : Prop := q24 ∧ q26 ∧ True;
  let q28 : Prop := q18 ∧ q19 ∧ q23 ∧ q27;
  let q29 : List (List Int) := x.2.1.2.2.1;
  let q30 : Nat := x.2.1.1.length;
  let q31 : Nat := x.2.1.2.1.length;
  let q32 : Nat := q29.length;
  q12 →
    dFact (((Ty.int IntKind.i64).prod ((Ty.int IntKind.i64).prod ((Ty.int IntKind.i64).prod Ty.unit))).slice.slice.prod Ty.unit) x.1 ∧ dFact (((Ty.int IntKind.i64).prod (((Ty.int IntKind.i64).prod ((Ty.int IntKind.i64).prod ((Ty.int IntKind.i64).prod Ty.unit))).prod ((Ty.int IntKind.i64).prod Ty.unit))).slice.prod ((Ty.int IntKind.i64).slice.prod ((Ty.int IntKind.i64).slice.slice.prod ((Ty.int IntKind.i64).slice.prod Ty.unit)))) x.2.1 ∧ True →
      (q3 ∧ True) ∧
        ((True ∧ True ∧ q12 ∧ True ∧ True) ∧ True) ∧
          (q13 = true → q15) ∧
            (q13 = false →
              ((True ∧ (q16 ≤ q5 ∧ ∀ (n : Int), n ∈ x.2.1.2.2.2.1 → inN n q5) ∧ True ∧ True) ∧ True ∧ True) ∧
                (q2 ∧ True ∧ True) ∧
                  q6 ∧
                    (∃ (x_1 : Nat), x_1 ≤ q17 ∧ q0 = (↑x_1 : Int) ∧ Sp.order x.2.1 = Sp.mat (Sp.flowN x.2.1 x_1) ∧ q21) ∧
                      ∀ (x_1 : Nat),
                        let q33 : List (List Bool) := Sp.mat (Sp.flowN x.2.1 x_1);
                        let q34 : Bool := decide ((↑x_1 : Int) < q20);
                        let q35 : Nat := (↑x_1 : Int).toNat;
                        let q36 : Int := x.2.1.2.1.getD q35 q0;
                        let q37 : Bool := decide (q36 ≥ q0);
                        let q38 : Int := (↑x_1 : Int) + q7;
                        let q39 : Prop := (inK IntKind.i64 q38 ∧ True ∧ True) ∧ True;
                        let q40 : Nat := q36.toNat;
                        let q41 : Bool := Sp.round (Sp.close q33);
                        x_1 ≤ q17 →
                          dFact (Ty.int IntKind.i64) (↑x_1 : Int) ∧ dFact (Ty.arr q5 (Ty.arr q5 Ty.bool)) q33 ∧ True →
                            q4 ∧
                              (q34 = true → ((True ∧ inN (↑x_1 : Int) q17 ∧ q3) ∧ True) ∧ (q2 ∧ True) ∧ (q37 = true → ((True ∧ True ∧ inN q36 q5 ∧ inN (↑x_1 : Int) q5 ∧ True) ∧ True ∧ True) ∧ q39 ∧ ∃ (y : Nat), y ≤ q17 ∧ q17 - y < q17 - x_1 ∧ q38 = (↑y : Int) ∧ q33.set q40 (List.set (q33.getD q40 q8) q35 true) = Sp.mat (Sp.flowN x.2.1 y) ∧ q21) ∧ (q37 = false → q39 ∧ ∃ (y : Nat), y ≤ q17 ∧ q17 - y < q17 - x_1 ∧ q38 = (↑y : Int) ∧ q33 = Sp.mat (Sp.flowN x.2.1 y) ∧ q21)) ∧
                                (q34 = false →
                                  q2 ∧
                                    q2 ∧
                                      q4 ∧
                                        (q41 = true → q15) ∧
                                          (q41 = false →
                                            q6 ∧
                                              (∃ (x_2 : Nat), (x_2 ≤ q16 ∧ ∀ (a : Nat), a < x_2 → Sp.okEv x.2.1 a) ∧ q0 = (↑x_2 : Int) ∧ q28) ∧
                                                ∀ (x_2 : Nat),
                                                  let q42 : Bool := decide ((↑x_2 : Int) < q25);
                                                  let q43 : Prop := inN (↑x_2 : Int) q16;
                                                  let q44 : Nat := (↑x_2 : Int).toNat;
                                                  let q45 : Int × (Int × Int × Int × Unit) × Int × Unit := x.2.1.1.getD q44 q10;
                                                  let q46 : Int × Int × Int × Unit := q45.2.1;
                                                  let q47 : Int := q46.1;
                                                  let q48 : Bool := q47 == q11;
                                                  let q49 : Int := (↑x_2 : Int) + q7;
                                                  let q50 : Prop := ((inK IntKind.i64 q49 ∧ True ∧ True) ∧ True) ∧ ∃ (y : Nat), (y ≤ q16 ∧ ∀ (a : Nat), a < y → Sp.okEv x.2.1 a) ∧ q16 - y < q16 - x_2 ∧ q49 = (↑y : Int) ∧ q28;
                                                  let q51 : Int := (Sp.ev x.2.1.1 (↑x_2 : Int)).2.1.2.1;
                                                  let q52 : Bool := q47 == (3 : Int);
                                                  let q53 : Prop := (true && bif q52 then true else false) = true;
                                                  let q54 : Prop := q53 → True;
                                                  let q55 : List Int := q29.getD q51.toNat (([] : List Int));
                                                  let q56 : Int := Sp.idx q55 (↑x_2 : Int) - q7;
                                                  let q57 : Bool := bif q52 then Sp.idx q55 (x.2.1.2.1.getD q44 q0) != q56 else false;
                                                  let q58 : Prop := (↑x_2 : Int) = (↑x_2 : Int);
                                                  let q59 : Prop := q18 ∧ q19 ∧ q23 ∧ q24 ∧ q26 ∧ q58 ∧ q58 ∧ q45 = q45 ∧ q27;
                                                  (x_2 ≤ q16 ∧ ∀ (a : Nat), a < x_2 → Sp.okEv x.2.1 a) →
                                                    dFact (Ty.int IntKind.i64) (↑x_2 : Int) ∧ True →
                                                      q4 ∧
                                                        (q42 = true →
                                                            ((True ∧ q43 ∧ q3) ∧ True ∧ True) ∧
                                                              q6 ∧
                                                                (q48 = true → q50) ∧
                                                                  (q48 = false →
                                                                    ((True ∧ True ∧ (q43 ∧ inN (↑x_2 : Int) q17 ∧ inN q51 q29.length) ∧ True ∧ True) ∧ True ∧ True) ∧
                                                                      ((True ∧ True ∧ True ∧ True ∧ True ∧ q54 ∧ q54 ∧ q54 ∧ q54 ∧ (q53 → inK IntKind.i64 q56) ∧ q54 ∧ True ∧ True) ∧ True) ∧
                                                                        (q57 = true → q15) ∧
                                                                          (q57 = false →
                                                                            q6 ∧
                                                                              (∃ (x_3 : Nat), (x_3 ≤ q16 ∧ ∀ (b : Nat), b < x_3 → Sp.badPair x.2.1 x_2 b = false) ∧ q0 = (↑x_3 : Int) ∧ q59) ∧
                                                                                ∀ (x_3 : Nat),
                                                                                  let q60 : Bool := decide ((↑x_3 : Int) < q25);
                                                                                  let q61 : Nat := (↑x_3 : Int).toNat;
                                                                                  let q62 : Bool := List.getD (q22.getD q44 q8) q61 false;
                                                                                  let q63 : Prop := (true && bif q62 then true else false) = true → True;
                                                                                  let q64 : Int × Int × Int × Unit := (x.2.1.1.getD q61 q10).2.1;
                                                                                  let q65 : Bool := bif q62 then q64.1 != q11 else false;
                                                                                  let q66 : Prop := (true && bif q65 then true else false) = true → True;
                                                                                  let q67 : Bool := bif q65 then q46.2.1 == q64.2.1 else false;
                                                                                  let q68 : Prop := (true && bif q67 then true else false) = true;
                                                                                  let q69 : Prop := q68 → True;
                                                                                  let q70 : Bool := bif q67 then !Sp.coh x.2.1 (↑x_2 : Int) (↑x_3 : Int) else false;
                                                                                  let q71 : Int := (↑x_3 : Int) + q7;
                                                                                  (x_3 ≤ q16 ∧ ∀ (b : Nat), b < x_3 → Sp.badPair x.2.1 x_2 b = false) → dFact (Ty.int IntKind.i64) (↑x_3 : Int) ∧ True → q4 ∧ (q60 = true → ((True ∧ inN (↑x_3 : Int) q16 ∧ q3) ∧ True ∧ True) ∧ ((True ∧ True ∧ inN (↑x_2 : Int) q5 ∧ inN (↑x_3 : Int) q5 ∧ True ∧ True ∧ q63 ∧ q63 ∧ q63 ∧ q63 ∧ True ∧ True ∧ q66 ∧ q66 ∧ q66 ∧ q66 ∧ q66 ∧ q66 ∧ q66 ∧ True ∧ True ∧ q69 ∧ q69 ∧ q69 ∧ (q68 → (inN (↑x_2 : Int) q30 ∧ inN (↑x_2 : Int) q31 ∧ inN q51 q32) ∧ inN (↑x_3 : Int) q30 ∧ inN (↑x_3 : Int) q31 ∧ inN (Sp.ev x.2.1.1 (↑x_3 : Int)).2.1.2.1 q32) ∧ q69 ∧ True ∧ True) ∧ True) ∧ (q70 = true → q15) ∧ (q70 = false → ((inK IntKind.i64 q71 ∧ True ∧ True) ∧ True) ∧ ∃ (y : Nat), (y ≤ q16 ∧ ∀ (b : Nat), b < y → Sp.badPair x.2.1 x_2 b = false) ∧ q16 - y < q16 - x_3 ∧ q71 = (↑y : Int) ∧ q59)) ∧ (q60 = false → q50)))) ∧
                                                          (q42 = false → q4 ∧ true = q14))))) := by kernel_rfl
theorem vc31 : funI C31 (stpP C31) S31 L31 Try.f31 = (
let q0 : Prop := (True ∧ True) ∧ True;
let q1 : Prop := True ∧ True ∧ True ∧ True ∧ True ∧ True ∧ True ∧ True ∧ True;
let q2 : Int := (2 : tI.den);
let q3 : Int := (0 : Int);
let q4 : Int := (1 : Int);
let q5 : Int × Unit := (q4, ());
let q6 : Int × Int × Int × Unit := (q2, q3, q5);
let q7 : Int := (0 : tI.den);
let q8 : Int × Unit := (q7, ());
let q9 : Int × Int × Int × Unit := ((4 : tI.den), q7, q8);
let q10 : Int := (1 : tI.den);
let q11 : List (Int × Int × Int × Unit) := (q10, q4, q8) :: ([] : List tLOp.den);
let q12 : Int × Int × Int × Unit := (q2, q4, q5);
let q13 : List (Int × Int × Int × Unit) := (q10, q3, q8) :: ([] : List tLOp.den);
let q14 : List (List (Int × Int × Int × Unit)) := ([] : List tLOp.slice.den);
let q15 : Int := (2 : Int);
let q16 : Int × Unit := (q4, ());
let q17 : Int × Int × Int × Unit := (q15, q3, q16);
let q18 : Int × Unit := (q3, ());
let q19 : Int × Int × Unit := (q3, q18);
let q20 : Int × Int × Int × Unit := ((4 : Int), q19);
let q21 : List (Int × Int × Int × Unit) := (q4, q4, q18) :: ([] : List tLOp.den);
let q22 : Int × Int × Int × Unit := (q15, q4, q16);
let q23 : List (Int × Int × Int × Unit) := (q4, q19) :: ([] : List tLOp.den);
∀ (x : Bool × Unit),
  let q24 : List (List (Int × Int × Int × Unit)) × Unit := bif x.1 then ((q17 :: q20 :: q21) :: (q22 :: q20 :: q23) :: q14, ()) else ((q17 :: q21) :: (q22 :: q23) :: q14, ());
  True → dFact Ty.bool x.1 ∧ True → q0 ∧ q0 ∧ (x.1 = true → ((True ∧ True ∧ q1) ∧ True ∧ True) ∧ ((q6 :: q9 :: q11) :: (q12 :: q9 :: q13) :: q14, ()) = q24) ∧ (x.1 = false → (q1 ∧ True ∧ True) ∧ ((q6 :: q11) :: (q12 :: q13) :: q14, ()) = q24)) := by kernel_rfl
end Go.User
