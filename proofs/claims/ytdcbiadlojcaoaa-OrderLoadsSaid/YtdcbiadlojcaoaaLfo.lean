/- order.masks: what it should. The laws' helpers and two laws. Written by gen.py: what is left to show of each function. What is made has instructions that are right. Orders: plain laws. Orders of codes: plain laws. The laws' helpers: what they should. The examples: what they should. Written by gen.py: what is left to show of each function. The law MatchesReference. The law Loads. The law OrderLoads. -/
import Derived.Test.YtdcbiadlojcaoaaLfn
set_option linter.unusedVariables false
set_option linter.unusedSimpArgs false
namespace Go.User
open Go Go.Proofs Go.RowKit Go.Lib Go.Lf
theorem agg_of {F : NSet} {w : World} {τ : Ty} {v : Value} {x : τ.den} (h : OwnV F w τ .shr none' v x) (ha : τ.isAgg = true) : ∃ cs : List Value, v = .agg cs.toArray /\ cs.length = τ.size /\ Go.Lf.Own F w τ .shr none' cs x := by
 obtain ⟨cs, rfl, h⟩ := h
 exact ⟨cs, by unfold slotv; rw [if_pos ha], h.len, h⟩
theorem eight (cs : List Value) (h : cs.length = 8) : ∃ a b c d e f g i, cs = [a, b, c, d, e, f, g, i] := by
 rcases cs with _ | ⟨a, _ | ⟨b, _ | ⟨c, _ | ⟨d, _ | ⟨e, _ | ⟨f, _ | ⟨g, _ | ⟨i, _ | ⟨j, l⟩⟩⟩⟩⟩⟩⟩⟩⟩ <;> simp at h
 exact ⟨a, b, c, d, e, f, g, i, rfl⟩
theorem fifteen (cs : List Value) (h : cs.length = 15) : cs = [cs.getD 0 undef, cs.getD 1 undef, cs.getD 2 undef, cs.getD 3 undef, cs.getD 4 undef, cs.getD 5 undef, cs.getD 6 undef, cs.getD 7 undef, cs.getD 8 undef, cs.getD 9 undef, cs.getD 10 undef, cs.getD 11 undef, cs.getD 12 undef, cs.getD 13 undef, cs.getD 14 undef] := by
 rcases cs with _ | ⟨a, _ | ⟨b, _ | ⟨c, _ | ⟨d, _ | ⟨e, _ | ⟨f, _ | ⟨g, _ | ⟨i, _ | ⟨j, _ | ⟨k, _ | ⟨l, _ | ⟨m, _ | ⟨n, _ | ⟨o, _ | ⟨p, _ | ⟨q, r⟩⟩⟩⟩⟩⟩⟩⟩⟩⟩⟩⟩⟩⟩⟩⟩ <;> simp at h
 rfl
theorem row_bools {w : World} {F : NSet} {A n : Nat} {f : Nat -> Value} (h : w.rowIs A 4 n f) (hF : F A) {off : Nat} {x : List Bool} (hn : off + x.length <= n) (hc : ∀ j, j < x.length -> f (off + j) = .bool (x.getD j false)) {cap : Nat} (h1 : x.length <= cap) (h2 : x.length <= lim) :
  Go.Lf.Own F w (.slice .bool) .shr none' [.slice (some ⟨A, off, none⟩) x.length cap] x := by
 obtain ⟨row, hb, hsz, hrow⟩ := h
 refine ⟨some ⟨A, off, none⟩, cap, rfl, h1, h2, .inr ⟨A, off, row, 4, (0, 0), rfl, hF, hb, ?_, ?_⟩⟩
 ·have : Ty.size .bool = 1 := rfl
  rw [this]; omega
 ·intro j b hjb
  obtain ⟨hj, rfl⟩ := List.getElem?_eq_some_iff.1 hjb;have hs : Ty.size .bool = 1 := rfl;rw [hs, Nat.mul_one];have h := hrow (off + j) (by omega);rw [hc j hj, List.getD_eq_getElem?_getD, List.getElem?_eq_getElem hj] at h;obtain ⟨hlt, hval⟩ := Array.getElem?_eq_some_iff.1 h;show List.take 1 (List.drop (off + j) row.toList) = [.bool (x[j]'hj)];rw [List.drop_eq_getElem_cons (by simpa using hlt)];simp [hval]
set_option maxHeartbeats 1000000 in
theorem ok65 : FOk Try.prog 65 S65 := by
 refine ⟨Try.call65, ?_⟩
 rintro w F vs ⟨c, l, u⟩ hG hF ⟨cv, r1, rfl, hc, lv, r2, rfl, hl, hr2⟩ hp
 have hr2 : r2 = [] := hr2
 subst hr2
 have hp : lOK c l := hp
 have hc : OwnV F w tCode .shr none' cv c := hc
 have hl : OwnV F w (.slice tInst) .shr none' lv l := hl
 obtain ⟨cs, rfl, hcl, hco⟩ := agg_of hc rfl
 obtain ⟨v0, v1, v2, v3, v4, v5, v6, v7, rfl⟩ := eight cs hcl
 obtain ⟨lcs, rfl, lo⟩ := hl
 obtain ⟨ao, cap, rfl, k1, k2, k3⟩ := lo
 have hsI : Ty.size tInst = 15 := rfl
 obtain ⟨lb, off, row, hla, hrow⟩ : ∃ (lb off : Nat) (row : Array Value), (0 < List.length l -> ao = some ⟨lb, off, none⟩) /\ (∀ j (hj : j < List.length l), (∃ (T : TypeId) (fr : Nat × Nat), F lb /\ w.heap[lb]? = some (.cells row T fr)) /\ Go.Lf.Own F w tInst .shr none' (seg row.toList (off + j * 15) 15) (l[j]'hj)) := by
  rcases k3 with k3 | ⟨lb, off, row, T, fr, k4, k5, k6, k7, k8⟩
  ·have k3 : l = [] := k3
   subst k3;exact ⟨0, 0, #[], fun h => absurd h (Nat.lt_irrefl 0), fun j hj => absurd hj (Nat.not_lt_zero j)⟩
  ·exact ⟨lb, off, row, fun _ => k4, fun j hj => ⟨⟨T, fr, k5, k6⟩, k8 j _ (List.getElem?_eq_getElem hj)⟩⟩
 have hlen : ∀ j, j < List.length l -> (seg row.toList (off + j * 15) 15).length = 15 := fun j hj => ((hrow j hj).2).len
 have hI : ∀ j, j < List.length l -> ∀ k, k < 15 -> w.cell? ⟨lb, off + j * 15 + k, none⟩ = some ((seg row.toList (off + j * 15) 15).getD k undef) := by
  intro j hj k hk;obtain ⟨⟨T, fr, _, hb⟩, _⟩ := hrow j hj;have h15 := hlen j hj;have e : (seg row.toList (off + j * 15) 15)[k]? = some ((seg row.toList (off + j * 15) 15).getD k undef) := by
   rw [List.getD_eq_getElem?_getD, List.getElem?_eq_getElem (by omega)]; rfl
  rw [<- e];simp [World.cell?, hb, seg, List.getElem?_take, hk]
 have hget : ∀ j (hj : j < List.length l), Sp.insAt l j = l[j]'hj := fun j hj => by unfold Sp.insAt; rw [List.getD_eq_getElem?_getD, List.getElem?_eq_getElem hj]; rfl
 have hval : ∀ (W : World), (∀ b, F b -> W.heap[b]? = w.heap[b]?) -> ∀ j, j < List.length l -> OwnV F W tInst .shr none' (.agg #[(seg row.toList (off + j * 15) 15).getD 0 undef, (seg row.toList (off + j * 15) 15).getD 1 undef, (seg row.toList (off + j * 15) 15).getD 2 undef, (seg row.toList (off + j * 15) 15).getD 3 undef, (seg row.toList (off + j * 15) 15).getD 4 undef, (seg row.toList (off + j * 15) 15).getD 5 undef, (seg row.toList (off + j * 15) 15).getD 6 undef, (seg row.toList (off + j * 15) 15).getD 7 undef, (seg row.toList (off + j * 15) 15).getD 8 undef, (seg row.toList (off + j * 15) 15).getD 9 undef, (seg row.toList (off + j * 15) 15).getD 10 undef, (seg row.toList (off + j * 15) 15).getD 11 undef, (seg row.toList (off + j * 15) 15).getD 12 undef, (seg row.toList (off + j * 15) 15).getD 13 undef, (seg row.toList (off + j * 15) 15).getD 14 undef]) (Sp.insAt l j) := by
  intro W hW j hj;refine ⟨seg row.toList (off + j * 15) 15, ?_, ?_⟩
  ·conv => rhs; rw [fifteen _ (hlen j hj)]
   rfl
  ·rw [hget j hj]
   exact (hrow j hj).2.congr hW (fun _ h => h.elim)
 have hins : ∀ j, j < List.length l -> instOK c (Sp.insAt l j) := fun j hj => by rw [hget j hj]; exact hp.2 _ (List.getElem_mem hj)
 have hD : ∀ (W : World), w.Since w.heap.size W -> ∀ i j, i < List.length l -> j < List.length l -> Calls Try.prog 14 #[.agg #[v0, v1, v2, v3, v4, v5, v6, v7], .agg #[(seg row.toList (off + j * 15) 15).getD 0 undef, (seg row.toList (off + j * 15) 15).getD 1 undef, (seg row.toList (off + j * 15) 15).getD 2 undef, (seg row.toList (off + j * 15) 15).getD 3 undef, (seg row.toList (off + j * 15) 15).getD 4 undef, (seg row.toList (off + j * 15) 15).getD 5 undef, (seg row.toList (off + j * 15) 15).getD 6 undef, (seg row.toList (off + j * 15) 15).getD 7 undef, (seg row.toList (off + j * 15) 15).getD 8 undef, (seg row.toList (off + j * 15) 15).getD 9 undef, (seg row.toList (off + j * 15) 15).getD 10 undef, (seg row.toList (off + j * 15) 15).getD 11 undef, (seg row.toList (off + j * 15) 15).getD 12 undef, (seg row.toList (off + j * 15) 15).getD 13 undef, (seg row.toList (off + j * 15) 15).getD 14 undef], .agg #[(seg row.toList (off + i * 15) 15).getD 0 undef, (seg row.toList (off + i * 15) 15).getD 1 undef, (seg row.toList (off + i * 15) 15).getD 2 undef, (seg row.toList (off + i * 15) 15).getD 3 undef, (seg row.toList (off + i * 15) 15).getD 4 undef, (seg row.toList (off + i * 15) 15).getD 5 undef, (seg row.toList (off + i * 15) 15).getD 6 undef, (seg row.toList (off + i * 15) 15).getD 7 undef, (seg row.toList (off + i * 15) 15).getD 8 undef, (seg row.toList (off + i * 15) 15).getD 9 undef, (seg row.toList (off + i * 15) 15).getD 10 undef, (seg row.toList (off + i * 15) 15).getD 11 undef, (seg row.toList (off + i * 15) 15).getD 12 undef, (seg row.toList (off + i * 15) 15).getD 13 undef, (seg row.toList (off + i * 15) 15).getD 14 undef]] W fun e W' => e = .returned (.bool (Sp.depP c (Sp.insAt l j) (Sp.insAt l i))) /\ Below W.heap.size W W' := by
  intro W hW i j hi hj;have hWF : ∀ b, F b -> W.heap[b]? = w.heap[b]? := fun b hb => hW.block b (hF b hb)
  have h14 := ok14'.2 W F [_, _, _] (c, Sp.insAt l j, Sp.insAt l i, ()) (GlbOK.zero F W) (fun b hb => Nat.lt_of_lt_of_le (hF b hb) hW.size) ⟨_, _, rfl, hc.congr hWF (fun _ h => h.elim), _, _, rfl, hval W hWF j hj, _, _, rfl, hval W hWF i hi, rfl⟩ ⟨hins j hj, hins i hi⟩
  refine h14.mono ?_
  rintro e W' ⟨v, F', Sd, rfl, hB, _, _, _, _, hv⟩
  obtain ⟨cs, rfl, hv⟩ := hv;have hv : cs = [.bool (Sp.depP c (Sp.insAt l j) (Sp.insAt l i))] := hv;subst hv;exact ⟨rfl, hB⟩
 refine (Mk.walk v0 v1 v2 v3 v4 v5 v6 v7 ao lb off (List.length l) cap (fun j k => (seg row.toList (off + j * 15) 15).getD k undef) (fun j i => Sp.depP c (Sp.insAt l j) (Sp.insAt l i)) w hla hp.1 hI hD).mono ?_
 rintro e w' ⟨rfl, v, f, hS, hf⟩
 have hs := hS.size
 refine ⟨_, fun b => F b ∨ b = w.heap.size + 1 ∨ b = w.heap.size + 1 + 1, none', rfl, ⟨hS.since.os, hS.since.tape, hS.since.output, hS.since.size, hS.since.block⟩, fun _ h => .inl h, fun b h h' => ?_, fun b h => ?_, fun b h => h.elim, ?_⟩
 ·rcases h with h | h | h
  ·exact absurd h h'
  ·omega
  ·omega
 ·rcases h with (h | h | h) | h
  ·have := hF b h; omega
  ·omega
  ·omega
  ·exact h.elim
 ·have hll : (Sp.mskL (Sp.depP c) l).length = List.length l := Sp.mskL_len _ _
  obtain ⟨rowT, hbT, hszT, hrowT⟩ := hS.top;refine ⟨[.slice (some ⟨w.heap.size + 1 + 1, 0, none⟩) (List.length l) (List.length l)], rfl, some ⟨w.heap.size + 1 + 1, 0, none⟩, List.length l, by rw [<- hll]; rfl, by rw [<- hll]; exact Nat.le_refl _, by have : List.length (Sp.mskL (Sp.depP c) l) <= lim := by { rw [hll]; exact k2 }; exact this, .inr ⟨w.heap.size + 1 + 1, 0, rowT, 108, (0, 0), rfl, .inr (.inr rfl), hbT, ?_, ?_⟩⟩
  ·have h1 : Ty.size (.slice .bool) = 1 := rfl
   have h2 : List.length (Sp.mskL (Sp.depP c) l) = List.length l := hll
   show 0 + List.length (Sp.mskL (Sp.depP c) l) * Ty.size (.slice .bool) <= rowT.size
   rw [h1, h2, hszT]; omega
  ·intro r x hx
   have hx : (Sp.mskL (Sp.depP c) l)[r]? = some x := hx
   obtain ⟨hr, hxe⟩ := List.getElem?_eq_some_iff.1 hx;have hrl : r < List.length l := by rw [<- hll]; exact hr
   have hxm : x = Sp.mskI (Sp.depP c) l r := by
    have := Sp.mskL_at (Sp.depP c) l hrl []
    rw [List.getD_eq_getElem?_getD, hx] at this;exact this
   have h1 : Ty.size (.slice .bool) = 1 := rfl
   rw [h1, Nat.mul_one, Nat.zero_add];have hcell := hrowT r hrl;rw [hf r hrl] at hcell;obtain ⟨hlt, hvl⟩ := Array.getElem?_eq_some_iff.1 hcell;have hseg : seg rowT.toList r 1 = [.slice (some ⟨w.heap.size + 1, r * List.length l, none⟩) r (List.length l)] := by
    show List.take 1 (List.drop r rowT.toList) = _
    rw [List.drop_eq_getElem_cons (by simpa using hlt)];simp [hvl]
   rw [hseg, hxm];have hmi := Sp.mskI_len (Sp.depP c) l r;have hrn : r * List.length l + r <= List.length l * List.length l := by
    have := Nat.mul_le_mul_right (List.length l) (show r + 1 <= List.length l by omega)
    rw [Nat.succ_mul] at this;omega
   have := row_bools (F := fun b => F b ∨ b = w.heap.size + 1 ∨ b = w.heap.size + 1 + 1) hS.long (.inr (.inl rfl)) (off := r * List.length l) (x := Sp.mskI (Sp.depP c) l r) (by rw [hmi]; exact hrn) (fun j hj => by
    rw [hmi] at hj;unfold Mk.long;obtain ⟨d1, d2⟩ := Mk.div (n := List.length l) (r := r) (c := j) (by omega);rw [d1, d2, if_pos (.inl ⟨hrl, hj⟩)];have := Sp.mskI_at (Sp.depP c) l hj false;rw [this]) (cap := List.length l) (by rw [hmi]; omega) (by rw [hmi]; exact Nat.le_trans (Nat.le_of_lt hrl) k2)
   rw [hmi] at this;exact this
end Go.User
namespace Sp
def exL (f : Bool) : List Inst :=
 [(1, 0, 0, regO 0, conO 1, opd0, opd0, ()), (8, 0, 0, opd0, regO 0, regO 0, opd0, ())] ++ (if f = true then [(10, 1, 0, opd0, opd0, opd0, opd0, ())] else []) ++ [(7, 0, 1, regO 1, regO 0, opd0, opd0, ()), (7, 0, 0, regO 2, regO 0, opd0, opd0, ()), (3, 10, 0, regO 3, regO 1, regO 2, opd0, ())]
def exC (f : Bool) : Code := (1, 1, 4, 0, 0, [([97], 1, 1, 8, ()), ([98], 1, 1, 8, ())], [], [(exL f, (5, 0, opd0, opd0, opd0, [0, 0], ()), ())], ())
def mkC' (L : List Int) (s : Bool) : Code := if s = true then sloC L else madeC L
def idL (n : Nat) : List Int := (List.range n).map fun (i : Nat) => (i : Int)
def idX (c : Code) (m : Nat) : List (List Int) := (List.range m).map fun b => idL (blkAt c b).1.length
def z0 : Chg := (0, 0, 0, 0, false, ())
end Sp
namespace Go.User
open Go.Lf
noncomputable section
def S25 : FSpec := { args := [.val .bool], multi := false, res := tCode, mode := .shr, pre := fun _ => True, fn := fun x => Sp.exC x.1 }
def C25 : Ctx := { mkC 41 [(54, S54), (55, S55)] with mds := [(2, .shr), (3, .shr), (4, .shr), (40, .shr)], frz := [35, 39], fzs := [5] }
def L25 (x : kdens S25.args) : List LoopI := []
def S10 : FSpec := { args := [.val tCode], multi := false, res := tDone, mode := .shr, pre := fun x => vOK x.1, fn := fun x => (Sp.runC Sp.depP x.1, (Sp.runX Sp.depP x.1, ()), ()) }
def C10 : Ctx := { mkC 13 [(28, S28)] with mds := [(2, .shr), (3, .shr), (4, .shr)] }
def L10 (x : kdens S10.args) : List LoopI := []
def S9 : FSpec := { args := [.val tRaw, .val .bool], multi := false, res := tCode, mode := .shr, pre := fun _ => True, fn := fun x => Sp.mkC' x.1.1 x.2.1 }
def C9 : Ctx := { mkC 10 [(27, S27), (21, S21)] with mds := [(4, .shr)] }
def L9 (x : kdens S9.args) : List LoopI := []
def S8 : FSpec := { args := [], multi := false, res := .bool, mode := .shr, pre := fun _ => True, fn := fun _ => true }
def C8 : Ctx := { mkC 104 [(25, S25), (10, S10), (18, S18), (26, S26), (14, S14)] with mds := [(1, .shr), (2, .shr), (3, .shr), (99, .own .shr)], frz := [49, 63, 71, 98, 99, 100] }
def L8 (x : kdens S8.args) : List LoopI := []
def lC (x : Sp.Code) (b : Nat) : List Sp.Inst := (Sp.blkAt (Sp.runC Sp.depP x) b).1
def S6 : FSpec := { args := [.val tRaw, .val .bool], multi := false, res := .bool, mode := .shr, pre := fun _ => True, fn := fun _ => true }
def C6 : Ctx := { mkC 120 [(8, S8), (9, S9), (10, S10), (24, S24), (13, S13), (14, S14)] with mds := [(6, .shr), (7, .shr), (8, .shr)] }
def L6 (x : kdens S6.args) : List LoopI := [
 {ι := Nat, inv := fun b => b <= (Sp.cB (Sp.mkC' x.1.1 x.2.1)).length, dec := fun b => (Sp.cB (Sp.mkC' x.1.1 x.2.1)).length - b, ovr := fun b => [(9, .shr tI (b : Int))], keep := [5, 6, 7], sub := fun b => [{ ι := Nat, inv := fun k => 1 <= k, dec := fun k => (lC (Sp.mkC' x.1.1 x.2.1) b).length - k, ovr := fun k => [(11, .shr tI (k : Int))], keep := [5, 6, 7, 9, 10] }] }]
def ks (l : List Nat) (o : List (Nat × Ent)) : LoopI := { ι := Unit, inv := fun _ => True, dec := fun _ => 0, ovr := fun _ => o, keep := l }
def S4 : FSpec := { args := [.val tRaw, .val .bool, .val (.arr 2 tU8)], multi := false, res := .bool, mode := .shr, pre := fun _ => True, fn := fun _ => true }
def S3 : FSpec := { args := [.val tRaw, .val .bool, .val (.arr 2 tChg)], multi := false, res := .bool, mode := .shr, pre := fun _ => True, fn := fun _ => true }
end
end Go.User
namespace Go.User
open Go.Proofs Go.Lf
set_option maxRecDepth 100000
theorem vc25 : (funI C25 (stpS C25) S25 L25 Try.f25) = (
let q0 : Prop := (True /\ True) /\ True;
let q1 : Prop := True /\ True /\ True;
let q2 : Prop := q1 /\ True /\ True;
let q3 : Prop := True /\ q1;
let q4 : Prop := True /\ True /\ True /\ True /\ q3;
let q5 : Int := (1 : Int);
let q6 : Int := (0 : Int);
let q7 : Sp.Opd := Sp.regO q6;
let q8 : Sp.Opd := (q6, q6, q6, ());
let q9 : Sp.Opd × Unit := (q8, ());
let q10 : Sp.Opd × Sp.Opd × Unit := (q8, q9);
let q11 : Int := (8 : Int);
let q12 : List Sp.Inst := (q5, q6, q6, q7, Sp.conO q5, q10) :: (q11, q6, q6, q8, q7, q7, q9) :: ([] : List tInst.den);
let q13 : Nat := q12.length;
let q14 : Int := (10 : Int);
let q15 : List Sp.Inst := (q14, q5, q6, q8, q8, q10) :: ([] : List tInst.den);
let q16 : Prop := True /\ q4;
let q17 : Prop := True /\ True /\ True /\ True /\ q16;
let q18 : List Sp.Inst := q12 ++ q15;
let q19 : Int := (7 : Int);
let q20 : Sp.Opd := Sp.regO q5;
let q21 : Sp.Opd × Sp.Opd × Sp.Opd × Unit := (q7, q10);
let q22 : Sp.Opd := Sp.regO (2 : Int);
let q23 : Int := (3 : Int);
let q24 : List Sp.Inst := (q19, q6, q5, q20, q21) :: (q19, q6, q6, q22, q21) :: (q23, q14, q6, Sp.regO q23, q20, q22, q9) :: ([] : List tInst.den);
let q25 : Nat := q24.length;
let q26 : Prop := q16 /\ True /\ True;
let q27 : Int := (4 : Int);
let q28 : Sp.Opd := (q5, q5, q11, ());
let q29 : List Sp.Arr := (((97 : UInt8) :: ([] : List UInt8)), q28) :: (((98 : UInt8) :: ([] : List UInt8)), q28) :: ([] : List tArr.den);
let q30 : Sp.Term × Unit := (((5 : Int), q6, q8, q8, q8, List.replicate (2 : Nat) q6, ()), ());
∀ (x : Bool × Unit), True -> dFact Ty.bool x.1 /\ True -> q0 /\ q2 /\ q2 /\ (q4 /\ True /\ True) /\ q0 /\ (x.1 = true -> (q3 /\ (↑(q13 + q15.length) : Int) <= maxNew /\ True /\ True) /\ (q17 /\ (↑(q18.length + q25) : Int) <= maxNew /\ True /\ True) /\ q26 /\ (q5, q5, q27, q6, q6, q29, ([] : List tLoop.den), (q18 ++ q24, q30) :: ([] : List tBlk.den), ()) = Sp.exC x.1) /\ (x.1 = false -> (q17 /\ (↑(q13 + q25) : Int) <= maxNew /\ True /\ True) /\ q26 /\ (q5, q5, q27, q6, q6, q29, ([] : List tLoop.den), (q12 ++ q24, q30) :: ([] : List tBlk.den), ()) = Sp.exC x.1)) := by kernel_rfl
theorem vc10 : (funI C10 (stpS C10) S10 L10 Try.f10) = (
let q0 : Nat := (3000 : Nat);
let q1 : Prop := True /\ True /\ True;
let q2 : Prop := True /\ q1;
∀ (x : Sp.Code × Unit),
 let q3 : Nat := (Sp.cA x.1).length;
 let q4 : Prop := (q3 <= q0 /\ (Sp.cL x.1).length <= q0 /\ (Sp.cB x.1).length <= q0 /\ ∀ (b : Sp.Block), b ∈ Sp.cB x.1 -> b.1.length <= q0) /\ ∀ (b : Sp.Block), b ∈ Sp.cB x.1 -> ∀ (i : Sp.Inst), i ∈ b.1 -> Sp.opI i = (7 : Int) ∨ Sp.opI i = (8 : Int) ∨ Sp.opI i = (9 : Int) -> (0 : Int) <= Sp.nI i /\ Sp.nI i < (↑q3 : Int);
 let q5 : Sp.Done := (Sp.runC Sp.depP x.1, (Sp.runX Sp.depP x.1, ()), ());
 q4 -> dFact tCode x.1 /\ True -> (q1 /\ True) /\ ((True /\ q4 /\ True /\ True /\ q2) /\ q1) /\ (q2 /\ True /\ True) /\ q5 = q5) := by kernel_rfl
theorem vc9 : (funI C9 (stpS C9) S9 L9 Try.f9) = (
let q0 : Prop := True /\ True /\ True;
let q1 : Prop := q0 /\ True /\ True;
∀ (x : (List Int × Unit) × Bool × Unit),
 let q2 : Sp.Code := Sp.mkC' x.1.1 x.2.1;
 True -> dFact (tU8.slice.prod Ty.unit) x.1 /\ dFact Ty.bool x.2.1 /\ True -> (q0 /\ True) /\ ((True /\ True) /\ True) /\ (x.2.1 = true -> q1 /\ Sp.sloC x.1.1 = q2) /\ (x.2.1 = false -> q1 /\ Sp.madeC x.1.1 = q2)) := by kernel_rfl
theorem vc8 : (funI C8 (stpS C8) S8 L8 Try.f8) = (
let q0 : Prop := (True /\ True) /\ True;
let q1 : Prop := True /\ True /\ True;
let q2 : Nat := (Sp.cA (Sp.exC false)).length;
let q3 : Nat := (3000 : Nat);
let q4 : Nat := (Sp.cB (Sp.exC false)).length;
let q5 : Int := (7 : Int);
let q6 : Int := (8 : Int);
let q7 : Int := (9 : Int);
let q8 : Int := (0 : Int);
let q9 : Int := (↑q2 : Int);
let q10 : Prop := (q2 <= q3 /\ (Sp.cL (Sp.exC false)).length <= q3 /\ q4 <= q3 /\ ∀ (b : Sp.Block), b ∈ Sp.cB (Sp.exC false) -> b.1.length <= q3) /\ ∀ (b : Sp.Block), b ∈ Sp.cB (Sp.exC false) -> ∀ (i : Sp.Inst), i ∈ b.1 -> Sp.opI i = q5 ∨ Sp.opI i = q6 ∨ Sp.opI i = q7 -> q8 <= Sp.nI i /\ Sp.nI i < q9;
let q11 : Nat := (Sp.cA (Sp.exC true)).length;
let q12 : Prop := (true && true) = true;
let q13 : Prop := q12 -> True;
let q14 : Prop := q12 -> q10;
let q15 : List (List Int) := Sp.runX Sp.depP (Sp.exC false);
let q16 : Nat := q15.length;
let q17 : Int := (1 : Int);
let q18 : List (List Int) := Sp.runX Sp.depP (Sp.exC true);
let q19 : Nat := q18.length;
let q20 : Bool := bif bif bif (↑q16 : Int) != q17 then true else (↑q19 : Int) != q17 then true else (↑(Sp.reoN (Sp.exC false) q15 q4).length : Int) != q17 then true else Sp.chkP (Sp.exC false) (Sp.runC Sp.depP (Sp.exC false)) q15 != q8;
let q21 : Prop := (true && bif q20 then false else true) = true;
let q22 : Prop := q21 -> True;
let q23 : Int := (100 : Int);
let q24 : Bool := bif q20 then true else Sp.chkP (Sp.exC false) (Sp.exC false) q15 != q23;
let q25 : Prop := (true && bif q24 then false else true) = true;
let q26 : Prop := q25 -> True;
let q27 : List (List Int) := ([] : List tI.slice.den);
let q28 : Bool := bif q24 then true else Sp.chkP (Sp.exC false) (Sp.exC false) q27 != q23;
let q29 : Int := (5 : Int);
let q30 : Nat := (Sp.exL false).length;
let q31 : Prop := q12 -> inN q17 q30;
let q32 : Int := (3 : Int);
let q33 : Sp.Opd := (q8, q8, q8, ());
let q34 : Sp.Inst := (q8, q8, q8, q33, q33, q33, q33, ());
let q35 : Sp.Inst := (Sp.exL false).getD q17.toNat q34;
let q36 : Int := Sp.opI q35;
let q37 : Int := Sp.nI q35;
let q38 : Prop := q36 = q5 ∨ q36 = q6 ∨ q36 = q7 -> q8 <= q37 /\ q37 < q9;
let q39 : Sp.Inst := (Sp.exL false).getD q32.toNat q34;
let q40 : Int := Sp.opI q39;
let q41 : Int := Sp.nI q39;
let q42 : Int := (2 : Int);
let q43 : Sp.Inst := (Sp.exL false).getD q42.toNat q34;
let q44 : Int := Sp.opI q43;
let q45 : Int := Sp.nI q43;
let q46 : Nat := q8.toNat;
let q47 : Int := (4 : Int);
let q48 : List Int := q32 :: q47 :: ([] : List tI.den);
∀ (x : Unit), True -> True -> q0 /\ (q1 /\ True /\ True) /\ ((True /\ q10 /\ True /\ True) /\ True /\ True) /\ ((True /\ ((q11 <= q3 /\ (Sp.cL (Sp.exC true)).length <= q3 /\ (Sp.cB (Sp.exC true)).length <= q3 /\ ∀ (b : Sp.Block), b ∈ Sp.cB (Sp.exC true) -> b.1.length <= q3) /\ ∀ (b : Sp.Block), b ∈ Sp.cB (Sp.exC true) -> ∀ (i : Sp.Inst), i ∈ b.1 -> Sp.opI i = q5 ∨ Sp.opI i = q6 ∨ Sp.opI i = q7 -> q8 <= Sp.nI i /\ Sp.nI i < (↑q11 : Int)) /\ True /\ True) /\ True /\ True) /\ ((True /\ True /\ True /\ True /\ True /\ True /\ q13 /\ q13 /\ q13 /\ q13 /\ q13 /\ True /\ True /\ q13 /\ q13 /\ q13 /\ q13 /\ q13 /\ True /\ True /\ q13 /\ q13 /\ q13 /\ q13 /\ q13 /\ q14 /\ q13 /\ True /\ True /\ q22 /\ q22 /\ q22 /\ q22 /\ (q21 -> q10) /\ q22 /\ True /\ True /\ q26 /\ q26 /\ q26 /\ (q25 -> q10) /\ q26 /\ True /\ True) /\ True) /\ (q28 = true -> q0 /\ false = true) /\ (q28 = false -> ((True /\ True /\ inN q8 ((Sp.exL false, (q29, q8, Sp.opd0, Sp.opd0, Sp.opd0, q8 :: q8 :: ([] : List Int), ()), ()) :: ([] : List Sp.Block)).length /\ True /\ q1) /\ True) /\ ((True /\ True /\ True /\ inN q8 q16 /\ True /\ True /\ True /\ True /\ q13 /\ q13 /\ q13 /\ (q12 -> inN q8 q19) /\ q13 /\ q13 /\ q13 /\ True /\ True /\ q13 /\ q13 /\ q31 /\ q13 /\ q13 /\ (q12 -> inN q32 q30) /\ q13 /\ (q12 -> q38 /\ (q40 = q5 ∨ q40 = q6 ∨ q40 = q7 -> q8 <= q41 /\ q41 < q9)) /\ True /\ True /\ q13 /\ q13 /\ q31 /\ q13 /\ q13 /\ (q12 -> inN q42 q30) /\ q13 /\ (q12 -> q38 /\ (q44 = q5 ∨ q44 = q6 ∨ q44 = q7 -> q8 <= q45 /\ q45 < q9)) /\ q13 /\ True /\ True /\ q13 /\ q13 /\ q13 /\ q13 /\ q13 /\ q14 /\ q13 /\ q1) /\ True) /\ (bif bif bif bif Sp.eqInt (q15.getD q46 (([] : List tI.den))) (q8 :: q42 :: q17 :: q48) then Sp.eqInt (q18.getD q46 (([] : List tI.den))) (q8 :: q17 :: q42 :: q32 :: q47 :: q29 :: ([] : List tI.den)) else false then Sp.depP (Sp.exC false) q35 q39 else false then !Sp.depP (Sp.exC false) q35 q43 else false then Sp.chkP (Sp.exC false) (Sp.exC false) ((q8 :: q17 :: q42 :: q48) :: q27) == q8 else false) = true)) := by kernel_rfl
theorem vc6 : (funI C6 (stpS C6) S6 L6 Try.f6) = (
let q0 : Prop := True /\ True /\ True;
let q1 : Prop := q0 /\ True;
let q2 : Prop := (True /\ True) /\ True;
let q3 : Prop := q2 /\ false = true;
let q4 : Prop := True /\ q0;
let q5 : Prop := True /\ q4;
let q6 : Nat := (3000 : Nat);
let q7 : Int := (7 : Int);
let q8 : Int := (8 : Int);
let q9 : Int := (9 : Int);
let q10 : Int := (0 : Int);
let q11 : Prop := True /\ q5;
let q12 : Prop := true = true;
let q13 : Sp.Opd := (q10, q10, q10, ());
let q14 : Sp.Block := (([] : List tInst.den), (q10, q10, q13, q13, q13, List.replicate (2 : Nat) q10, ()), ());
let q15 : Int := (1 : Int);
let q16 : Sp.Inst := (q10, q10, q10, q13, q13, q13, q13, ());
∀ (x : (List Int × Unit) × Bool × Unit),
 let q17 : Sp.Code := Sp.mkC' x.1.1 x.2.1;
 let q18 : Nat := (Sp.cA q17).length;
 let q19 : List Sp.Block := Sp.cB q17;
 let q20 : Nat := q19.length;
 let q21 : Int := (↑q18 : Int);
 let q22 : List (List Int) := Sp.runX Sp.depP q17;
 let q23 : List Sp.Block := Sp.reoN q17 q22 q20;
 let q24 : Nat := q23.length;
 let q25 : List Sp.Block := q17.2.2.2.2.2.2.2.1;
 let q26 : Nat := q25.length;
 let q27 : Int := (↑q26 : Int);
 let q28 : Bool := (↑q24 : Int) != q27;
 let q29 : Prop := (true && bif q28 then false else true) = true -> True;
 let q30 : Sp.Code := Sp.runC Sp.depP q17;
 let q31 : Bool := bif q28 then true else !Sp.headB q17 q30;
 let q32 : Nat := (Sp.cA q30).length;
 let q33 : List Sp.Block := Sp.cB q30;
 let q34 : Bool := !Sp.eqCode (Sp.runC Sp.depP q30) q30;
 let q35 : Prop := q17 = q17;
 let q36 : Sp.Done := (q30, (q22, ()), ());
 let q37 : Prop := q36 = q36;
 let q38 : Prop := q12 /\ q35 /\ q37 /\ True;
 True ->
 dFact (tU8.slice.prod Ty.unit) x.1 /\ dFact Ty.bool x.2.1 /\ True ->
 q1 /\
 q1 /\
 q1 /\
 ((!true) = true -> q3) /\
 ((!true) = false ->
 (q5 /\ True /\ True) /\
 ((True /\ ((q18 <= q6 /\ (Sp.cL q17).length <= q6 /\ q20 <= q6 /\ ∀ (b : Sp.Block), b ∈ q19 -> b.1.length <= q6) /\ ∀ (b : Sp.Block), b ∈ q19 -> ∀ (i : Sp.Inst), i ∈ b.1 -> Sp.opI i = q7 ∨ Sp.opI i = q8 ∨ Sp.opI i = q9 -> q10 <= Sp.nI i /\ Sp.nI i < q21) /\ True /\ True) /\ True /\ True) /\
 ((True /\ True /\ True /\ True /\ True /\ True /\ True /\ True /\ True /\ q29 /\ q29 /\ q29 /\ q29 /\ q29 /\ True /\ True) /\ True) /\
 (q31 = true -> q3) /\
 (q31 = false ->
 ((True /\ True /\ ((q32 <= q6 /\ (Sp.cL q30).length <= q6 /\ q33.length <= q6 /\ ∀ (b : Sp.Block), b ∈ q33 -> b.1.length <= q6) /\ ∀ (b : Sp.Block), b ∈ q33 -> ∀ (i : Sp.Inst), i ∈ b.1 -> Sp.opI i = q7 ∨ Sp.opI i = q8 ∨ Sp.opI i = q9 -> q10 <= Sp.nI i /\ Sp.nI i < (↑q32 : Int)) /\ True /\ True) /\ True /\ True) /\
 ((True /\ q11) /\ True) /\
 (q34 = true -> q3) /\
 (q34 = false ->
 q2 /\
 (∃ (x : Nat), x <= q20 /\ q10 = (↑x : Int) /\ q38) /\
 ∀ (x : Nat),
 let q39 : Bool := decide ((↑x : Int) < q27);
 let q40 : Prop := inN (↑x : Int) q24;
 let q41 : Prop := inN (↑x : Int) q26;
 let q42 : Nat := (↑x : Int).toNat;
 let q43 : Sp.Block := q23.getD q42 q14;
 let q44 : Sp.Term := q43.2.1;
 let q45 : Sp.Block := q25.getD q42 q14;
 let q46 : Sp.Term := q45.2.1;
 let q47 : Int × Sp.Opd × Sp.Opd × Sp.Opd × List Int × Unit := q44.2;
 let q48 : Int × Sp.Opd × Sp.Opd × Sp.Opd × List Int × Unit := q46.2;
 let q49 : Sp.Opd × Sp.Opd × Sp.Opd × List Int × Unit := q47.2;
 let q50 : Sp.Opd := q49.1;
 let q51 : Sp.Opd × Sp.Opd × Sp.Opd × List Int × Unit := q48.2;
 let q52 : Sp.Opd := q51.1;
 let q53 : Int × Int × Unit := q50.2;
 let q54 : Int × Int × Unit := q52.2;
 let q55 : Sp.Opd × Sp.Opd × List Int × Unit := q49.2;
 let q56 : Sp.Opd := q55.1;
 let q57 : Sp.Opd × Sp.Opd × List Int × Unit := q51.2;
 let q58 : Sp.Opd := q57.1;
 let q59 : Int × Int × Unit := q56.2;
 let q60 : Int × Int × Unit := q58.2;
 let q61 : Sp.Opd × List Int × Unit := q55.2;
 let q62 : Sp.Opd := q61.1;
 let q63 : Sp.Opd × List Int × Unit := q57.2;
 let q64 : Sp.Opd := q63.1;
 let q65 : Int × Int × Unit := q62.2;
 let q66 : Int × Int × Unit := q64.2;
 let q67 : Bool := !(decide (q44.1 = q46.1) && (decide (q47.1 = q48.1) && (decide (q50.1 = q52.1) && (decide (q53.1 = q54.1) && (decide (q53.2.1 = q54.2.1) && true)) && (decide (q56.1 = q58.1) && (decide (q59.1 = q60.1) && (decide (q59.2.1 = q60.2.1) && true)) && (decide (q62.1 = q64.1) && (decide (q65.1 = q66.1) && (decide (q65.2.1 = q66.2.1) && true)) && (decide (q61.2.1 = q63.2.1) && true))))));
 let q68 : Prop := (true && bif q67 then false else true) = true;
 let q69 : Prop := q68 -> True;
 let q70 : List Sp.Inst := q43.1;
 let q71 : Nat := q70.length;
 let q72 : Int := (↑q71 : Int);
 let q73 : Bool := bif q67 then true else q72 != (↑q45.1.length : Int);
 let q74 : Prop := q12 /\ q35 /\ q37 /\ (↑x : Int) = (↑x : Int) /\ q70 = q70 /\ True;
 let q75 : Nat := (Sp.blkAt q30 x).1.length;
 let q76 : Int := (↑x : Int) + q15;
 x <= q20 ->
 dFact tI (↑x : Int) /\ True ->
 (q11 /\ True) /\
 (q39 = true ->
 ((True /\ True /\ True /\ True /\ q40 /\ q4) /\ True) /\
 ((True /\ True /\ True /\ True /\ q40 /\ True /\ True /\ True /\ True /\ True /\ q41 /\ True /\ True /\ True /\ True /\ q69 /\ q69 /\ q69 /\ q69 /\ q69 /\ (q68 -> q41) /\ q69 /\ q69 /\ q69 /\ q69 /\ True /\ True) /\ True) /\
 (q73 = true -> q3) /\
 (q73 = false ->
 q2 /\
 (∃ (x : Nat), (1 : Nat) <= x /\ q15 = (↑x : Int) /\ q74) /\
 ∀ (x_1 : Nat),
 let q77 : Bool := decide ((↑x_1 : Int) < q72);
 let q78 : Prop := inN (↑x_1 : Int) q71;
 let q79 : Sp.Inst := q70.getD (↑x_1 : Int).toNat q16;
 let q80 : Bool := q79.1 == q7;
 let q81 : Prop := (true && bif q80 then true else false) = true;
 let q82 : Prop := q81 -> True;
 let q83 : Int := (↑x_1 : Int) - q15;
 let q84 : Prop := inK IntKind.i64 q83;
 let q85 : Prop := inN q83 q71;
 let q86 : Sp.Inst := q70.getD q83.toNat q16;
 let q87 : Bool := bif q80 then q86.1 != q7 else false;
 let q88 : Prop := (true && bif q87 then true else false) = true;
 let q89 : Prop := q88 -> True;
 let q90 : Int := Sp.opI q86;
 let q91 : Int := Sp.nI q86;
 let q92 : Int := Sp.opI q79;
 let q93 : Int := Sp.nI q79;
 let q94 : Bool := bif q87 then !Sp.depP q17 q86 q79 else false;
 let q95 : Int := (↑x_1 : Int) + q15;
 (1 : Nat) <= x_1 -> dFact tI (↑x_1 : Int) /\ True -> (q5 /\ True) /\ (q77 = true -> ((True /\ True /\ q78 /\ True /\ True /\ True /\ True /\ q82 /\ q82 /\ (q81 -> q84) /\ (q81 -> q85) /\ q82 /\ q82 /\ q82 /\ True /\ True /\ q89 /\ q89 /\ q89 /\ (q88 -> q84) /\ (q88 -> q85) /\ q89 /\ q89 /\ q89 /\ (q88 -> q78) /\ q89 /\ (q88 -> (q90 = q7 ∨ q90 = q8 ∨ q90 = q9 -> q10 <= q91 /\ q91 < q21) /\ (q92 = q7 ∨ q92 = q8 ∨ q92 = q9 -> q10 <= q93 /\ q93 < q21)) /\ q89 /\ True /\ True) /\ True) /\ (q94 = true -> q3) /\ (q94 = false -> ((True /\ inK IntKind.i64 q95 /\ True /\ True) /\ True) /\ ∃ (y : Nat), (1 : Nat) <= y /\ q75 - y < q75 - x_1 /\ q95 = (↑y : Int) /\ q74)) /\ (q77 = false -> ((True /\ inK IntKind.i64 q76 /\ True /\ True) /\ True) /\ ∃ (y : Nat), y <= q20 /\ q20 - y < q20 - x /\ q76 = (↑y : Int) /\ q38))) /\
 (q39 = false -> q1 /\ true = true))))) := by kernel_rfl
end Go.User
namespace Sp
structure wI (i : Inst) : Prop where
 arr : opI i = 7 ∨ opI i = 8 ∨ opI i = 9 -> 0 <= nI i /\ nI i < 5
 pri : opI i = 9 -> nI i ≠ 3
 slt : opI i = 11 ∨ opI i = 12 -> 0 <= nI i
 reg : (dI i).1 = 2 -> 0 <= (dI i).2.1
 wr : opI i = 7 ∨ opI i = 11 -> (dI i).1 = 2
structure VI (s : Mk) : Prop where
 byt : Byt s
 ins : ∀ b ∈ cB s.2.2.1, ∀ i ∈ b.1, wI i
theorem wI.plain {i : Inst} (h : opI i < 7 ∨ opI i = 10) (hd : (dI i).1 = 2 -> 0 <= (dI i).2.1) : wI i :=
 ⟨fun h' => by omega, fun h' => by omega, fun h' => by omega, hd, fun h' => by omega⟩
theorem VI.nx {s : Mk} (h : VI s) : VI (nxM s) := ⟨h.byt, h.ins⟩
theorem VI.reg {s : Mk} (h : VI s) : 0 <= (regV s).2.1 := (tmod_bd (nxV_bd s h.byt).1 (by decide)).1
theorem VI.put {s : Mk} (h : VI s) {i : Inst} (hi : wI i) : VI (putM s i) := by
 refine ⟨h.byt, ?_⟩
 intro b hb j hj
 rcases mem_set_cases (show b ∈ List.set _ _ _ from hb) with hb | rfl
 ·exact h.ins b hb j hj
 ·rcases List.mem_append.1 (show j ∈ _ ++ [i] from hj) with hj | hj
  ·rcases Nat.lt_or_ge ((cB s.2.2.1).length - 1) (cB s.2.2.1).length with hl | hl
   ·rw [List.getD_eq_getElem?_getD, List.getElem?_eq_getElem hl] at hj; exact h.ins _ (List.getElem_mem hl) j hj
   ·rw [List.getD_eq_getElem?_getD, List.getElem?_eq_none hl] at hj; exact (List.not_mem_nil hj).elim
  ·rw [List.mem_singleton.1 hj]; exact hi
theorem VI.bl {s : Mk} (h : VI s) : VI (blkM s) := by
 refine ⟨h.byt, ?_⟩
 intro b hb j hj
 rcases List.mem_append.1 (show b ∈ cB s.2.2.1 ++ [blk0] from hb) with hb | hb
 ·exact h.ins b hb j hj
 ·rw [List.mem_singleton.1 hb] at hj; exact (List.not_mem_nil hj).elim
theorem VI.wR {s : Mk} (h : VI s) (k : Int) : VI (wR s k) := ⟨h.byt, h.ins⟩
theorem VI.wL {s : Mk} (h : VI s) (l : Loop) : VI (wL s l) := ⟨h.byt, h.ins⟩
theorem VI.wS {s : Mk} (h : VI s) (k : Int) : VI (wS s k) := ⟨h.byt, h.ins⟩
theorem VI.wT {s : Mk} (h : VI s) (b : Int) (t : Term) : VI (wT s b t) := by
 refine ⟨h.byt, ?_⟩
 intro c hc j hj
 rcases mem_set_cases (show c ∈ List.set _ _ _ from hc) with hc | rfl
 ·exact h.ins c hc j hj
 ·have hj : j ∈ ((cB s.2.2.1).getD b.toNat blk0).1 := hj
  rcases Nat.lt_or_ge b.toNat (cB s.2.2.1).length with hl | hl
  ·rw [List.getD_eq_getElem?_getD, List.getElem?_eq_getElem hl] at hj; exact h.ins _ (List.getElem_mem hl) j hj
  ·rw [List.getD_eq_getElem?_getD, List.getElem?_eq_none hl] at hj; exact (List.not_mem_nil hj).elim
theorem VI.pl {s : Mk} (h : VI s) (p : Bool) : VI (plM s p) := h.nx.nx.nx.put (.plain (.inl (by show (3 : Int) < 7; decide)) fun _ => h.nx.reg)
theorem plN_bd {s : Mk} (h : VI s) (p : Bool) : 0 <= plN s p /\ plN s p < 5 := by
 unfold plN
 split
 ·omega
 ·exact tmod_bd (nxV_bd s h.byt).1 (by decide)
theorem plN_pri {s : Mk} : plN s false ≠ 3 := by
 unfold plN
 split
 ·decide
 ·rename_i h
  exact fun e => h ⟨e, rfl⟩
theorem VI.inst {s : Mk} (h : VI s) : VI (instM s) := by
 unfold instM instF
 have h1 := h.nx
 split
 ·exact h1.nx.nx.put (.plain (.inl (by show (5 : Int) < 7; decide)) fun _ => h1.nx.reg)
 split
 ·exact h1.nx.nx.nx.nx.put (.plain (.inl (by show (3 : Int) < 7; decide)) fun _ => h1.nx.reg)
 split
 ·exact h1.nx.nx.nx.put (.plain (.inl (by show (2 : Int) < 7; decide)) fun _ => h1.nx.reg)
 split
 ·exact h1.nx.nx.nx.nx.put (.plain (.inl (by show (4 : Int) < 7; decide)) fun _ => h1.reg)
 split
 ·exact h1.nx.nx.put (.plain (.inl (by show (1 : Int) < 7; decide)) fun _ => h1.reg)
 split
 ·exact h1.nx.nx.put (.plain (.inl (by show (6 : Int) < 7; decide)) fun _ => h1.nx.reg)
 split
 ·exact h1.nx.put (.plain (.inr rfl) fun e => by exact absurd (show (0 : Int) = 2 from e) (by decide))
 split
 ·refine (h1.pl false).nx.nx.put ⟨fun _ => plN_bd h1 false, fun _ => plN_pri, fun e => ?_, fun e => by exact absurd (show (0 : Int) = 2 from e) (by decide), fun e => ?_⟩
  ·have e : (9 : Int) = 11 ∨ (9 : Int) = 12 := e; omega
  ·have e : (9 : Int) = 7 ∨ (9 : Int) = 11 := e; omega
 split
 ·refine (h1.pl true).nx.put ⟨fun _ => plN_bd h1 true, fun e => ?_, fun e => ?_, fun _ => (h1.pl true).reg, fun _ => rfl⟩
  ·have e : (7 : Int) = 9 := e; omega
  ·have e : (7 : Int) = 11 ∨ (7 : Int) = 12 := e; omega
 ·refine (h1.pl true).nx.put ⟨fun _ => plN_bd h1 true, fun e => ?_, fun e => ?_, fun e => by exact absurd (show (0 : Int) = 2 from e) (by decide), fun e => ?_⟩
  ·have e : (8 : Int) = 9 := e; omega
  ·have e : (8 : Int) = 11 ∨ (8 : Int) = 12 := e; omega
  ·have e : (8 : Int) = 7 ∨ (8 : Int) = 11 := e; omega
theorem VI.instN : ∀ {k : Nat} {s : Mk}, VI s -> VI (instN k s)
 | 0, s, h => h
 | k + 1, s, h => VI.instN (k := k) (s := instM s) h.inst
theorem VI.insM {s : Mk} (h : VI s) : VI (insM s) := VI.instN h.nx
theorem lpN_nn (s : Mk) : 0 <= lpN s := by unfold lpN; omega
theorem VI.lp6 {s : Mk} (h : VI s) : VI (lp6 s) := by
 have a1 : VI (lp1 s) := VI.put (i := i3 1 0 0 (regO (lpN s)) (conO 0) opd0) (h.nx.wR _) (.plain (.inl (by show (1 : Int) < 7; decide)) fun _ => lpN_nn s)
 have a2 : VI (lp2 s) := ((a1.wT _ _).wL _).bl
 have a3 : VI (lp3 s) := a2.put (.plain (.inl (by show (3 : Int) < 7; decide)) fun _ => by have := lpN_nn s; show 0 <= lpN s + 1; omega)
 have a4 : VI (lp4 s) := (a3.wT _ _).bl
 have a5 : VI (lp5 s) := (VI.put (i := i3 3 10 0 (regO (lpN s)) (regO (lpN s)) (conO 1)) a4 (.plain (.inl (by show (3 : Int) < 7; decide)) fun _ => lpN_nn s)).insM
 exact a5.wT _ _
theorem VI.lp {s : Mk} (h : VI s) : VI (lpM s) := by
 unfold lpM
 split
 ·exact h.lp6.nx.nx.wT _ _
 ·exact h.lp6.nx
theorem VI.rg2 {s : Mk} (h : VI s) (b last : Int) : VI (rg2 b last s) := by
 unfold Sp.rg2
 split
 ·exact h.nx.nx.nx.nx.wT _ _
 ·exact h.nx
theorem VI.rgN {last : Int} : ∀ {k : Nat} {s : Mk}, VI s -> VI (rgN last k s)
 | 0, s, h => h
 | k + 1, s, h => VI.rgN (k := k) (s := rgS (last - ((k + 1 : Nat) : Int)) last s) (((h.insM.wT _ _).rg2 _ _).bl)
theorem VI.rg {s : Mk} (h : VI s) (n : Int) : VI (rgM s n) := (VI.rgN h.bl).insM
theorem VI.sbN : ∀ {k : Nat} {s : Mk}, VI s -> VI (sbN k s)
 | 0, s, h => h
 | k + 1, s, h => by
  show VI (if _ then _ else _)
  split
  ·exact VI.sbN (h.wS _)
  ·exact h
theorem VI.q2 {s : Mk} (h : VI s) : VI (q2 s) := by
 unfold Sp.q2
 split
 ·exact h.nx.lp.bl
 ·exact h.nx
theorem VI.q4 {s : Mk} (h : VI s) (b : Int) : VI (q4 b s) := by
 unfold Sp.q4
 split
 ·exact h.nx.nx.nx.nx.nx.wT _ _
 ·exact h.nx
theorem VI.mdS {s : Mk} (h : VI s) : VI (mdS s) := ((h.nx.rg _).q2.wT _ _).q4 _
theorem VI.mdN : ∀ {k : Nat} {s : Mk}, VI s -> VI (mdN k s)
 | 0, s, h => h
 | k + 1, s, h => @VI.mdN k (Sp.mdS s) h.mdS
theorem VI.q5 {s : Mk} (h : VI s) : VI (q5 s) := by
 unfold Sp.q5
 split
 ·exact h.nx.lp.bl.insM
 ·exact h.nx
theorem VI.md5 (L : List Int) (hb : Byt (md0 L)) : VI (md5 L) := by
 have a1 : VI (md1 L) := ⟨hb, fun b hb => (List.not_mem_nil hb).elim⟩
 have a2 : VI (md2 L) := VI.sbN a1.nx
 have a3 : VI (md3 L) := VI.mdN a2.nx
 exact ((a3.nx.rg _).q5).wT _ _
theorem made_wI (L : List Int) (hb : Byt (md0 L)) : ∀ b ∈ cB (madeC L), ∀ i ∈ b.1, wI i := (VI.md5 L hb).ins
theorem made_ne (L : List Int) (hb : Byt (md0 L)) : 0 < (cB (madeC L)).length := by
 have h := (MkOK.md4 L hb).2.1
 show 0 < (setT _ _ _).length
 unfold setT
 rw [List.length_set]; exact h
theorem slL_wI (b : Int) (hb : 0 <= b) (l : List Inst) (hl : ∀ i ∈ l, wI i) : ∀ k, k <= l.length -> ∀ i ∈ slL b l k, wI i
 | 0, _, i, hi => (List.not_mem_nil hi).elim
 | k + 1, hk, i, hi => by
  rcases List.mem_append.1 (show i ∈ slL b l k ++ [insAt l k] ++ slI b k from hi) with hi | hi
  ·rcases List.mem_append.1 hi with hi | hi
   ·exact slL_wI b hb l hl k (by omega) i hi
   ·rw [List.mem_singleton.1 hi]
    unfold insAt;rw [List.getD_eq_getElem?_getD, List.getElem?_eq_getElem (by omega : k < l.length)];exact hl _ (List.getElem_mem _)
  ·unfold slI at hi
   have h2 := tmod_bd hb (k := 2) (by decide)
   split at hi
   ·rcases List.mem_cons.1 hi with rfl | hi
    ·refine ⟨fun e => ?_, fun e => ?_, fun _ => h2.1, fun e => by exact absurd (show (0 : Int) = 2 from e) (by decide), fun e => ?_⟩
     ·have e : (12 : Int) = 7 ∨ (12 : Int) = 8 ∨ (12 : Int) = 9 := e; omega
     ·have e : (12 : Int) = 9 := e; omega
     ·have e : (12 : Int) = 7 ∨ (12 : Int) = 11 := e; omega
    ·rw [List.mem_singleton.1 hi]
     refine ⟨fun e => ?_, fun e => ?_, fun _ => h2.1, fun _ => (show 0 <= Int.tmod ((k : Int) + 1) 6 from (tmod_bd (by omega) (by decide)).1), fun _ => rfl⟩
     ·have e : (11 : Int) = 7 ∨ (11 : Int) = 8 ∨ (11 : Int) = 9 := e; omega
     ·have e : (11 : Int) = 9 := e; omega
   ·exact (List.not_mem_nil hi).elim
structure wC (c : Code) : Prop where
 arr : cA c = arrs
 ne : 0 < (cB c).length
 bd : (cB c).length <= 800 /\ (cL c).length <= 800 /\ ∀ b ∈ cB c, b.1.length <= 2400
 ins : ∀ b ∈ cB c, ∀ i ∈ b.1, wI i
end Sp
namespace Go.User
open Sp
theorem wC_made (L : List Int) (hb : Byt (md0 L)) : wC (madeC L) := by
 obtain ⟨_, g2, g3, g4⟩ := made_ok L hb
 have g5 := ((made_ok L hb).mono (show 800 <= 2400 by omega)).2.2.2
 exact ⟨made_arr L hb, made_ne L hb, ⟨g3, g2, g5⟩, made_wI L hb⟩
theorem cB_setB (c : Sp.Code) (B : List Sp.Block) : Sp.cB (Sp.setB c B) = B := rfl
theorem cB_slo (L : List Int) : Sp.cB (Sp.sloC L) = Sp.slB (Sp.madeC L) (Sp.cB (Sp.madeC L)).length := by unfold Sp.sloC; exact cB_setB _ _
theorem cA_setB (c : Sp.Code) (B : List Sp.Block) : Sp.cA (Sp.setB c B) = Sp.cA c := rfl
theorem cL_setB (c : Sp.Code) (B : List Sp.Block) : Sp.cL (Sp.setB c B) = Sp.cL c := rfl
theorem cA_setSl (c : Sp.Code) (n : Int) : Sp.cA (Sp.setSl c n) = Sp.cA c := rfl
theorem cL_setSl (c : Sp.Code) (n : Int) : Sp.cL (Sp.setSl c n) = Sp.cL c := rfl
theorem cA_slo (L : List Int) : Sp.cA (Sp.sloC L) = Sp.cA (Sp.madeC L) := by unfold Sp.sloC; rw [cA_setB, cA_setSl]
theorem cL_slo (L : List Int) : Sp.cL (Sp.sloC L) = Sp.cL (Sp.madeC L) := by unfold Sp.sloC; rw [cL_setB, cL_setSl]
theorem wC_slo0 (c d : Sp.Code) (h : wC c) (h8 : ∀ b ∈ cB c, b.1.length <= 800) (e1 : cB d = slB c (cB c).length) (e2 : cA d = cA c) (e3 : cL d = cL c) : wC d := by
 have hat : ∀ b ∈ cB d, ∃ k, k < (cB c).length /\ b = (slL (k : Int) (blkAt c k).1 (blkAt c k).1.length, (blkAt c k).2) := by
  intro b hb;rw [e1] at hb;obtain ⟨k, hk, e⟩ := List.mem_iff_getElem.1 hb;have hk' := hk;rw [slB_len] at hk';refine ⟨k, hk', ?_⟩;have := slB_at c (cB c).length hk' blk0;rw [if_pos hk', List.getD_eq_getElem?_getD, List.getElem?_eq_getElem hk, e] at this;exact this
 refine ⟨e2.trans h.arr, ?_, ⟨?_, by rw [e3]; exact h.bd.2.1, ?_⟩, ?_⟩
 ·rw [e1, slB_len]; exact h.ne
 ·rw [e1, slB_len]; exact h.bd.1
 ·intro b hb
  obtain ⟨k, hk, rfl⟩ := hat b hb;have g1 := slL_len (k : Int) (blkAt c k).1 (blkAt c k).1.length;have g2 := h8 _ (blkAt_mem hk)
  dsimp only
  omega
 ·intro b hb i hi
  obtain ⟨k, hk, rfl⟩ := hat b hb;exact slL_wI k (by omega) _ (fun i hi => h.ins _ (blkAt_mem hk) i hi) _ (Nat.le_refl _) i hi
theorem wC_slo (L : List Int) (hb : Byt (md0 L)) : wC (sloC L) :=
 wC_slo0 (madeC L) (sloC L) (wC_made L hb) (made_ok L hb).2.2.2 (cB_slo L) (cA_slo L) (cL_slo L)
theorem _root_.Sp.wC.v {c : Sp.Code} (h : Sp.wC c) : vOK c := by
 refine ⟨⟨by rw [h.arr]; decide, by have := h.bd.2.1; omega, by have := h.bd.1; omega, fun b hb => by have := h.bd.2.2 b hb; omega⟩, ?_⟩
 intro b hb i hi hop
 rw [h.arr]
 exact (h.ins b hb i hi).arr hop
end Go.User
namespace Sp
theorem spc_arr {c : Code} (h : cA c = arrs) {n : Int} (h0 : 0 <= n) (h5 : n < 5) (h3 : n ≠ 3) : spc c n ≠ 3 := by
 unfold spc
 rw [h]
 have hc : n = 0 ∨ n = 1 ∨ n = 2 ∨ n = 4 := by omega
 rcases hc with rfl | rfl | rfl | rfl <;> decide
theorem depP_eq {c : Code} (ha : cA c = arrs) {i j : Inst} (hi : wI i) (hj : wI j) : depP c i j = depR c i j := by
 unfold depP depR
 have key : accB (accI c i) (accI c j) = (arrB i && arrB j && decide (nI i = nI j) && (!decide (opI i = 7) || !decide (opI j = 7) || visB c i) || sltB i && sltB j && decide (nI i = nI j) && (!decide (opI i = 11) || !decide (opI j = 11)) || strB i && visB c j || strB j && visB c i) := by
  have hcase : ∀ i : Inst, wI i -> (opI i = 7 /\ 0 <= nI i) ∨ (opI i = 8 /\ 0 <= nI i) ∨ (opI i = 9 /\ 0 <= nI i /\ spc c (nI i) ≠ 3) ∨ opI i = 10 ∨ (opI i = 11 /\ 0 <= nI i) ∨ (opI i = 12 /\ 0 <= nI i) ∨ (opI i ≠ 7 /\ opI i ≠ 8 /\ opI i ≠ 9 /\ opI i ≠ 10 /\ opI i ≠ 11 /\ opI i ≠ 12) := by
   intro i hi;have hA := hi.arr;have hS := hi.slt;by_cases e7 : opI i = 7
   ·exact .inl ⟨e7, (hA (.inl e7)).1⟩
   by_cases e8 : opI i = 8
   ·exact .inr (.inl ⟨e8, (hA (.inr (.inl e8))).1⟩)
   by_cases e9 : opI i = 9
   ·exact .inr (.inr (.inl ⟨e9, (hA (.inr (.inr e9))).1, spc_arr ha (hA (.inr (.inr e9))).1 (hA (.inr (.inr e9))).2 (hi.pri e9)⟩))
   by_cases e10 : opI i = 10
   ·exact .inr (.inr (.inr (.inl e10)))
   by_cases e11 : opI i = 11
   ·exact .inr (.inr (.inr (.inr (.inl ⟨e11, hS (.inl e11)⟩))))
   by_cases e12 : opI i = 12
   ·exact .inr (.inr (.inr (.inr (.inr (.inl ⟨e12, hS (.inr e12)⟩)))))
   exact .inr (.inr (.inr (.inr (.inr (.inr ⟨e7, e8, e9, e10, e11, e12⟩)))))
  unfold accB accI arrB sltB visB strB;rcases hcase i hi with ⟨hi1, hi2⟩ | ⟨hi1, hi2⟩ | ⟨hi1, hi2, hi3⟩ | hi1 | ⟨hi1, hi2⟩ | ⟨hi1, hi2⟩ | ⟨g1, g2, g3, g4, g5, g6⟩ <;>
  rcases hcase j hj with ⟨hj1, hj2⟩ | ⟨hj1, hj2⟩ | ⟨hj1, hj2, hj3⟩ | hj1 | ⟨hj1, hj2⟩ | ⟨hj1, hj2⟩ | ⟨k1, k2, k3, k4, k5, k6⟩ <;>
  (try simp [*, ac0, strB, arrB]) <;> (try (intros; omega))
 rw [key]
 generalize hitB i j = x1
 generalize hitB j i = x2
 simp only [Bool.or_assoc]
end Sp
namespace Sp
theorem visB_arr {c : Code} (ha : cA c = arrs) {i : Inst} (hi : wI i) (hA : arrB i = true) : visB c i = !decide (spc c (nI i) = 3) := by
 unfold visB
 rw [hA, Bool.true_and]
 cases hs : strB i
 ·rfl
 ·have h9 : opI i = 9 := by
   unfold strB at hs; unfold arrB at hA;simp only [Bool.or_eq_true, decide_eq_true_eq] at hs hA;omega
  have hb := hi.arr (.inr (.inr h9))
  rw [decide_eq_false (spc_arr ha hb.1 hb.2 (hi.pri h9))]; rfl
theorem bool6 : ∀ a b s t p q : Bool, (a || b || s || t || p || q) = (b || a || s || t || q || p) := by decide
theorem depR_symm {c : Code} (ha : cA c = arrs) {i j : Inst} (hi : wI i) (hj : wI j) : depR c i j = depR c j i := by
 have h1 : (arrB i && arrB j && decide (nI i = nI j) && (!decide (opI i = 7) || !decide (opI j = 7) || visB c i)) = (arrB j && arrB i && decide (nI j = nI i) && (!decide (opI j = 7) || !decide (opI i = 7) || visB c j)) := by
  cases hA : arrB i
  ·cases arrB j <;> rfl
  ·cases hB : arrB j
   ·rfl
   ·by_cases h : nI i = nI j
    ·rw [visB_arr ha hi hA, visB_arr ha hj hB, h, Bool.or_comm (!decide (opI i = 7))]
    ·rw [show decide (nI i = nI j) = false from decide_eq_false h, show decide (nI j = nI i) = false from decide_eq_false (fun e => h e.symm)]; rfl
 have h2 : (sltB i && sltB j && decide (nI i = nI j) && (!decide (opI i = 11) || !decide (opI j = 11))) = (sltB j && sltB i && decide (nI j = nI i) && (!decide (opI j = 11) || !decide (opI i = 11))) := by
  rw [Bool.and_comm (sltB i), Bool.or_comm (!decide (opI i = 11)), decide_eq_decide.2 (eq_comm (a := nI i))]
 unfold depR
 rw [h1, h2]
 exact bool6 _ _ _ _ _ _
theorem insAt_mem {l : List Inst} {n : Nat} (h : n < l.length) : insAt l n ∈ l := by
 unfold insAt
 rw [List.getD_eq_getElem?_getD, List.getElem?_eq_getElem h]
 exact List.getElem_mem h
theorem ordN_take (f : List Int -> Int) : ∀ {n k : Nat}, k <= n -> (ordN f n).take k = ordN f k
 | 0, k, h => by
  have : k = 0 := by omega
  subst this; rfl
 | n + 1, k, h => by
  rcases Nat.lt_or_ge n k with g | g
  ·have : k = n + 1 := by omega
   subst this;exact List.take_of_length_le (by rw [ordN_len]; exact Nat.le_refl _)
  ·show (ordN f n ++ [f (ordN f n)]).take k = _
   rw [List.take_append_of_le_length (by rw [ordN_len]; exact g), ordN_take f g]
theorem ordN_at (f : List Int -> Int) {n k : Nat} (h : k < n) : xAt (ordN f n) k = f (ordN f k) := by
 have h1 : xAt (ordN f n) k = xAt ((ordN f n).take (k + 1)) k := by
  unfold xAt;rw [List.getD_eq_getElem?_getD, List.getD_eq_getElem?_getD, List.getElem?_take, if_pos (Nat.lt_succ_self k)]
 rw [h1, ordN_take f h]
 show xAt (ordN f k ++ [f (ordN f k)]) k = _
 unfold xAt
 rw [List.getD_eq_getElem?_getD, List.getElem?_append_right (by rw [ordN_len]; exact Nat.le_refl _), ordN_len, Nat.sub_self]; rfl
theorem take_not {x : List Int} (hn : x.Nodup) {i j : Nat} (hij : i <= j) (hj : j < x.length) : xAt x j ∉ x.take i := by
 intro h
 obtain ⟨p, hp, e⟩ := List.mem_iff_getElem.1 h
 rw [List.length_take] at hp
 have hp2 : p < x.length := by omega
 have e2 : xAt x p = xAt x j := by
  rw [<- e, List.getElem_take];unfold xAt;rw [List.getD_eq_getElem?_getD, List.getElem?_eq_getElem hp2]; rfl
 have a1 := idx_of_at hn hp2
 have a2 := idx_of_at hn hj
 rw [e2, a2] at a1
 omega
theorem rgt_of_rdy {dep : Inst -> Inst -> Bool} {l : List Inst} {x : List Int} (hl : x.length = l.length) (hr : ∀ k, k < l.length -> 0 <= xAt x k /\ xAt x k < (l.length : Int) /\ rdyB dep l (x.take k) (xAt x k).toNat = true) :
  rgtB (fun a b => dep b a) l x = true := by
 have hnot : ∀ k, k < l.length -> xAt x k ∉ x.take k := by
  intro k hk;obtain ⟨h0, _, h2⟩ := hr k hk;have := ((rdyB_iff dep l _ _).1 h2).1
  rwa [Int.toNat_of_nonneg h0] at this
 have hnd : ∀ k, k <= l.length -> (x.take k).Nodup := by
  intro k
  induction k with
  | zero => intro _; exact List.nodup_nil
  | succ k ih =>
   intro hk;exact nodup_take_succ (d := 0) (by omega) (ih (by omega)) (hnot k (by omega))
 have hn : x.Nodup := by
  have := hnd l.length (Nat.le_refl _)
  rwa [List.take_of_length_le (by omega)] at this
 have hrange : ∀ v ∈ x, 0 <= v /\ v < (l.length : Int) := by
  intro v hv;have h1 := idx_at hv;have h2 := List.idxOf_lt_length_of_mem hv;obtain ⟨g1, g2, _⟩ := hr _ (by omega : x.idxOf v < l.length);rw [h1] at g1 g2;exact ⟨g1, g2⟩
 refine (rgtB_iff _ l x).2 ⟨hl, in_perm hl hn hrange, fun i hi j hj => ?_⟩
 cases hb : badP (fun a b => dep b a) l x i j
 ·rfl
 ·exfalso
  obtain ⟨b1, b2, b3⟩ := (badP_iff _ _ _ _ _).1 hb;obtain ⟨g1, g2, g3⟩ := hr i (by omega);obtain ⟨k1, k2, _⟩ := hr j (by omega);rcases ((rdyB_iff dep l _ _).1 g3).2 (xAt x j).toNat (by omega) with h | h
  ·rw [Int.toNat_of_nonneg k1] at h
   exact take_not hn (Nat.le_of_lt b1) hj h
  ·rw [h] at b3; cases b3
theorem lst_rdy (dep : Inst -> Inst -> Bool) (l : List Inst) {k : Nat} (hk : k < l.length) : 0 <= xAt (lstO dep l) k /\ xAt (lstO dep l) k < (l.length : Int) /\ rdyB dep l ((lstO dep l).take k) (xAt (lstO dep l) k).toNat = true := by
 obtain ⟨m, hm, e, hr, _⟩ := stpO_spec dep l (out := ordN (stpO dep l) k) (by rw [ordN_len]; exact hk)
 unfold lstO
 rw [ordN_at _ hk, ordN_take _ (Nat.le_of_lt hk), e, Int.toNat_natCast]
 exact ⟨by omega, by omega, hr⟩
theorem lst_rgt (dep : Inst -> Inst -> Bool) (l : List Inst) : rgtB (fun a b => dep b a) l (lstO dep l) = true := rgt_of_rdy (lstO_len dep l) fun k hk => lst_rdy dep l hk
theorem reoL_len (l : List Inst) (x : List Int) : (reoL l x).length = x.length := by unfold reoL; rw [List.length_map]
theorem reoL_at (l : List Inst) (x : List Int) {p : Nat} (h : p < x.length) : insAt (reoL l x) p = insAt l (xAt x p).toNat := by
 unfold reoL xAt
 show List.getD _ _ _ = _
 rw [List.getD_eq_getElem?_getD, List.getElem?_map, List.getElem?_eq_getElem h, List.getD_eq_getElem?_getD, List.getElem?_eq_getElem h]; rfl
theorem ins_ext {a b : List Inst} (hl : a.length = b.length) (h : ∀ i, i < a.length -> insAt a i = insAt b i) : a = b := ext_getD inst0 hl h
theorem idL_len (n : Nat) : (idL n).length = n := by unfold idL; rw [List.length_map, List.length_range]
theorem idL_at {n i : Nat} (h : i < n) : xAt (idL n) i = (i : Int) := getD_map_range _ h 0
theorem idL_succ (n : Nat) : idL (n + 1) = idL n ++ [(n : Int)] := by
 unfold idL
 rw [List.range_succ, List.map_append]; rfl
theorem idL_mem {n : Nat} {v : Int} : v ∈ idL n ↔ 0 <= v /\ v < (n : Int) := by
 unfold idL
 rw [List.mem_map]
 constructor
 ·rintro ⟨i, hi, rfl⟩
  have := List.mem_range.1 hi
  omega
 ·rintro ⟨h1, h2⟩
  exact ⟨v.toNat, List.mem_range.2 (by omega), by omega⟩
theorem reoL_id (l : List Inst) : reoL l (idL l.length) = l := by
 refine ins_ext (by rw [reoL_len, idL_len]) fun i hi => ?_
 rw [reoL_len, idL_len] at hi
 rw [reoL_at _ _ (by rw [idL_len]; exact hi), idL_at hi, Int.toNat_natCast]
theorem idL_rgt (dep : Inst -> Inst -> Bool) (l : List Inst) : rgtB dep l (idL l.length) = true := by
 refine (rgtB_iff _ _ _).2 ⟨idL_len _, fun n hn => idL_mem.2 ⟨by omega, by omega⟩, fun i hi j hj => ?_⟩
 rw [idL_len] at hi hj
 unfold badP
 rw [idL_at hi, idL_at hj]
 by_cases h : i < j
 ·rw [decide_eq_false (by omega : ¬ (j : Int) < (i : Int)), Bool.and_false]; rfl
 ·rw [decide_eq_false h]; rfl
theorem lst_gap (dep : Inst -> Inst -> Bool) (l : List Inst) {k m : Nat} (hkm : k < m) (hm : m < l.length) (hk1 : ldB l (xAt (lstO dep l) k).toNat = false) (hm1 : ldB l (xAt (lstO dep l) m).toNat = true) :
  ∃ p, k <= p /\ p < m /\ dep (insAt l (xAt (lstO dep l) p).toNat) (insAt l (xAt (lstO dep l) m).toNat) = true := by
 have hk : k < l.length := by omega
 have hlen := lstO_len dep l
 obtain ⟨hnd, hrg⟩ := lstO_ok dep l
 have hrt := lst_rgt dep l
 obtain ⟨_, _, _, hall⟩ := rgtB_perm hrt
 have hbad := ((rgtB_iff _ _ _).1 hrt).2.2
 obtain ⟨c, hc, e, hr, hsp⟩ := stpO_spec dep l (out := ordN (stpO dep l) k) (by rw [ordN_len]; exact hk)
 have ek : xAt (lstO dep l) k = (c : Int) := by unfold lstO; rw [ordN_at _ hk, e]
 have et : ordN (stpO dep l) k = (lstO dep l).take k := by unfold lstO; rw [ordN_take _ (Nat.le_of_lt hk)]
 rw [ek, Int.toNat_natCast] at hk1
 obtain ⟨rm0, rm1⟩ := hrg _ (mem_getD' (x := lstO dep l) (p := m) (by omega))
 have hno : rdyB dep l (ordN (stpO dep l) k) (xAt (lstO dep l) m).toNat = false := by
  cases hq : rdyB dep l (ordN (stpO dep l) k) (xAt (lstO dep l) m).toNat
  ·rfl
  ·exfalso
   rcases hsp with ⟨h1, _⟩ | ⟨_, h2, _⟩
   ·rw [h1] at hk1; cases hk1
   ·rw [h2 _ (by omega) hq] at hm1; cases hm1
 apply Classical.byContradiction
 intro hc'
 have : rdyB dep l (ordN (stpO dep l) k) (xAt (lstO dep l) m).toNat = true := by
  refine (rdyB_iff _ _ _ _).2 ⟨?_, fun j hj => ?_⟩
  ·rw [Int.toNat_of_nonneg rm0, et]
   exact take_not hnd (Nat.le_of_lt hkm) (by omega)
  ·have hjm := hall j (by omega)
   have h1 := idx_at hjm
   have h2 := List.idxOf_lt_length_of_mem hjm
   generalize (lstO dep l).idxOf (j : Int) = p at h1 h2
   rcases Nat.lt_or_ge p k with g | g
   ·left
    rw [et, <- h1];refine List.mem_iff_getElem.2 ⟨p, by rw [List.length_take]; omega, ?_⟩
    rw [List.getElem_take];unfold xAt;rw [List.getD_eq_getElem?_getD, List.getElem?_eq_getElem h2]; rfl
   ·right
    rcases Nat.lt_trichotomy p m with g2 | g2 | g2
    ·cases hd : dep (insAt l j) (insAt l (xAt (lstO dep l) m).toNat)
     ·rfl
     ·exfalso
      refine hc' ⟨p, g, g2, ?_⟩
      rw [h1, Int.toNat_natCast]; exact hd
    ·exfalso
     rw [g2] at h1;rw [h1, Int.toNat_natCast] at hj;exact Nat.lt_irrefl _ hj
    ·cases hd : dep (insAt l j) (insAt l (xAt (lstO dep l) m).toNat)
     ·rfl
     ·exfalso
      have := hbad m (by omega) p h2
      rw [(badP_iff _ _ _ _ _).2 ⟨g2, by rw [h1]; omega, by rw [h1, Int.toNat_natCast]; exact hd⟩] at this
      cases this
 rw [this] at hno; cases hno
theorem lst_again (dep : Inst -> Inst -> Bool) (l : List Inst) : lstO dep (reoL l (lstO dep l)) = idL l.length := by
 generalize hL : reoL l (lstO dep l) = l'
 have hlen : l'.length = l.length := by rw [<- hL, reoL_len, lstO_len]
 have hat : ∀ p, p < l.length -> insAt l' p = insAt l (xAt (lstO dep l) p).toNat := fun p hp => by rw [<- hL, reoL_at _ _ (by rw [lstO_len]; exact hp)]
 have hld : ∀ p, p < l.length -> ldB l' p = ldB l (xAt (lstO dep l) p).toNat := fun p hp => by unfold ldB; rw [hat p hp]
 have key : ∀ k, k <= l.length -> ordN (stpO dep l') k = idL k := by
  intro k
  induction k with
  | zero => intro _; rfl
  | succ k ih =>
   intro hk;show ordN (stpO dep l') k ++ [stpO dep l' (ordN (stpO dep l') k)] = _;rw [ih (by omega), idL_succ]
   congr 2
   obtain ⟨m, hm, e, hr, hsp⟩ := stpO_spec dep l' (out := idL k) (by rw [idL_len]; omega);rw [e];have hrk : rdyB dep l' (idL k) k = true := (rdyB_iff _ _ _ _).2 ⟨fun h => by have := idL_mem.1 h; omega, fun i hi => .inl (idL_mem.2 ⟨by omega, by omega⟩)⟩
   have hmr := (rdyB_iff _ _ _ _).1 hr
   have hmk : k <= m := by
    rcases Nat.lt_or_ge m k with g | g
    ·exact absurd (idL_mem.2 ⟨by omega, by omega⟩) hmr.1
    ·exact g
   rcases Nat.lt_or_ge k m with g | g
   ·exfalso
    rcases hsp with ⟨h1, h2⟩ | ⟨h1, h2, h3⟩
    ·cases hlk : ldB l' k
     ·rw [hld k (by omega)] at hlk
      rw [hld m (by omega)] at h1;obtain ⟨p, p1, p2, p3⟩ := lst_gap dep l g (by omega) hlk h1;rcases hmr.2 p p2 with h | h
      ·have := idL_mem.1 h; omega
      ·rw [hat p (by omega), hat m (by omega), p3] at h; cases h
     ·exact h2 k g ⟨hrk, hlk⟩
    ·rw [h3 k g] at hrk; cases hrk
   ·have : m = k := by omega
    rw [this]
 unfold lstO
 unfold lstO at hL
 rw [hlen, key _ (Nat.le_refl _)]
end Sp
namespace Sp
theorem cB_reo (c : Code) (X : List (List Int)) : cB (reoC c X) = reoN c X (cB c).length := rfl
theorem cB_reo_len (c : Code) (X : List (List Int)) : (cB (reoC c X)).length = (cB c).length := reoN_len c X _
theorem blkAt_reo (c : Code) (X : List (List Int)) {b : Nat} (h : b < (cB c).length) : blkAt (reoC c X) b = reoK c X b := by
 unfold blkAt
 rw [cB_reo, reoN_at c X _ h, if_pos h]
theorem depP_reo (c : Code) (X : List (List Int)) : depP (reoC c X) = depP c := rfl
theorem mem_blkAt {c : Code} {b : Block} (h : b ∈ cB c) : ∃ k, k < (cB c).length /\ b = blkAt c k := by
 obtain ⟨k, hk, e⟩ := List.mem_iff_getElem.1 h
 refine ⟨k, hk, ?_⟩
 unfold blkAt
 rw [List.getD_eq_getElem?_getD, List.getElem?_eq_getElem hk]; exact e.symm
theorem wC.reo {c : Code} {X : List (List Int)} (h : wC c) (hX : ∀ b, b < (cB c).length -> (xsAt X b).length <= 2400 /\ ∀ k ∈ xsAt X b, 0 <= k /\ k < ((blkAt c b).1.length : Int)) : wC (reoC c X) := by
 refine ⟨h.arr, by rw [cB_reo_len]; exact h.ne, ⟨by rw [cB_reo_len]; exact h.bd.1, h.bd.2.1, ?_⟩, ?_⟩
 ·intro b hb
  obtain ⟨k, hk, rfl⟩ := mem_blkAt hb;rw [cB_reo_len] at hk;rw [blkAt_reo c X hk];show (reoL _ _).length <= _;rw [reoL_len]; exact (hX k hk).1
 ·intro b hb i hi
  obtain ⟨k, hk, rfl⟩ := mem_blkAt hb;rw [cB_reo_len] at hk;rw [blkAt_reo c X hk] at hi;obtain ⟨v, hv, rfl⟩ := List.mem_map.1 (show i ∈ List.map _ _ from hi);have := (hX k hk).2 v hv;exact h.ins _ (blkAt_mem hk) _ (insAt_mem (by omega))
theorem wC.rgt {c : Code} {X : List (List Int)} {dep : Inst -> Inst -> Bool} (h : wC c) (hX : ∀ b, b < (cB c).length -> rgtB dep (blkAt c b).1 (xsAt X b) = true) : wC (reoC c X) :=
 h.reo fun b hb => by
  obtain ⟨h1, _, h3, _⟩ := rgtB_perm (hX b hb);exact ⟨by rw [h1]; exact h.bd.2.2 _ (blkAt_mem hb), h3⟩
def okX (c : Code) (X : List (List Int)) : Prop := X.length = (cB c).length /\ ∀ b, b < (cB c).length -> rgtB (depQ c) (blkAt c b).1 (xsAt X b) = true
theorem rgtA_iff (c : Code) (X : List (List Int)) : rgtA depQ c X = true ↔ okX c X := by
 unfold rgtA okX
 rw [Bool.and_eq_true, decide_eq_true_iff, all_range]
theorem chkP_if (c d : Code) (X : List (List Int)) : chkP c d X = @ite _ (okX c X /\ reoC c X = d) (Classical.propDecidable _) 0 100 := by
 unfold chkP
 by_cases h : okX c X /\ reoC c X = d
 ·rw [if_pos h, if_pos (by rw [Bool.and_eq_true, rgtA_iff, eqCode_iff']; exact h)]
 ·rw [if_neg h, if_neg (by rw [Bool.and_eq_true, rgtA_iff, eqCode_iff']; exact h)]
theorem chkP_ok {c d : Code} {X : List (List Int)} (h1 : okX c X) (h2 : reoC c X = d) : chkP c d X = 0 := by rw [chkP_if, if_pos ⟨h1, h2⟩]
theorem chkP_no {c d : Code} {X : List (List Int)} (h : ¬ (okX c X /\ reoC c X = d)) : chkP c d X = 100 := by rw [chkP_if, if_neg h]
theorem run_okX (c : Code) : okX c (runX depP c) := ⟨runX_len _ _, fun b hb => by rw [runX_at depP c hb]; exact lst_rgt (depP c) _⟩
theorem run_chk (c : Code) : chkP c (runC depP c) (runX depP c) = 0 := chkP_ok (run_okX c) rfl
theorem wC.run {c : Code} (h : wC c) : wC (runC depP c) := h.rgt (run_okX c).2
theorem wC.dep {c : Code} (h : wC c) {b : Nat} (hb : b < (cB c).length) : ∀ i ∈ (blkAt c b).1, ∀ j ∈ (blkAt c b).1, depP c i j = depR c i j :=
 fun i hi j hj => depP_eq h.arr (h.ins _ (blkAt_mem hb) i hi) (h.ins _ (blkAt_mem hb) j hj)
theorem wC.depQ {c : Code} (h : wC c) {b : Nat} (hb : b < (cB c).length) : ∀ i ∈ (blkAt c b).1, ∀ j ∈ (blkAt c b).1, Sp.depQ c i j = depR c i j :=
 fun i hi j hj => by
  show depP c j i = _
  rw [h.dep hb j hj i hi, depR_symm h.arr (h.ins _ (blkAt_mem hb) j hj) (h.ins _ (blkAt_mem hb) i hi)]
theorem okX.w {c : Code} {X : List (List Int)} (h : wC c) (g : okX c X) : wC (reoC c X) := h.rgt g.2
theorem run_again (c : Code) : runC depP (runC depP c) = runC depP c := by
 refine (reoC_eq _ _ _).2 ⟨?_, rfl, fun b hb => ?_⟩
 ·exact (headB_iff' _ _).2 ⟨rfl, rfl, rfl, rfl, rfl, rfl, rfl⟩
 ·have hb' := hb
  unfold runC at hb';rw [cB_reo_len] at hb';unfold reoK;rw [runX_at depP _ hb];unfold runC;rw [blkAt_reo c _ hb', depP_reo];unfold reoK;rw [runX_at depP c hb']
  dsimp only
  rw [lst_again];have := reoL_id (reoL (blkAt c b).1 (lstO (depP c) (blkAt c b).1));rw [reoL_len, lstO_len] at this;rw [this]
theorem run_gap (c : Code) {b k : Nat} (hb : b < (cB c).length) (hk : k + 1 < (blkAt c b).1.length) (h1 : opI (insAt (blkAt (runC depP c) b).1 k) ≠ 7) (h2 : opI (insAt (blkAt (runC depP c) b).1 (k + 1)) = 7) :
  depP c (insAt (blkAt (runC depP c) b).1 k) (insAt (blkAt (runC depP c) b).1 (k + 1)) = true := by
 have e : (blkAt (runC depP c) b).1 = reoL (blkAt c b).1 (lstO (depP c) (blkAt c b).1) := by
  unfold runC;rw [blkAt_reo c _ hb];unfold reoK;rw [runX_at depP c hb]
 have hl := lstO_len (depP c) (blkAt c b).1
 rw [e] at h1 h2 ⊢
 rw [reoL_at _ _ (by omega)] at h1 h2 ⊢
 rw [reoL_at _ _ (by omega)]
 obtain ⟨p, p1, p2, p3⟩ := lst_gap (depP c) (blkAt c b).1 (Nat.lt_succ_self k) hk (by unfold ldB; exact decide_eq_false h1) (by unfold ldB; exact decide_eq_true h2)
 have : p = k := by omega
 subst this
 exact p3
theorem idX_len (c : Code) (n : Nat) : (idX c n).length = n := by unfold idX; rw [List.length_map, List.length_range]
theorem idX_at (c : Code) {n b : Nat} (h : b < n) : xsAt (idX c n) b = idL (blkAt c b).1.length := getD_map_range _ h _
theorem code_blk {a b : Code} (h : headB a b = true) (hl : (cB a).length = (cB b).length) (hB : ∀ k, k < (cB a).length -> blkAt a k = blkAt b k) : a = b := code_ext' h (ext_getD blk0 hl hB)
theorem id_okX (c : Code) : okX c (idX c (cB c).length) := ⟨idX_len _ _, fun b hb => by rw [idX_at c hb]; exact idL_rgt _ _⟩
theorem reoC_id (c : Code) : reoC c (idX c (cB c).length) = c := by
 refine code_blk ((headB_iff' _ _).2 ⟨rfl, rfl, rfl, rfl, rfl, rfl, rfl⟩) (cB_reo_len _ _) fun b hb => ?_
 rw [cB_reo_len] at hb
 rw [blkAt_reo c _ hb]
 unfold reoK
 rw [idX_at c hb, reoL_id]
end Sp
namespace Go.User
open Go.Lf Go.Proofs
theorem ok25 : FOk Try.prog 25 S25 := by
 have hC : CtxOK Try.prog C25 := okC (fns_cons ok54 (fns_cons ok55 fns_nil)) rfl rfl rfl rfl rfl rfl rfl
 refine FOk.intro hC (stpS_ok hC) Try.call25 Try.func25 (by kernel_rfl) (by kernel_rfl) L25 ?_
 rw [vc25]
 simp only [zz, zy]
 rintro ⟨f, u⟩ _
 dsimp only
 refine ⟨fun h => ?_, fun h => ?_⟩
 ·subst h; exact ⟨by decide, by decide, rfl⟩
 ·subst h; exact ⟨by decide, rfl⟩
theorem ok10 : FOk Try.prog 10 S10 := by
 have hC : CtxOK Try.prog C10 := okC (fns_cons (ok28 ok65) fns_nil) rfl rfl rfl rfl rfl rfl rfl
 refine FOk.intro hC (stpS_ok hC) Try.call10 Try.func10 (by kernel_rfl) (by kernel_rfl) L10 ?_
 rw [vc10]
 simp only [zz, zy]
 intro x hv _
 first | exact ⟨hv, rfl⟩ | exact hv
theorem ok9 : FOk Try.prog 9 S9 := by
 have hC : CtxOK Try.prog C9 := okC (fns_cons ok27 (fns_cons ok21 fns_nil)) rfl rfl rfl rfl rfl rfl rfl
 refine FOk.intro hC (stpS_ok hC) Try.call9 Try.func9 (by kernel_rfl) (by kernel_rfl) L9 ?_
 rw [vc9]
 simp only [zz, zy]
 rintro ⟨L, f, u⟩ _
 dsimp only
 refine ⟨fun h => ?_, fun h => ?_⟩
 ·subst h; rfl
 ·subst h; rfl
end Go.User
namespace Sp
theorem ex_run0 : runX depP (exC false) = [[0, 2, 1, 3, 4]] := by kernel_rfl
theorem ex_run1 : runX depP (exC true) = [[0, 1, 2, 3, 4, 5]] := by kernel_rfl
theorem ex_dep3 : depP (exC false) (insAt (exL false) 1) (insAt (exL false) 3) = true := by kernel_rfl
theorem ex_dep2 : depP (exC false) (insAt (exL false) 1) (insAt (exL false) 2) = false := by kernel_rfl
theorem ex_chk2 : chkP (exC false) (exC false) (runX depP (exC false)) = 100 := by
 refine chkP_no ?_
 rintro ⟨_, h⟩
 have h1 := congrArg (fun c => opI (insAt (blkAt c 0).1 1)) h
 rw [ex_run0] at h1
 have e1 : opI (insAt (blkAt (reoC (exC false) [[0, 2, 1, 3, 4]]) 0).1 1) = 7 := by kernel_rfl
 have e2 : opI (insAt (blkAt (exC false) 0).1 1) = 8 := by kernel_rfl
 have h1 : opI (insAt (blkAt (reoC (exC false) [[0, 2, 1, 3, 4]]) 0).1 1) = opI (insAt (blkAt (exC false) 0).1 1) := h1
 rw [e1, e2] at h1
 cases h1
theorem ex_chk3 : chkP (exC false) (exC false) [] = 100 := by
 refine chkP_no ?_
 rintro ⟨⟨h, _⟩, _⟩
 cases h
theorem ex_chk4 : chkP (exC false) (exC false) [[0, 1, 2, 3, 4]] = 0 := chkP_ok (id_okX (exC false)) (reoC_id (exC false))
end Sp
namespace Go.User
open Go.Lf Go.Proofs
theorem ex_v (f : Bool) : vOK (Sp.exC f) := by
 have h : ∀ i ∈ Sp.exL f, (Sp.opI i = 7 ∨ Sp.opI i = 8 ∨ Sp.opI i = 9 -> 0 <= Sp.nI i /\ Sp.nI i < 2) /\ (Sp.exL f).length <= 3000 := by
  cases f <;> decide
 refine ⟨⟨by show 2 <= 3000; omega, by show 0 <= 3000; omega, by show 1 <= 3000; omega, ?_⟩, ?_⟩
 ·intro b hb
  rw [List.mem_singleton.1 (show b ∈ [_] from hb)];exact (h _ (List.mem_cons_self ..)).2
 ·intro b hb i hi
  rw [List.mem_singleton.1 (show b ∈ [_] from hb)] at hi;exact (h i hi).1
set_option maxHeartbeats 1000000 in
theorem ok8 : FOk Try.prog 8 S8 := by
 have hC : CtxOK Try.prog C8 := okC (fns_cons ok25 (fns_cons ok10 (fns_cons (ok18 ok65) (fns_cons ok26 (fns_cons ok14' fns_nil))))) rfl rfl rfl rfl rfl rfl rfl
 refine FOk.intro hC (stpS_ok hC) Try.call8 Try.func8 (by kernel_rfl) (by kernel_rfl) L8 ?_
 rw [vc8]
 simp only [zz, zy]
 have v0 := ex_v false
 have v1 := ex_v true
 have hl : (Sp.exL false).length = 5 := rfl
 have hin : ∀ n : Nat, n < 5 -> inN (n : Int) (Sp.exL false).length := fun n hn => ⟨by omega, by rw [hl]; omega⟩
 have hi : ∀ n : Nat, n < 5 -> (Sp.opI ((Sp.exL false).getD n Sp.inst0) = 7 ∨ Sp.opI ((Sp.exL false).getD n Sp.inst0) = 8 ∨ Sp.opI ((Sp.exL false).getD n Sp.inst0) = 9 ->
   0 <= Sp.nI ((Sp.exL false).getD n Sp.inst0) /\ Sp.nI ((Sp.exL false).getD n Sp.inst0) < ((Sp.cA (Sp.exC false)).length : Int)) := fun n hn => v0.2 _ (List.mem_singleton.2 rfl) _ (Sp.insAt_mem (l := Sp.exL false) hn)
 rw [Sp.run_chk, Sp.ex_chk2, Sp.ex_chk3, Sp.ex_chk4, Sp.ex_run0, Sp.ex_run1]
 refine ⟨v0, v1, ⟨v0, fun _ => v0, fun _ => v0⟩, fun h => ?_, fun _ => ?_⟩
 ·exact absurd h (by decide)
 ·refine ⟨⟨by decide, by decide⟩, ⟨⟨by decide, by decide⟩, ⟨by decide, by decide⟩, hin 1 (by omega), hin 3 (by omega), ⟨hi 1 (by omega), hi 3 (by omega)⟩, hin 1 (by omega), hin 2 (by omega), ⟨hi 1 (by omega), hi 2 (by omega)⟩, v0⟩, ?_⟩
  have d3 := Sp.ex_dep3
  have d2 := Sp.ex_dep2
  unfold Sp.insAt at d3 d2;exact ⟨⟨⟨⟨by decide, by decide⟩, d3⟩, d2⟩, rfl⟩
end Go.User
namespace Go.User
open Go.Proofs Go.Lf
set_option maxRecDepth 100000
end Go.User
namespace Sp
theorem run_at_len (dep : Code -> Inst -> Inst -> Bool) (c : Code) (b : Nat) : (xsAt (runX dep c) b).length = (blkAt c b).1.length := by
 rcases Nat.lt_or_ge b (cB c).length with h | h
 ·rw [runX_at dep c h, lstO_len]
 ·have e1 : xsAt (runX dep c) b = [] := by
   unfold xsAt;rw [List.getD_eq_getElem?_getD, List.getElem?_eq_none (by rw [runX_len]; exact h)]; rfl
  have e2 : blkAt c b = blk0 := by
   unfold blkAt;rw [List.getD_eq_getElem?_getD, List.getElem?_eq_none h]; rfl
  rw [e1, e2]; rfl
theorem blk_len {c : Code} (h : wC c) (b : Nat) : (blkAt c b).1.length <= 2400 := by
 rcases Nat.lt_or_ge b (cB c).length with g | g
 ·exact h.bd.2.2 _ (blkAt_mem g)
 ·have e2 : blkAt c b = blk0 := by
   unfold blkAt;rw [List.getD_eq_getElem?_getD, List.getElem?_eq_none g]; rfl
  rw [e2]; exact Nat.zero_le _
end Sp
namespace Go.User
open Go.Lf Go.Proofs
theorem wC_mk (L : List Int) (s : Bool) (hb : Sp.Byt (Sp.md0 L)) : Sp.wC (Sp.mkC' L s) := by
 cases s
 ·exact wC_made L hb
 ·exact wC_slo L hb
theorem _root_.Sp.wC.inst {c : Sp.Code} (h : Sp.wC c) {b : Nat} (hb : b < (Sp.cB c).length) {n : Nat} (hn : n < (Sp.blkAt c b).1.length) : instOK c (Sp.insAt (Sp.blkAt c b).1 n) := h.v.2 _ (Sp.blkAt_mem hb) _ (Sp.insAt_mem hn)
theorem eqCode_self (a : Sp.Code) : Sp.eqCode a a = true := (Sp.eqCode_iff' a a).2 rfl
end Go.User
namespace Go.User
open Go.Lf Go.Proofs
set_option maxHeartbeats 2000000 in
theorem ok6 : FOk Try.prog 6 S6 := by
 have hC : CtxOK Try.prog C6 := okC (fns_cons ok8 (fns_cons ok9 (fns_cons ok10 (fns_cons ok24 (fns_cons ok13 (fns_cons ok14' fns_nil)))))) rfl rfl rfl rfl rfl rfl rfl
 refine FOk.intro hC (stpS_ok hC) Try.call6 Try.func6 (by kernel_rfl) (by kernel_rfl) L6 ?_
 rw [vc6]
 simp only [zz, zy]
 rintro ⟨L, s, u⟩ hd
 obtain ⟨L, u2⟩ := L
 have hb : Sp.Byt (Sp.md0 L) := bytes_of hd.1.1
 have hw := wC_mk L s hb
 dsimp only
 clear hd hb
 generalize Sp.mkC' L s = c at *
 have hv := hw.v
 have hcB : c.2.2.2.2.2.2.2.1 = Sp.cB c := rfl
 have hb0 : (([], (0, 0, (0, 0, 0, ()), (0, 0, 0, ()), (0, 0, 0, ()), List.replicate 2 0, ()), ()) : Sp.Block) = Sp.blk0 := rfl
 have hi0 : ((0, 0, 0, (0, 0, 0, ()), (0, 0, 0, ()), (0, 0, 0, ()), (0, 0, 0, ()), ()) : Sp.Inst) = Sp.inst0 := rfl
 have hgd : ∀ (c : Sp.Code) b, (Sp.cB c).getD b Sp.blk0 = Sp.blkAt c b := fun _ _ => rfl
 have hgi : ∀ (l : List Sp.Inst) n, l.getD n Sp.inst0 = Sp.insAt l n := fun _ _ => rfl
 have hdB : Sp.reoN c (Sp.runX Sp.depP c) (Sp.cB c).length = Sp.cB (Sp.runC Sp.depP c) := rfl
 have hop : ∀ i : Sp.Inst, i.1 = Sp.opI i := fun _ => rfl
 rw [hcB, hb0, hi0, hdB]
 simp only [hgd, hgi, Int.toNat_natCast]
 have hDl : (Sp.cB (Sp.runC Sp.depP c)).length = (Sp.cB c).length := Sp.cB_reo_len c _
 have hhead : Sp.headB c (Sp.runC Sp.depP c) = true := (Sp.headB_iff' _ _).2 ⟨rfl, rfl, rfl, rfl, rfl, rfl, rfl⟩
 have hwD := hw.run
 have hB : (Sp.cB c).length <= 800 := hw.bd.1
 have hgap := fun b k hb hk => Sp.run_gap c (b := b) (k := k) hb hk
 have hblk : ∀ b, b < (Sp.cB c).length -> (Sp.blkAt (Sp.runC Sp.depP c) b).2 = (Sp.blkAt c b).2 /\ (Sp.blkAt (Sp.runC Sp.depP c) b).1.length = (Sp.blkAt c b).1.length := by
  intro b hb;unfold Sp.runC;rw [Sp.blkAt_reo c _ hb];refine ⟨rfl, ?_⟩;show (Sp.reoL _ _).length = _;rw [Sp.reoL_len, Sp.run_at_len]
 have hvD := hwD.v
 have hA : Sp.cA (Sp.runC Sp.depP c) = Sp.cA c := rfl
 rw [Sp.run_again, eqCode_self, hhead]
 generalize Sp.runC Sp.depP c = D at *
 refine ⟨hv, fun h => ?_, fun _ => ⟨hvD, fun h => absurd h (by decide), fun _ => ⟨⟨0, Nat.zero_le _, by rfl⟩, ?_⟩⟩⟩
 ·rw [hDl] at h
  simp at h
 intro b hb _
 have hb : b <= (Sp.cB c).length := hb
 intro hlt
 have hlt : (b : Int) < ((Sp.cB c).length : Int) := hlt
 have hbl : b < (Sp.cB c).length := by omega
 have hinD : inN (b : Int) (Sp.cB D).length := by rw [hDl]; exact inN_of hlt
 have hinC : inN (b : Int) (Sp.cB c).length := inN_of hlt
 obtain ⟨e1, e2⟩ := hblk b hbl
 have hgap := fun k hk => hgap b k hbl hk
 have hins := fun n hn => hwD.inst (b := b) (by omega) (n := n) hn
 have hl3 := Sp.blk_len hw b
 generalize Sp.blkAt D b = BD at *
 obtain ⟨l, t⟩ := BD
 dsimp only at e1 e2 hgap hins ⊢
 subst e1
 refine ⟨hinD, ⟨hinD, hinC, fun _ => hinC⟩, fun h => ?_, fun _ => ⟨⟨1, Nat.le_refl _, by rfl⟩, ?_⟩⟩
 ·rw [e2] at h
  simp at h
 intro k hk _
 have hk : 1 <= k := hk
 have hk1 : ((k : Int) - 1).toNat = k - 1 := by omega
 rw [hk1]
 refine ⟨fun hkl => ?_, fun hkg => ?_⟩
 ·have hkl : (k : Int) < (List.length l : Int) := hkl
  have i1 : inK .i64 ((k : Int) - 1) := inK_mid (by omega) (by omega)
  have n1 : inN ((k : Int) - 1) (List.length l) := ⟨by omega, by omega⟩
  have n2 : inN (k : Int) (List.length l) := inN_of hkl
  have o1 := hins (k - 1) (by omega)
  have o2 := hins k (by omega)
  have hg := hgap (k - 1) (by omega)
  rw [show k - 1 + 1 = k by omega] at hg
  have o1' : instOK c (Sp.insAt l (k - 1)) := by unfold instOK at o1 ⊢; rw [<- hA]; exact o1
  have o2' : instOK c (Sp.insAt l k) := by unfold instOK at o2 ⊢; rw [<- hA]; exact o2
  refine ⟨⟨n2, fun _ => i1, fun _ => n1, fun _ => i1, fun _ => n1, fun _ => n2, fun _ => ⟨o1', o2'⟩⟩, fun h => ?_, fun _ => ⟨inK_mid (by omega) (by omega), k + 1, by omega, ?_, by rfl⟩⟩
  ·rw [hg h.1.2 h.1.1] at h
   exact absurd h.2 (by decide)
  ·show (List.length l) - (k + 1) < List.length l - k
   omega
 ·have hkg : (List.length l : Int) <= (k : Int) := hkg
  refine ⟨inK_mid (by omega) (by omega), b + 1, ?_, ?_, by rfl⟩
  ·show b + 1 <= (Sp.cB c).length; omega
  ·show (Sp.cB c).length - (b + 1) < (Sp.cB c).length - b; omega
end Go.User
namespace Go.Proofs.Ytdcbiadlojcaoaa
open Go.ChangeShapes Go.WideShapes Go.ChangeAt Go.RowKit Go.Proofs Go.Lf

set_option maxRecDepth 100000 in
theorem orderLoads_lifted (hF : FOk Try.prog 6 Go.User.S6) (os : Os) (started : os.Started) (H : Type) (enc : TypeId × Value -> H) :
  ReturnsInHanded {} Try.checked os 6 .any (Rows.orderLoadsSpec.pre6 enc Try.prog Try.f6 Rows.orderLoadsRow.domain false) (Rows.orderLoadsSpec.post enc Try.prog Try.f6 false true false false) := by
 refine returnsInHanded_of_change_sized (C := Try.checked) Try.own started (by kernel_rfl) Try.func6
  (ChangeSpec.witness6 (enc := enc) (C := Try.checked) false ⟨#[], #[.agg #[.slice none 0 0], .bool false], []⟩ 8 (by kernel_rfl) (by kernel_rfl) (by kernel_rfl) (by kernel_rfl)) ?_
 intro W base args ds gs before hval0 hW _ hsz0 _
 have hsz : (DataW.weightsEach Try.prog (Try.f6.params.toList ++ Rows.orderLoadsSpec.plain.varTypes Try.prog) (ds ++ gs)).all (· <= reachBytes) = true := hsz0
 clear hsz0
 have hval : ∀ (j : Nat) t v, Try.f6.params[j]? = some t -> args[j]? = some v -> Value.okWide Try.prog W .any base t v := hval0
 have hW' := hW
 obtain ⟨p, q, hA0, hV, rfl, _, _⟩ := hW
 have hA : DataW.TrodAll enc Try.prog W 0 (fun _ => true) true Try.f6.params.toList args.toList ds p := hA0
 rw [Try.params6] at hA hval hsz
 obtain ⟨v0, v1, d0, d1, p0, p1, rfl, rfl, rfl, h0, h1⟩ := trodAll_two hA
 obtain ⟨rfl, rfl⟩ := trodVars_none hV
 clear hA0 hval0
 simp only [List.append_nil, List.append_assoc] at hW'
 have hlt0 : ∀ x ∈ p0, x.block < W.heap.size := fun x hx => hW'.lt x (by simp [hx])
 have hlt1 : ∀ x ∈ p1, x.block < W.heap.size := fun x hx => hW'.lt x (by simp [hx])
 obtain ⟨x0, hx0⟩ := arg_of (τ := Go.User.tRaw) (by kernel_rfl) (hval 0 24 v0 rfl rfl) h0 hlt0 (sz_of hsz (j := 0) rfl rfl)
 obtain ⟨x1, hx1⟩ := arg_of (τ := .bool) (by kernel_rfl) (hval 1 4 v1 rfl rfl) h1 hlt1 (sz_of hsz (j := 1) rfl rfl)
 have hcall := hF.2 W (fun b => b < W.heap.size) [v0, v1] (x0, x1, ()) (GlbOK.zero _ _) (fun b h => h) ⟨v0, [v1], rfl, hx0, v1, [], rfl, hx1, rfl⟩ trivial
 refine hcall.mono ?_
 rintro e W' ⟨v, F', S', rfl, hb, _, _, _, _, hv⟩
 have hv : OwnV F' W' .bool .shr S' v true := hv
 have := hv.bool_eq
 subst this
 have hargs0 := Below.trod Try.laidOut (by kernel_rfl) (of_decide_eq_true (by kernel_rfl)) h0 hb hlt0
 have hargs1 := Below.trod Try.laidOut (by kernel_rfl) (of_decide_eq_true (by kernel_rfl)) h1 hb hlt1
 refine ⟨_, rfl, _, _, _, [], p0 ++ p1, [], hW', ?_, trodAll_mk2 hargs0 hargs1, rfl, hb.frame _, fun h => by cases h⟩
 exact trodAll_mk1 (shut_bool Try.underlying4 true)

theorem orderLoads_holds : Rows.OrderLoadsSaid :=
 OpenClaim.holds_of_wide 6 Try.f6 rfl rfl rfl rfl rfl rfl rfl ⟨rfl, rfl, rfl, rfl, rfl⟩ rfl rfl rfl rfl rfl (by kernel_rfl) Try.func6 (by kernel_rfl)
  (of_decide_eq_true (by kernel_rfl)) (by unfold Func.isWrapper; first | (rw [if_pos (by decide +kernel)]; kernel_rfl) | (rw [if_neg (by decide +kernel)]; exact ⟨rfl, rfl⟩))
  (fun os started H enc _ => orderLoads_lifted Go.User.ok6 os started H enc)
end Go.Proofs.Ytdcbiadlojcaoaa
