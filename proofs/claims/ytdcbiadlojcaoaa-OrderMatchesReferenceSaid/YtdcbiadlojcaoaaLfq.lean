/- The law OrderMatchesReference. -/
import Derived.Test.YtdcbiadlojcaoaaLfp
set_option linter.unusedVariables false
set_option linter.unusedSimpArgs false
namespace Sp
theorem visB_arr {c : Code} (ha : cA c = arrs) {i : Inst} (hi : wI i) (hA : arrB i = true) : visB c i = !decide (spc c (nI i) = 3) := by
 unfold visB
 rw [hA, Bool.true_and]
 cases hs : strB i
 ·rfl
 ·have h9 : opI i = 9 := by
   unfold strB at hs; unfold arrB at hA;simp only [Bool.or_eq_true, decide_eq_true_eq] at hs hA;omega
  have hb := hi.arr (.inr (.inr h9))
  rw [decide_eq_false (spc_arr ha hb.1 hb.2 (hi.pri h9))]; rfl
theorem bool6 : ∀ a b s t p q : Bool, (a || b || s || t || p || q) = (b || a || s || t || q || p) := by decide
theorem depR_symm {c : Code} (ha : cA c = arrs) {i j : Inst} (hi : wI i) (hj : wI j) : bM c i j = bM c j i := by
 have h1 : (arrB i && arrB j && decide (nI i = nI j) && (!decide (opI i = 7) || !decide (opI j = 7) || visB c i)) = (arrB j && arrB i && decide (nI j = nI i) && (!decide (opI j = 7) || !decide (opI i = 7) || visB c j)) := by
  cases hA : arrB i
  ·cases arrB j <;> rfl
  ·cases hB : arrB j
   ·rfl
   ·by_cases h : nI i = nI j
    ·rw [visB_arr ha hi hA, visB_arr ha hj hB, h, Bool.or_comm (!decide (opI i = 7))]
    ·rw [show decide (nI i = nI j) = false from decide_eq_false h, show decide (nI j = nI i) = false from decide_eq_false (fun e => h e.symm)]; rfl
 have h2 : (sltB i && sltB j && decide (nI i = nI j) && (!decide (opI i = 11) || !decide (opI j = 11))) = (sltB j && sltB i && decide (nI j = nI i) && (!decide (opI j = 11) || !decide (opI i = 11))) := by
  rw [Bool.and_comm (sltB i), Bool.or_comm (!decide (opI i = 11)), decide_eq_decide.2 (eq_comm (a := nI i))]
 unfold bM
 rw [h1, h2]
 exact bool6 _ _ _ _ _ _
theorem eM {l : List Inst} {n : Nat} (h : n < l.length) : aV l n ∈ l := by
 unfold aV
 rw [List.getD_eq_getElem?_getD, List.getElem?_eq_getElem h]
 exact List.getElem_mem h
theorem rgtB_congr {dep dep' : Inst -> Inst -> Bool} {l : List Inst} (h : ∀ a ∈ l, ∀ b ∈ l, dep a b = dep' a b) (x : List Int) : eE dep l x = eE dep' l x := by
 have key : ∀ {d d' : Inst -> Inst -> Bool}, (∀ a ∈ l, ∀ b ∈ l, d a b = d' a b) -> eE d l x = true -> eE d' l x = true := by
  intro d d' h hr;obtain ⟨g1, g2, g3⟩ := (fE d l x).1 hr;obtain ⟨_, _, g5, _⟩ := rgtB_perm hr;refine (fE d' l x).2 ⟨g1, g2, fun i hi j hj => ?_⟩
  rw [<- g3 i hi j hj];unfold badP;have a1 := g5 _ (mem_getD' hi);have a2 := g5 _ (mem_getD' hj);rw [h _ (eM (by omega)) _ (eM (by omega))]
 cases h1 : eE dep l x
 ·cases h2 : eE dep' l x
  ·rfl
  ·rw [key (fun a ha b hb => (h a ha b hb).symm) h2] at h1; cases h1
 ·rw [key h h1]
theorem nxS_congr {rdy rdy' ld : Nat -> Bool} : ∀ {k : Nat}, (∀ n, n < k -> rdy n = rdy' n) -> nxS rdy ld k = nxS rdy' ld k
 | 0, _ => rfl
 | k + 1, h => by
  show (if _ then _ else _) = (if _ then _ else _)
  rw [nxS_congr (k := k) (fun n hn => h n (by omega)), h k (Nat.lt_succ_self k)]
theorem rdyB_congr {dep dep' : Inst -> Inst -> Bool} {l : List Inst} (h : ∀ a ∈ l, ∀ b ∈ l, dep a b = dep' a b) (out : List Int) {n : Nat} (hn : n < l.length) : dL dep l out n = dL dep' l out n := by
 unfold dL
 congr 1
 rw [Bool.eq_iff_iff, bC, bC]
 refine forall_congr' fun i => ?_
 constructor
 ·intro g hi
  rw [<- h _ (eM (by omega)) _ (eM hn)]; exact g hi
 ·intro g hi
  rw [h _ (eM (by omega)) _ (eM hn)]; exact g hi
theorem stpO_congr {dep dep' : Inst -> Inst -> Bool} {l : List Inst} (h : ∀ a ∈ l, ∀ b ∈ l, dep a b = dep' a b) (out : List Int) : d5 dep l out = d5 dep' l out :=
 nxS_congr fun n hn => rdyB_congr h out hn
theorem ordN_congr {f g : List Int -> Int} (h : ∀ o, f o = g o) : ∀ k, cY f k = cY g k
 | 0 => rfl
 | k + 1 => by
  show cY f k ++ [f (cY f k)] = cY g k ++ [g (cY g k)]
  rw [ordN_congr h k, h]
theorem lstO_congr {dep dep' : Inst -> Inst -> Bool} {l : List Inst} (h : ∀ a ∈ l, ∀ b ∈ l, dep a b = dep' a b) : lstO dep l = lstO dep' l := ordN_congr (fun o => stpO_congr h o) _
theorem ordN_take (f : List Int -> Int) : ∀ {n k : Nat}, k <= n -> (cY f n).take k = cY f k
 | 0, k, h => by
  have : k = 0 := by omega
  subst this; rfl
 | n + 1, k, h => by
  rcases Nat.lt_or_ge n k with g | g
  ·have : k = n + 1 := by omega
   subst this;exact List.take_of_length_le (by rw [fG]; exact Nat.le_refl _)
  ·show (cY f n ++ [f (cY f n)]).take k = _
   rw [List.take_append_of_le_length (by rw [fG]; exact g), ordN_take f g]
theorem ordN_at (f : List Int -> Int) {n k : Nat} (h : k < n) : xAt (cY f n) k = f (cY f k) := by
 have h1 : xAt (cY f n) k = xAt ((cY f n).take (k + 1)) k := by
  unfold xAt;rw [List.getD_eq_getElem?_getD, List.getD_eq_getElem?_getD, List.getElem?_take, if_pos (Nat.lt_succ_self k)]
 rw [h1, ordN_take f h]
 show xAt (cY f k ++ [f (cY f k)]) k = _
 unfold xAt
 rw [List.getD_eq_getElem?_getD, List.getElem?_append_right (by rw [fG]; exact Nat.le_refl _), fG, Nat.sub_self]; rfl
theorem take_not {x : List Int} (hn : x.Nodup) {i j : Nat} (hij : i <= j) (hj : j < x.length) : xAt x j ∉ x.take i := by
 intro h
 obtain ⟨p, hp, e⟩ := List.mem_iff_getElem.1 h
 rw [List.length_take] at hp
 have hp2 : p < x.length := by omega
 have e2 : xAt x p = xAt x j := by
  rw [<- e, List.getElem_take];unfold xAt;rw [List.getD_eq_getElem?_getD, List.getElem?_eq_getElem hp2]; rfl
 have a1 := idx_of_at hn hp2
 have a2 := idx_of_at hn hj
 rw [e2, a2] at a1
 omega
theorem rgt_of_rdy {dep : Inst -> Inst -> Bool} {l : List Inst} {x : List Int} (hl : x.length = l.length) (hr : ∀ k, k < l.length -> 0 <= xAt x k /\ xAt x k < (l.length : Int) /\ dL dep l (x.take k) (xAt x k).toNat = true) :
  eE (fun a b => dep b a) l x = true := by
 have hnot : ∀ k, k < l.length -> xAt x k ∉ x.take k := by
  intro k hk;obtain ⟨h0, _, h2⟩ := hr k hk;have := ((rdyB_iff dep l _ _).1 h2).1
  rwa [Int.toNat_of_nonneg h0] at this
 have hnd : ∀ k, k <= l.length -> (x.take k).Nodup := by
  intro k
  induction k with
  | zero => intro _; exact List.nodup_nil
  | succ k ih =>
   intro hk;exact nodup_take_succ (d := 0) (by omega) (ih (by omega)) (hnot k (by omega))
 have hn : x.Nodup := by
  have := hnd l.length (Nat.le_refl _)
  rwa [List.take_of_length_le (by omega)] at this
 have hrange : ∀ v ∈ x, 0 <= v /\ v < (l.length : Int) := by
  intro v hv;have h1 := idx_at hv;have h2 := List.idxOf_lt_length_of_mem hv;obtain ⟨g1, g2, _⟩ := hr _ (by omega : x.idxOf v < l.length);rw [h1] at g1 g2;exact ⟨g1, g2⟩
 refine (fE _ l x).2 ⟨hl, in_perm hl hn hrange, fun i hi j hj => ?_⟩
 cases hb : badP (fun a b => dep b a) l x i j
 ·rfl
 ·exfalso
  obtain ⟨b1, b2, b3⟩ := (badP_iff _ _ _ _ _).1 hb;obtain ⟨g1, g2, g3⟩ := hr i (by omega);obtain ⟨k1, k2, _⟩ := hr j (by omega);rcases ((rdyB_iff dep l _ _).1 g3).2 (xAt x j).toNat (by omega) with h | h
  ·rw [Int.toNat_of_nonneg k1] at h
   exact take_not hn (Nat.le_of_lt b1) hj h
  ·rw [h] at b3; cases b3
theorem lst_rdy (dep : Inst -> Inst -> Bool) (l : List Inst) {k : Nat} (hk : k < l.length) : 0 <= xAt (lstO dep l) k /\ xAt (lstO dep l) k < (l.length : Int) /\ dL dep l ((lstO dep l).take k) (xAt (lstO dep l) k).toNat = true := by
 obtain ⟨m, hm, e, hr, _⟩ := stpO_spec dep l (out := cY (d5 dep l) k) (by rw [fG]; exact hk)
 unfold lstO
 rw [ordN_at _ hk, ordN_take _ (Nat.le_of_lt hk), e, Int.toNat_natCast]
 exact ⟨by omega, by omega, hr⟩
theorem lst_rgt (dep : Inst -> Inst -> Bool) (l : List Inst) : eE (fun a b => dep b a) l (lstO dep l) = true := rgt_of_rdy (lstO_len dep l) fun k hk => lst_rdy dep l hk
theorem reoL_len (l : List Inst) (x : List Int) : (fC l x).length = x.length := by unfold fC; rw [List.length_map]
theorem reoL_at (l : List Inst) (x : List Int) {p : Nat} (h : p < x.length) : aV (fC l x) p = aV l (xAt x p).toNat := by
 unfold fC xAt
 show List.getD _ _ _ = _
 rw [List.getD_eq_getElem?_getD, List.getElem?_map, List.getElem?_eq_getElem h, List.getD_eq_getElem?_getD, List.getElem?_eq_getElem h]; rfl
theorem ins_ext {a b : List Inst} (hl : a.length = b.length) (h : ∀ i, i < a.length -> aV a i = aV b i) : a = b := eK inst0 hl h
theorem idL_len (n : Nat) : (idL n).length = n := by unfold idL; rw [List.length_map, List.length_range]
theorem idL_at {n i : Nat} (h : i < n) : xAt (idL n) i = (i : Int) := dG _ h 0
theorem idL_mem {n : Nat} {v : Int} : v ∈ idL n ↔ 0 <= v /\ v < (n : Int) := by
 unfold idL
 rw [List.mem_map]
 constructor
 ·rintro ⟨i, hi, rfl⟩
  have := List.mem_range.1 hi
  omega
 ·rintro ⟨h1, h2⟩
  exact ⟨v.toNat, List.mem_range.2 (by omega), by omega⟩
theorem reoL_id (l : List Inst) : fC l (idL l.length) = l := by
 refine ins_ext (by rw [reoL_len, idL_len]) fun i hi => ?_
 rw [reoL_len, idL_len] at hi
 rw [reoL_at _ _ (by rw [idL_len]; exact hi), idL_at hi, Int.toNat_natCast]
theorem idL_rgt (dep : Inst -> Inst -> Bool) (l : List Inst) : eE dep l (idL l.length) = true := by
 refine (fE _ _ _).2 ⟨idL_len _, fun n hn => idL_mem.2 ⟨by omega, by omega⟩, fun i hi j hj => ?_⟩
 rw [idL_len] at hi hj
 unfold badP
 rw [idL_at hi, idL_at hj]
 by_cases h : i < j
 ·rw [decide_eq_false (by omega : ¬ (j : Int) < (i : Int)), Bool.and_false]; rfl
 ·rw [decide_eq_false h]; rfl
end Sp
namespace Sp
theorem cB_reo (c : Code) (X : List (List Int)) : cB (reoC c X) = reoN c X (cB c).length := rfl
theorem cB_reo_len (c : Code) (X : List (List Int)) : (cB (reoC c X)).length = (cB c).length := dW c X _
theorem blkAt_reo (c : Code) (X : List (List Int)) {b : Nat} (h : b < (cB c).length) : aH (reoC c X) b = reoK c X b := by
 unfold aH
 rw [cB_reo, reoN_at c X _ h, if_pos h]
def okX (c : Code) (X : List (List Int)) : Prop := X.length = (cB c).length /\ ∀ b, b < (cB c).length -> eE (depQ c) (aH c b).1 (cF X b) = true
theorem rgtA_iff (c : Code) (X : List (List Int)) : rgtA depQ c X = true ↔ okX c X := by
 unfold rgtA okX
 rw [Bool.and_eq_true, decide_eq_true_iff, bC]
theorem chkP_if (c d : Code) (X : List (List Int)) : chkP c d X = @ite _ (okX c X /\ reoC c X = d) (Classical.propDecidable _) 0 100 := by
 unfold chkP
 by_cases h : okX c X /\ reoC c X = d
 ·rw [if_pos h, if_pos (by rw [Bool.and_eq_true, rgtA_iff, eqCode_iff']; exact h)]
 ·rw [if_neg h, if_neg (by rw [Bool.and_eq_true, rgtA_iff, eqCode_iff']; exact h)]
theorem chkP_ok {c d : Code} {X : List (List Int)} (h1 : okX c X) (h2 : reoC c X = d) : chkP c d X = 0 := by rw [chkP_if, if_pos ⟨h1, h2⟩]
theorem chkP_no {c d : Code} {X : List (List Int)} (h : ¬ (okX c X /\ reoC c X = d)) : chkP c d X = 100 := by rw [chkP_if, if_neg h]
theorem run_okX (c : Code) : okX c (eW aY c) := ⟨runX_len _ _, fun b hb => by rw [runX_at aY c hb]; exact lst_rgt (aY c) _⟩
theorem run_chk (c : Code) : chkP c (runC aY c) (eW aY c) = 0 := chkP_ok (run_okX c) rfl
theorem wC.dep {c : Code} (h : wC c) {b : Nat} (hb : b < (cB c).length) : ∀ i ∈ (aH c b).1, ∀ j ∈ (aH c b).1, aY c i j = bM c i j :=
 fun i hi j hj => depP_eq h.arr (h.ins _ (dC hb) i hi) (h.ins _ (dC hb) j hj)
theorem wC.depQ {c : Code} (h : wC c) {b : Nat} (hb : b < (cB c).length) : ∀ i ∈ (aH c b).1, ∀ j ∈ (aH c b).1, Sp.depQ c i j = bM c i j :=
 fun i hi j hj => by
  show aY c j i = _
  rw [h.dep hb j hj i hi, depR_symm h.arr (h.ins _ (dC hb) j hj) (h.ins _ (dC hb) i hi)]
theorem run_eq {c : Code} (h : wC c) : eW aY c = eW bM c := by
 refine eK [] (by rw [runX_len, runX_len]) fun b hb => ?_
 rw [runX_len] at hb
 have e1 := runX_at aY c hb
 have e2 := runX_at bM c hb
 unfold cF at e1 e2
 rw [e1, e2]
 exact lstO_congr (h.dep hb)
theorem runC_eq {c : Code} (h : wC c) : runC aY c = runC bM c := by unfold runC; rw [run_eq h]
theorem chk_eq {c : Code} (h : wC c) (d : Code) (X : List (List Int)) : chkP c d X = chkR c d X := by
 unfold chkP chkR
 have : rgtA depQ c X = rgtA bM c X := by
  unfold rgtA
  congr 1
  rw [Bool.eq_iff_iff, bC, bC];refine forall_congr' fun b => ?_
  constructor
  ·intro g hb; rw [<- rgtB_congr (h.depQ hb)]; exact g hb
  ·intro g hb; rw [rgtB_congr (h.depQ hb)]; exact g hb
 rw [this]
theorem idX_len (c : Code) (n : Nat) : (idX c n).length = n := by unfold idX; rw [List.length_map, List.length_range]
theorem idX_at (c : Code) {n b : Nat} (h : b < n) : cF (idX c n) b = idL (aH c b).1.length := dG _ h _
theorem code_blk {a b : Code} (h : headB a b = true) (hl : (cB a).length = (cB b).length) (hB : ∀ k, k < (cB a).length -> aH a k = aH b k) : a = b := code_ext' h (eK blk0 hl hB)
theorem id_okX (c : Code) : okX c (idX c (cB c).length) := ⟨idX_len _ _, fun b hb => by rw [idX_at c hb]; exact idL_rgt _ _⟩
theorem reoC_id (c : Code) : reoC c (idX c (cB c).length) = c := by
 refine code_blk ((headB_iff' _ _).2 ⟨rfl, rfl, rfl, rfl, rfl, rfl, rfl⟩) (cB_reo_len _ _) fun b hb => ?_
 rw [cB_reo_len] at hb
 rw [blkAt_reo c _ hb]
 unfold reoK
 rw [idX_at c hb, reoL_id]
end Sp
namespace Go.User
open Go.Lf Go.Proofs
theorem ok25 : FOk Try.prog 25 S25 := by
 have hC : aF Try.prog C25 := okC (aE ok54 (aE ok55 aO)) rfl rfl rfl rfl rfl rfl rfl
 refine FOk.intro hC (aR hC) Try.call25 Try.func25 (by kernel_rfl) (by kernel_rfl) L25 ?_
 rw [vc25]
 simp only [zz, zy]
 rintro ⟨f, u⟩ _
 dsimp only
 refine ⟨fun h => ?_, fun h => ?_⟩
 ·subst h; exact ⟨by decide, by decide, rfl⟩
 ·subst h; exact ⟨by decide, rfl⟩
theorem ok10 : FOk Try.prog 10 S10 := by
 have hC : aF Try.prog C10 := okC (aE (ok28 ok65) aO) rfl rfl rfl rfl rfl rfl rfl
 refine FOk.intro hC (aR hC) Try.call10 Try.func10 (by kernel_rfl) (by kernel_rfl) L10 ?_
 rw [vc10]
 simp only [zz, zy]
 intro x hv _
 first | exact ⟨hv, rfl⟩ | exact hv
theorem ok9 : FOk Try.prog 9 S9 := by
 have hC : aF Try.prog C9 := okC (aE ok27 (aE ok21 aO)) rfl rfl rfl rfl rfl rfl rfl
 refine FOk.intro hC (aR hC) Try.call9 Try.func9 (by kernel_rfl) (by kernel_rfl) L9 ?_
 rw [vc9]
 simp only [zz, zy]
 rintro ⟨L, f, u⟩ _
 dsimp only
 refine ⟨fun h => ?_, fun h => ?_⟩
 ·subst h; rfl
 ·subst h; rfl
set_option maxHeartbeats 1000000 in
theorem ok16 : FOk Try.prog 16 S16 := by
 have hC : aF Try.prog C16 := okC aO rfl rfl rfl rfl rfl rfl rfl
 refine FOk.intro hC (aR hC) Try.call16 Try.func16 (by kernel_rfl) (by kernel_rfl) L16 ?_
 rw [vc16]
 simp only [zz, zy]
 rintro ⟨X, z, u⟩ hx hd
 obtain ⟨X, u2⟩ := X
 dsimp only at hx hd ⊢
 have hX : List.length X <= 3000 := hx.1
 refine ⟨⟨0, Nat.zero_le _, rfl, rfl⟩, ?_⟩
 intro b hb _
 have hb : b <= List.length X := hb
 have hbl : (List.take b X).length = b := by rw [List.length_take]; omega
 refine ⟨fun hlt => ?_, fun hge => ?_⟩
 ·have hlt : (b : Int) < (List.length X : Int) := hlt
  have hbX : b < List.length X := by omega
  have hm : X.getD b [] ∈ X := by
   rw [List.getD_eq_getElem?_getD, List.getElem?_eq_getElem hbX]; exact List.getElem_mem hbX
  have := hx.2 _ hm
  refine ⟨⟨⟨bB hlt, maxN (by omega)⟩, maxN (by omega)⟩, aS (by omega) (by omega), b + 1, by show b + 1 <= List.length X; omega, by show List.length X - (b + 1) < List.length X - b; omega, ?_, rfl⟩
  rw [List.take_add_one, List.getElem?_eq_getElem hbX, List.getD_eq_getElem?_getD, List.getElem?_eq_getElem hbX]; rfl
 ·have hge : (List.length X : Int) <= (b : Int) := hge
  have e : List.take b X = X := List.take_of_length_le (by omega)
  rw [e];have e8 : ∀ v : Int, Go.Lf.inK .u8 v -> 0 <= v := fun v h => h.1
  obtain ⟨z1, z2, z3, z4, z5, _⟩ := z;have d1 : 0 <= z1 := hd.2.1.1;have d2 : 0 <= z2 := hd.2.2.1.1;have d3 : 0 <= z3 := hd.2.2.2.1.1
  dsimp only
  refine ⟨fun h0 => ?_, fun h0 => ?_⟩
  ·have : X = [] := List.eq_nil_of_length_eq_zero (by omega)
   subst this; rfl
  ·have hpos : 0 < List.length X := by omega
   have hB := Sp.eO d1 (k := (List.length X : Int)) (by omega)
   have ec : Sp.chgX X (z1, z2, z3, z4, z5, ()) = if (X.getD (Int.tmod z1 (List.length X : Int)).toNat []).length = 0 then X
     else X.set (Int.tmod z1 (List.length X : Int)).toNat (Sp.chgL (X.getD (Int.tmod z1 (List.length X : Int)).toNat []) (Int.tmod z2 ((X.getD (Int.tmod z1 (List.length X : Int)).toNat []).length : Int)) (Int.tmod z3 ((X.getD (Int.tmod z1 (List.length X : Int)).toNat []).length : Int)) z4 z5) := by
    unfold Sp.chgX;rw [if_neg (by omega)]
   rw [ec];have hin : inN (Int.tmod z1 (List.length X : Int)) (List.length X) := ⟨hB.1, hB.2⟩;generalize Int.tmod z1 (List.length X : Int) = B at *;have hBn : B.toNat < List.length X := by omega
   have hgs : ∀ v : List Int, (X.set B.toNat v).getD B.toNat [] = v := fun v => by rw [Sp.getD_set _ _ _ _ _ hBn, if_pos rfl]
   have hss : ∀ v w : List Int, (X.set B.toNat v).set B.toNat w = X.set B.toNat w := fun v w => Sp.set_set' _ _ _ _
   generalize X.getD B.toNat [] = l at *
   refine ⟨⟨h0, hin⟩, fun h1 => ?_, fun h1 => ?_⟩
   ·rw [if_pos (by omega)]
   ·have hlp : 0 < List.length l := by omega
    have hI := Sp.eO d2 (k := (List.length l : Int)) (by omega)
    have hJ := Sp.eO d3 (k := (List.length l : Int)) (by omega)
    rw [if_neg (by omega), hgs];have hii : inN (Int.tmod z2 (List.length l : Int)) (List.length l) := ⟨hI.1, hI.2⟩;have hjj : inN (Int.tmod z3 (List.length l : Int)) (List.length l) := ⟨hJ.1, hJ.2⟩;generalize Int.tmod z2 (List.length l : Int) = I at *;generalize Int.tmod z3 (List.length l : Int) = J at *;refine ⟨h1, h1, fun h5 => ?_, fun h5 => ?_⟩
    ·subst h5
     exact ⟨hii, ⟨hjj, hii⟩, by rw [List.length_set]; exact hjj, by rw [hss]; rfl⟩
    ·subst h5
     exact ⟨hii, rfl⟩
set_option maxHeartbeats 1000000 in
theorem ok17 : FOk Try.prog 17 S17 := by
 have hC : aF Try.prog C17 := okC (aE ok38 (aE ok23 aO)) rfl rfl rfl rfl rfl rfl rfl
 refine FOk.intro hC (aR hC) Try.call17 Try.func17 (by kernel_rfl) (by kernel_rfl) L17 ?_
 rw [vc17]
 simp only [zz, zy]
 rintro ⟨c, X, u⟩ hv _
 obtain ⟨X, u2⟩ := X
 obtain ⟨hv, hX0⟩ := hv
 dsimp only at hv hX0 ⊢
 have hB : (Sp.cB c).length <= 3000 := hv.2.2.1
 have hcB : c.2.2.2.2.2.2.2.1 = Sp.cB c := rfl
 rw [hcB]
 have hb0 : (([], (0, 0, (0, 0, 0, ()), (0, 0, 0, ()), (0, 0, 0, ()), List.replicate 2 0, ()), ()) : Sp.Block) = Sp.blk0 := rfl
 rw [hb0]
 have hgd : ∀ b, (Sp.cB c).getD b Sp.blk0 = Sp.aH c b := fun _ => rfl
 have hgx : ∀ b, X.getD b [] = Sp.cF X b := fun _ => rfl
 simp only [hgd, hgx, Int.toNat_natCast]
 have hno : ∀ b n, b < (Sp.cB c).length -> n < (Sp.aH c b).1.length -> Sp.prmB c X b n = false -> c = Sp.prmC c X := by
  intro b n hb hn h;unfold Sp.prmC;rw [if_neg];intro h2;rw [Bool.and_eq_true] at h2;have h3 := (Sp.bC.1 (Sp.bC.1 h2.1 b hb)) n hn;rw [h] at h3; cases h3
 refine ⟨⟨0, ⟨Nat.zero_le _, rfl⟩, rfl⟩, ?_⟩
 intro b hb _
 obtain ⟨hb, hA⟩ := hb
 have hb : b <= (Sp.cB c).length := hb
 have hA : Sp.prmA c X b = true := hA
 refine ⟨fun hlt => ?_, fun hge => ?_⟩
 ·have hlt : (b : Int) < ((Sp.cB c).length : Int) := hlt
  have hbl : b < (Sp.cB c).length := by omega
  have hl3 : (Sp.aH c b).1.length <= 3000 := hv.2.2.2 _ (Sp.dC hbl)
  refine ⟨⟨0, ⟨Nat.zero_le _, rfl⟩, rfl⟩, ?_⟩
  intro n hn _;obtain ⟨hn, hP⟩ := hn;have hn : n <= (Sp.aH c b).1.length := hn;have hP : ((List.range n).all fun n => Sp.prmB c X b n) = true := hP
  refine ⟨bB hlt, fun hnl => ?_, fun hng => ?_⟩
  ·have hnl : (n : Int) < ((Sp.aH c b).1.length : Int) := hnl
   have hnn : n < (Sp.aH c b).1.length := by omega
   have hxb : (List.length X : Int) = ((Sp.cB c).length : Int) -> inN (b : Int) (List.length X) := fun h => ⟨by omega, by omega⟩
   refine ⟨⟨hxb, fun _ => bB hlt, fun h => hxb h.1⟩, fun h => ?_, fun h => ?_⟩
   ·refine hno b n hbl hnn ?_
    have h : (((List.length X : Int) != ((Sp.cB c).length : Int)) || ((List.length (Sp.cF X b) : Int) != ((Sp.aH c b).1.length : Int)) || !Sp.mem (Sp.cF X b) (n : Int)) = true := h
    cases hp : Sp.prmB c X b n
    ·rfl
    ·exfalso
     unfold Sp.prmB at hp;simp only [Bool.and_eq_true, decide_eq_true_eq] at hp;rw [hp.1.1, hp.1.2, hp.2] at h;simp at h
   ·obtain ⟨⟨h1, h2⟩, h3⟩ := h
    have h1 : (List.length X : Int) = ((Sp.cB c).length : Int) := h1
    have h2 : (List.length (Sp.cF X b) : Int) = ((Sp.aH c b).1.length : Int) := h2
    have h3 : Sp.mem (Sp.cF X b) (n : Int) = true := h3
    refine ⟨aS (by omega) (by omega), n + 1, ⟨by show n + 1 <= (Sp.aH c b).1.length; omega, ?_⟩, by show (Sp.aH c b).1.length - (n + 1) < (Sp.aH c b).1.length - n; omega, by rfl⟩
    rw [Sp.bC] at hP ⊢;intro i hi;rcases Nat.lt_succ_iff_lt_or_eq.1 hi with g | g
    ·exact hP i g
    ·rw [g]
     unfold Sp.prmB;rw [h3, decide_eq_true (by omega : List.length X = (Sp.cB c).length), decide_eq_true (by omega : (Sp.cF X b).length = (Sp.aH c b).1.length)]; rfl
  ·have hng : ((Sp.aH c b).1.length : Int) <= (n : Int) := hng
   have hne : n = (Sp.aH c b).1.length := by omega
   refine ⟨aS (by omega) (by omega), b + 1, ⟨by show b + 1 <= (Sp.cB c).length; omega, ?_⟩, by show (Sp.cB c).length - (b + 1) < (Sp.cB c).length - b; omega, by rfl⟩
   unfold Sp.prmA at hA ⊢;rw [Sp.bC] at hA ⊢;intro i hi;rcases Nat.lt_succ_iff_lt_or_eq.1 hi with g | g
   ·exact hA i g
   ·rw [g, <- hne]; exact hP
 ·have hge : ((Sp.cB c).length : Int) <= (b : Int) := hge
  have hbe : b = (Sp.cB c).length := by omega
  rw [hbe] at hA;refine ⟨fun h => ?_, fun h => ?_⟩
  ·unfold Sp.prmC
   rw [if_neg];intro h2;rw [Bool.and_eq_true, decide_eq_true_eq] at h2;exact h (by rw [h2.2])
  ·have h : (List.length X : Int) = ((Sp.cB c).length : Int) := h
   have hl : List.length X = (Sp.cB c).length := by omega
   refine ⟨⟨hv, fun b hb => ?_⟩, ?_⟩
   ·have h1 := Sp.bC.1 (Sp.bC.1 hA b hb)
    have h0 := hX0 hl b hb
    have hl3 : (Sp.aH c b).1.length <= 3000 := hv.2.2.2 _ (Sp.dC hb)
    rcases Nat.eq_zero_or_pos (Sp.aH c b).1.length with g | g
    ·rw [h0 g]
     exact ⟨by omega, by simp, fun k hk => (List.not_mem_nil hk).elim⟩
    ·have h2 := h1 0 g
     unfold Sp.prmB at h2;simp only [Bool.and_eq_true, decide_eq_true_eq] at h2;refine ⟨by omega, by omega, ?_⟩
     have := (Sp.perm_in (n := (Sp.aH c b).1.length) h2.1.2 fun i hi => ?_).2
     ·exact this
     ·have h3 := h1 i hi
      unfold Sp.prmB at h3;simp only [Bool.and_eq_true] at h3;exact (Sp.mem_of _ _).1 h3.2
   ·unfold Sp.prmC
    rw [if_pos];rw [Bool.and_eq_true, decide_eq_true_eq];exact ⟨hA, hl⟩
end Go.User
namespace Sp
theorem ex_run0 : eW aY (exC false) = [[0, 2, 1, 3, 4]] := by kernel_rfl
theorem ex_run1 : eW aY (exC true) = [[0, 1, 2, 3, 4, 5]] := by kernel_rfl
theorem ex_dep3 : aY (exC false) (aV (exL false) 1) (aV (exL false) 3) = true := by kernel_rfl
theorem ex_dep2 : aY (exC false) (aV (exL false) 1) (aV (exL false) 2) = false := by kernel_rfl
theorem ex_chk2 : chkP (exC false) (exC false) (eW aY (exC false)) = 100 := by
 refine chkP_no ?_
 rintro ⟨_, h⟩
 have h1 := congrArg (fun c => opI (aV (aH c 0).1 1)) h
 rw [ex_run0] at h1
 have e1 : opI (aV (aH (reoC (exC false) [[0, 2, 1, 3, 4]]) 0).1 1) = 7 := by kernel_rfl
 have e2 : opI (aV (aH (exC false) 0).1 1) = 8 := by kernel_rfl
 have h1 : opI (aV (aH (reoC (exC false) [[0, 2, 1, 3, 4]]) 0).1 1) = opI (aV (aH (exC false) 0).1 1) := h1
 rw [e1, e2] at h1
 cases h1
theorem ex_chk3 : chkP (exC false) (exC false) [] = 100 := by
 refine chkP_no ?_
 rintro ⟨⟨h, _⟩, _⟩
 cases h
theorem ex_chk4 : chkP (exC false) (exC false) [[0, 1, 2, 3, 4]] = 0 := chkP_ok (id_okX (exC false)) (reoC_id (exC false))
end Sp
namespace Go.User
open Go.Lf Go.Proofs
theorem ex_v (f : Bool) : vOK (Sp.exC f) := by
 have h : ∀ i ∈ Sp.exL f, (Sp.opI i = 7 ∨ Sp.opI i = 8 ∨ Sp.opI i = 9 -> 0 <= Sp.nI i /\ Sp.nI i < 2) /\ (Sp.exL f).length <= 3000 := by
  cases f <;> decide
 refine ⟨⟨by show 2 <= 3000; omega, by show 0 <= 3000; omega, by show 1 <= 3000; omega, ?_⟩, ?_⟩
 ·intro b hb
  rw [List.mem_singleton.1 (show b ∈ [_] from hb)];exact (h _ (List.mem_cons_self ..)).2
 ·intro b hb i hi
  rw [List.mem_singleton.1 (show b ∈ [_] from hb)] at hi;exact (h i hi).1
set_option maxHeartbeats 1000000 in
theorem ok8 : FOk Try.prog 8 S8 := by
 have hC : aF Try.prog C8 := okC (aE ok25 (aE ok10 (aE (ok18 ok65) (aE ok26 (aE ok14' aO))))) rfl rfl rfl rfl rfl rfl rfl
 refine FOk.intro hC (aR hC) Try.call8 Try.func8 (by kernel_rfl) (by kernel_rfl) L8 ?_
 rw [vc8]
 simp only [zz, zy]
 have v0 := ex_v false
 have v1 := ex_v true
 have hl : (Sp.exL false).length = 5 := rfl
 have hin : ∀ n : Nat, n < 5 -> inN (n : Int) (Sp.exL false).length := fun n hn => ⟨by omega, by rw [hl]; omega⟩
 have hi : ∀ n : Nat, n < 5 -> (Sp.opI ((Sp.exL false).getD n Sp.inst0) = 7 ∨ Sp.opI ((Sp.exL false).getD n Sp.inst0) = 8 ∨ Sp.opI ((Sp.exL false).getD n Sp.inst0) = 9 ->
   0 <= Sp.nI ((Sp.exL false).getD n Sp.inst0) /\ Sp.nI ((Sp.exL false).getD n Sp.inst0) < ((Sp.cA (Sp.exC false)).length : Int)) := fun n hn => v0.2 _ (List.mem_singleton.2 rfl) _ (Sp.eM (l := Sp.exL false) hn)
 rw [Sp.run_chk, Sp.ex_chk2, Sp.ex_chk3, Sp.ex_chk4, Sp.ex_run0, Sp.ex_run1]
 refine ⟨v0, v1, ⟨v0, fun _ => v0, fun _ => v0⟩, fun h => ?_, fun _ => ?_⟩
 ·exact absurd h (by decide)
 ·refine ⟨⟨by decide, by decide⟩, ⟨⟨by decide, by decide⟩, ⟨by decide, by decide⟩, hin 1 (by omega), hin 3 (by omega), ⟨hi 1 (by omega), hi 3 (by omega)⟩, hin 1 (by omega), hin 2 (by omega), ⟨hi 1 (by omega), hi 2 (by omega)⟩, v0⟩, ?_⟩
  have d3 := Sp.ex_dep3
  have d2 := Sp.ex_dep2
  unfold Sp.aV at d3 d2;exact ⟨⟨⟨⟨by decide, by decide⟩, d3⟩, d2⟩, rfl⟩
end Go.User
namespace Go.User
open Go.Proofs Go.Lf
set_option maxRecDepth 100000
theorem vc3 : (c9 C3 (cN C3) S3 L3 Try.f3) = (
let q0 : Nat := (2 : Nat);
let q1 : Prop := True /\ True /\ True;
let q2 : Prop := True /\ q1;
let q3 : Prop := q1 /\ True;
let q4 : Prop := (True /\ True) /\ True;
let q5 : Prop := q4 /\ false = true;
let q6 : Prop := True /\ q2;
let q7 : Nat := (3000 : Nat);
let q8 : Int := (7 : Int);
let q9 : Int := (8 : Int);
let q10 : Int := (9 : Int);
let q11 : Int := (0 : Int);
let q12 : Prop := true = true;
let q13 : Sp.Opd := (q11, q11, q11, ());
let q14 : Sp.Block := (([] : List aL.den), (q11, q11, q13, q13, q13, List.replicate q0 q11, ()), ());
let q15 : Prop := q6 /\ True;
let q16 : Sp.Inst := (q11, q11, q11, q13, q13, q13, q13, ());
let q17 : Int := (1 : Int);
let q18 : Nat := q11.toNat;
let q19 : Int × Int × Int × Int × Bool × Unit := (q11, q11, q11, q11, false, ());
let q20 : Nat := (4 : Nat);
let q21 : Nat := q17.toNat;
let q22 : Sp.Ord := (([] : List tI.slice.den), ());
∀ (x : (List Int × Unit) × Bool × List (Int × Int × Int × Int × Bool × Unit) × Unit),
 let q23 : Sp.Code := Sp.mkC' x.1.1 x.2.1;
 let q24 : Nat := (Sp.cA q23).length;
 let q25 : List Sp.Block := Sp.cB q23;
 let q26 : Nat := q25.length;
 let q27 : Prop := q24 <= q7 /\ (Sp.cL q23).length <= q7 /\ q26 <= q7 /\ ∀ (b : Sp.Block), b ∈ q25 -> b.1.length <= q7;
 let q28 : Int := (↑q24 : Int);
 let q29 : Prop := q27 /\ ∀ (b : Sp.Block), b ∈ q25 -> ∀ (i : Sp.Inst), i ∈ b.1 -> Sp.opI i = q8 ∨ Sp.opI i = q9 ∨ Sp.opI i = q10 -> q11 <= Sp.nI i /\ Sp.nI i < q28;
 let q30 : Prop := (True /\ q29 /\ True /\ True) /\ True /\ True;
 let q31 : Sp.Ord := (Sp.eW Sp.aY q23, ());
 let q32 : List (List Int) := Sp.eW Sp.bM q23;
 let q33 : Sp.Ord := (q32, ());
 let q34 : Bool := !Sp.eqOrd q31 q33;
 let q35 : Prop := (true && bif q34 then false else true) = true -> True;
 let q36 : Sp.Code := Sp.runC Sp.aY q23;
 let q37 : Sp.Code := Sp.runC Sp.bM q23;
 let q38 : Bool := bif q34 then true else !Sp.gC q36 q37;
 let q39 : Prop := x.2.2.1 = x.2.2.1;
 let q40 : Prop := q23 = q23;
 let q41 : Sp.Done := (q36, q31, ());
 let q42 : Prop := q41 = q41;
 let q43 : Sp.Done := (q37, q33, ());
 let q44 : Prop := q43 = q43;
 let q45 : Prop := q39 /\ q12 /\ q40 /\ q42 /\ q44 /\ True;
 let q46 : List Sp.Block := q23.2.2.2.2.2.2.2.1;
 let q47 : Nat := q46.length;
 let q48 : Nat := q32.length;
 let q49 : List (List Int) := Sp.chgX q32 (x.2.2.1.getD q18 q19);
 let q50 : Int := (↑q48 : Int);
 let q51 : List Sp.Ord := (q49, ()) :: (Sp.chgX q49 (x.2.2.1.getD q21 q19), ()) :: q22 :: (win q17 q50 q32, ()) :: ([] : List fW.den);
 let q52 : Prop := q12 /\ q40 /\ q44 /\ q51 = q51 /\ True;
 let q53 : Nat := q51.length;
 True ->
 aB (tU8.slice.prod Ty.unit) x.1 /\ aB Ty.bool x.2.1 /\ aB (Ty.arr q0 (tU8.prod (tU8.prod (tU8.prod (tI.prod (Ty.bool.prod Ty.unit)))))) x.2.2.1 /\ True ->
 (q2 /\ True) /\
 q3 /\
 q3 /\
 ((!true) = true -> q5) /\
 ((!true) = false ->
 (q6 /\ True /\ True) /\
 q30 /\
 q30 /\
 ((True /\ True /\ True /\ True /\ True /\ True /\ True /\ q35 /\ q35 /\ q35 /\ q35 /\ q35 /\ q35 /\ True /\ True) /\ True) /\
 (q38 = true -> q5) /\
 (q38 = false ->
 q4 /\
 (∃ (x : Nat), x <= q26 /\ q11 = (↑x : Int) /\ q45) /\
 ∀ (x : Nat),
 let q54 : Bool := decide ((↑x : Int) < (↑q47 : Int));
 let q55 : Nat := (Sp.aH q23 x).1.length;
 let q56 : Prop := (↑x : Int) = (↑x : Int);
 let q57 : List Sp.Inst := (q46.getD (↑x : Int).toNat q14).1;
 let q58 : Prop := q57 = q57;
 let q59 : Prop := q39 /\ q12 /\ q40 /\ q42 /\ q44 /\ q56 /\ q58 /\ True;
 let q60 : Nat := q57.length;
 let q61 : Int := (↑x : Int) + q17;
 x <= q26 ->
 aB tI (↑x : Int) /\ True ->
 ((True /\ q6) /\ True) /\
 (q54 = true ->
 ((True /\ True /\ True /\ inN (↑x : Int) q47 /\ q2) /\ True) /\
 q4 /\
 (∃ (x : Nat), x <= q55 /\ q11 = (↑x : Int) /\ q59) /\
 ∀ (x_1 : Nat),
 let q62 : Bool := decide ((↑x_1 : Int) < (↑q60 : Int));
 let q63 : Prop := q39 /\ q12 /\ q40 /\ q42 /\ q44 /\ q56 /\ q58 /\ (↑x_1 : Int) = (↑x_1 : Int) /\ True;
 let q64 : Prop := inN (↑x_1 : Int) q60;
 let q65 : Sp.Inst := q57.getD (↑x_1 : Int).toNat q16;
 let q66 : Int := Sp.opI q65;
 let q67 : Int := Sp.nI q65;
 let q68 : Int := (↑x_1 : Int) + q17;
 x_1 <= q55 ->
 aB tI (↑x_1 : Int) /\ True ->
 q15 /\
 (q62 = true ->
 q4 /\
 (∃ (x : Nat), x <= q55 /\ q11 = (↑x : Int) /\ q63) /\
 ∀ (x : Nat),
 let q69 : Bool := decide ((↑x : Int) < (↑q60 : Int));
 let q70 : Prop := inN (↑x : Int) q60;
 let q71 : Sp.Inst := q57.getD (↑x : Int).toNat q16;
 let q72 : Int := Sp.opI q71;
 let q73 : Int := Sp.nI q71;
 let q74 : Prop := (q66 = q8 ∨ q66 = q9 ∨ q66 = q10 -> q11 <= q67 /\ q67 < q28) /\ (q72 = q8 ∨ q72 = q9 ∨ q72 = q10 -> q11 <= q73 /\ q73 < q28);
 let q75 : Bool := Sp.aY q23 q65 q71 != Sp.bM q23 q65 q71;
 let q76 : Int := (↑x : Int) + q17;
 x <= q55 -> aB tI (↑x : Int) /\ True -> q15 /\ (q69 = true -> ((True /\ True /\ True /\ q64 /\ True /\ True /\ True /\ q70 /\ True /\ q74 /\ True /\ True /\ True /\ q64 /\ True /\ True /\ True /\ q70 /\ True /\ q74 /\ True /\ True) /\ True) /\ (q75 = true -> q5) /\ (q75 = false -> ((True /\ inK IntKind.i64 q76 /\ True /\ True) /\ True) /\ ∃ (y : Nat), y <= q55 /\ q55 - y < q55 - x /\ q76 = (↑y : Int) /\ q63)) /\ (q69 = false -> ((True /\ inK IntKind.i64 q68 /\ True /\ True) /\ True) /\ ∃ (y : Nat), y <= q55 /\ q55 - y < q55 - x_1 /\ q68 = (↑y : Int) /\ q59)) /\
 (q62 = false -> ((True /\ inK IntKind.i64 q61 /\ True /\ True) /\ True) /\ ∃ (y : Nat), y <= q26 /\ q26 - y < q26 - x /\ q61 = (↑y : Int) /\ q45)) /\
 (q54 = false ->
 ((True /\ True /\ inN q11 q0 /\ True /\ (q48 <= q7 /\ ∀ (l : List Int), l ∈ q32 -> l.length <= q7) /\ True /\ True) /\ True /\ True) /\
 ((True /\ inN q17 q0 /\ True /\ (q49.length <= q7 /\ ∀ (l : List Int), l ∈ q49 -> l.length <= q7) /\ True /\ True) /\ True /\ True) /\
 ((True /\ True /\ True /\ True /\ True /\ True /\ winI q17 q50 q48 /\ q1) /\ True /\ True) /\
 q4 /\
 (∃ (x : Nat), x <= q20 /\ q11 = (↑x : Int) /\ q52) /\
 ∀ (x : Nat),
 let q77 : Bool := decide ((↑x : Int) < (↑q53 : Int));
 let q78 : Prop := inN (↑x : Int) q53;
 let q79 : List (List Int) := (q51.getD (↑x : Int).toNat q22).1;
 let q80 : Sp.Code := Sp.prmC q23 q79;
 let q81 : Bool := Sp.chkP q23 q80 q79 != Sp.chkR q23 q80 q79;
 let q82 : Prop := (true && bif q81 then false else true) = true;
 let q83 : Prop := q82 -> True;
 let q84 : Prop := q82 -> q78;
 let q85 : Prop := q82 -> q29;
 let q86 : Bool := bif q81 then true else Sp.chkP q23 q37 q79 != Sp.chkR q23 q37 q79;
 let q87 : Int := (↑x : Int) + q17;
 x <= q20 -> aB tI (↑x : Int) /\ True -> q15 /\ (q77 = true -> ((True /\ True /\ True /\ q78 /\ True /\ (q27 /\ (q79.length = q26 -> ∀ (b : Nat), b < q26 -> (Sp.aH q23 b).1.length = (0 : Nat) -> Sp.cF q79 b = ([] : List Int))) /\ True /\ True) /\ True /\ True) /\ ((True /\ True /\ True /\ True /\ q78 /\ True /\ q29 /\ True /\ True /\ True /\ True /\ q78 /\ True /\ q29 /\ True /\ True /\ q83 /\ q83 /\ q83 /\ q83 /\ q83 /\ q84 /\ q83 /\ q85 /\ q83 /\ q83 /\ q83 /\ q83 /\ q83 /\ q84 /\ q83 /\ q85 /\ q83 /\ True /\ True) /\ True) /\ (q86 = true -> q5) /\ (q86 = false -> ((True /\ inK IntKind.i64 q87 /\ True /\ True) /\ True) /\ ∃ (y : Nat), y <= q20 /\ q20 - y < q20 - x /\ q87 = (↑y : Int) /\ q52)) /\ (q77 = false -> q3 /\ true = true))))) := by kernel_rfl
end Go.User
namespace Sp
theorem chgL_len (l : List Int) (i j v : Int) (s : Bool) : (chgL l i j v s).length = l.length := by
 unfold chgL
 split
 ·rw [List.length_set, List.length_set]
 ·rw [List.length_set]
theorem chgX_len (X : List (List Int)) (z : Chg) : (chgX X z).length = X.length := by
 unfold chgX
 split
 ·rename_i h; rw [h]; rfl
 ·split
  ·rfl
  ·rw [List.length_set]
theorem chgX_at (X : List (List Int)) (z : Chg) (b : Nat) : (cF (chgX X z) b).length = (cF X b).length := by
 unfold chgX
 split
 ·rename_i h
  rw [List.eq_nil_of_length_eq_zero h]
 ·split
  ·rfl
  ·generalize (Int.tmod z.1 (X.length : Int)).toNat = B
   rcases Nat.lt_or_ge B X.length with h | h
   ·unfold cF
    rw [getD_set _ _ _ _ _ h];split
    ·rename_i e
     rw [chgL_len, e]
    ·rfl
   ·rw [List.set_eq_of_length_le h]
theorem bd_mem {X : List (List Int)} {n : Nat} (h : ∀ b, (cF X b).length <= n) : ∀ l ∈ X, l.length <= n := by
 intro l hl
 obtain ⟨k, hk, e⟩ := List.mem_iff_getElem.1 hl
 have := h k
 unfold cF at this
 rwa [List.getD_eq_getElem?_getD, List.getElem?_eq_getElem hk, Option.getD_some, e] at this
theorem run_at_len (dep : Code -> Inst -> Inst -> Bool) (c : Code) (b : Nat) : (cF (eW dep c) b).length = (aH c b).1.length := by
 rcases Nat.lt_or_ge b (cB c).length with h | h
 ·rw [runX_at dep c h, lstO_len]
 ·have e1 : cF (eW dep c) b = [] := by
   unfold cF;rw [List.getD_eq_getElem?_getD, List.getElem?_eq_none (by rw [runX_len]; exact h)]; rfl
  have e2 : aH c b = blk0 := by
   unfold aH;rw [List.getD_eq_getElem?_getD, List.getElem?_eq_none h]; rfl
  rw [e1, e2]; rfl
theorem blk_len {c : Code} (h : wC c) (b : Nat) : (aH c b).1.length <= 2400 := by
 rcases Nat.lt_or_ge b (cB c).length with g | g
 ·exact h.bd.2.2 _ (dC g)
 ·have e2 : aH c b = blk0 := by
   unfold aH;rw [List.getD_eq_getElem?_getD, List.getElem?_eq_none g]; rfl
  rw [e2]; exact Nat.zero_le _
end Sp
namespace Go.User
open Go.Lf Go.Proofs
theorem wC_mk (L : List Int) (s : Bool) (hb : Sp.Byt (Sp.md0 L)) : Sp.wC (Sp.mkC' L s) := by
 cases s
 ·exact wC_made L hb
 ·exact wC_slo L hb
theorem _root_.Sp.wC.inst {c : Sp.Code} (h : Sp.wC c) {b : Nat} (hb : b < (Sp.cB c).length) {n : Nat} (hn : n < (Sp.aH c b).1.length) : gA c (Sp.aV (Sp.aH c b).1 n) := h.v.2 _ (Sp.dC hb) _ (Sp.eM hn)
theorem eqOrd_self (a : List (List Int) × Unit) : Sp.eqOrd a a = true := by unfold Sp.eqOrd; exact decide_eq_true rfl
theorem eqCode_self (a : Sp.Code) : Sp.gC a a = true := (Sp.eqCode_iff' a a).2 rfl
set_option maxHeartbeats 2000000 in
theorem ok3 : FOk Try.prog 3 S3 := by
 have hC : aF Try.prog C3 := okC (aE ok8 (aE ok9 (aE ok10 (aE ok11 (aE ok12 (aE ok13 (aE ok14' (aE ok15 (aE ok16 (aE ok17 (aE (ok18 ok65) (aE ok19 aO)))))))))))) rfl rfl rfl rfl rfl rfl rfl
 refine FOk.intro hC (aR hC) Try.call3 Try.func3 (by kernel_rfl) (by kernel_rfl) L3 ?_
 rw [vc3]
 simp only [zz, zy]
 rintro ⟨L, s, z, u⟩ hd
 obtain ⟨L, u2⟩ := L
 have hb : Sp.Byt (Sp.md0 L) := dM hd.1.1
 have hw := wC_mk L s hb
 dsimp only
 clear hd hb
 generalize Sp.mkC' L s = c at *
 have hv := hw.v
 have hcB : c.2.2.2.2.2.2.2.1 = Sp.cB c := rfl
 have hb0 : (([], (0, 0, (0, 0, 0, ()), (0, 0, 0, ()), (0, 0, 0, ()), List.replicate 2 0, ()), ()) : Sp.Block) = Sp.blk0 := rfl
 have hi0 : ((0, 0, 0, (0, 0, 0, ()), (0, 0, 0, ()), (0, 0, 0, ()), (0, 0, 0, ()), ()) : Sp.Inst) = Sp.inst0 := rfl
 have hgd : ∀ b, (Sp.cB c).getD b Sp.blk0 = Sp.aH c b := fun _ => rfl
 have hgi : ∀ (l : List Sp.Inst) n, l.getD n Sp.inst0 = Sp.aV l n := fun _ _ => rfl
 rw [hcB, hb0, hi0]
 simp only [hgd, hgi, Int.toNat_natCast]
 rw [<- Sp.run_eq hw, <- Sp.runC_eq hw, eqOrd_self, eqCode_self]
 have hB : (Sp.cB c).length <= 800 := hw.bd.1
 have hXl : (Sp.eW Sp.aY c).length = (Sp.cB c).length := Sp.runX_len _ _
 have hXa : ∀ b, (Sp.cF (Sp.eW Sp.aY c) b).length = (Sp.aH c b).1.length := Sp.run_at_len _ _
 generalize Sp.eW Sp.aY c = X at *
 generalize Sp.runC Sp.aY c = D at *
 refine ⟨hv, hv, fun h => absurd h (by decide), fun _ => ⟨⟨0, Nat.zero_le _, rfl⟩, ?_⟩⟩
 intro b hb _
 have hb : b <= (Sp.cB c).length := hb
 refine ⟨fun hlt => ?_, fun hge => ?_⟩
 ·have hlt : (b : Int) < ((Sp.cB c).length : Int) := hlt
  have hbl : b < (Sp.cB c).length := by omega
  have hbk := Sp.blk_len hw b
  refine ⟨bB hlt, ⟨0, Nat.zero_le _, rfl⟩, ?_⟩
  intro i hi _;have hi : i <= (Sp.aH c b).1.length := hi;refine ⟨fun hil => ?_, fun hig => ?_⟩
  ·have hil : (i : Int) < ((Sp.aH c b).1.length : Int) := hil
   refine ⟨⟨0, Nat.zero_le _, rfl⟩, ?_⟩
   intro j hj _;have hj : j <= (Sp.aH c b).1.length := hj;refine ⟨fun hjl => ?_, fun hjg => ?_⟩
   ·have hjl : (j : Int) < ((Sp.aH c b).1.length : Int) := hjl
    have oi := hw.inst hbl (n := i) (by omega)
    have oj := hw.inst hbl (n := j) (by omega)
    have ed := hw.dep hbl _ (Sp.eM (n := i) (by omega)) _ (Sp.eM (n := j) (by omega))
    refine ⟨⟨bB hil, bB hjl, ⟨oi, oj⟩, bB hil, bB hjl, oi, oj⟩, fun h => absurd ed h, fun _ => ⟨aS (by omega) (by omega), j + 1, ?_, ?_, by rfl⟩⟩
    ·show j + 1 <= (Sp.aH c b).1.length; omega
    ·show (Sp.aH c b).1.length - (j + 1) < (Sp.aH c b).1.length - j; omega
   ·have hjg : ((Sp.aH c b).1.length : Int) <= (j : Int) := hjg
    refine ⟨aS (by omega) (by omega), i + 1, ?_, ?_, by rfl⟩
    ·show i + 1 <= (Sp.aH c b).1.length; omega
    ·show (Sp.aH c b).1.length - (i + 1) < (Sp.aH c b).1.length - i; omega
  ·have hig : ((Sp.aH c b).1.length : Int) <= (i : Int) := hig
   refine ⟨aS (by omega) (by omega), b + 1, ?_, ?_, by rfl⟩
   ·show b + 1 <= (Sp.cB c).length; omega
   ·show (Sp.cB c).length - (b + 1) < (Sp.cB c).length - b; omega
 ·have hne := hw.ne
  have key : ∀ E : List (List Int), (E.length = (Sp.cB c).length -> ∀ b, (Sp.cF E b).length = (Sp.aH c b).1.length) ->
    (E.length = (Sp.cB c).length -> ∀ b, b < (Sp.cB c).length -> (Sp.aH c b).1.length = 0 -> Sp.cF E b = []) := by
   intro E h hE b hb h0;exact List.eq_nil_of_length_eq_zero ((h hE b).trans h0)
  have hXb : ∀ l ∈ X, l.length <= 3000 := Sp.bd_mem fun b => by have := Sp.blk_len hw b; rw [hXa]; omega
  have hYl : ∀ z, (Sp.chgX X z).length = (Sp.cB c).length := fun z => (Sp.chgX_len X z).trans hXl
  have hYa : ∀ z b, (Sp.cF (Sp.chgX X z) b).length = (Sp.aH c b).1.length := fun z b => (Sp.chgX_at X z b).trans (hXa b)
  have hYb : ∀ z, ∀ l ∈ Sp.chgX X z, l.length <= 3000 := fun z => Sp.bd_mem fun b => by have := Sp.blk_len hw b; rw [hYa]; omega
  have hwin : win 1 (X.length : Int) X = X.drop 1 := by unfold win; simp
  rw [hwin];have hall : ∀ k : Nat, k < 4 -> ∀ z1 z2 : Sp.Chg, ((([(Sp.chgX X z1, ()), (Sp.chgX (Sp.chgX X z1) z2, ()), ([], ()), (X.drop 1, ())] : List (List (List Int) × Unit)).getD k ([], ())).1.length = (Sp.cB c).length -> ∀ b, b < (Sp.cB c).length -> (Sp.aH c b).1.length = 0 -> Sp.cF (([(Sp.chgX X z1, ()), (Sp.chgX (Sp.chgX X z1) z2, ()), ([], ()), (X.drop 1, ())] : List (List (List Int) × Unit)).getD k ([], ())).1 b = []) := by
   intro k hk z1 z2;refine key _ ?_;have hc : k = 0 ∨ k = 1 ∨ k = 2 ∨ k = 3 := by omega
   rcases hc with rfl | rfl | rfl | rfl
   ·exact fun _ => hYa z1
   ·exact fun _ b => (Sp.chgX_at _ z2 b).trans (hYa z1 b)
   ·intro h
    have h : 0 = (Sp.cB c).length := h
    omega
   ·intro h
    have h : (X.drop 1).length = (Sp.cB c).length := h
    rw [List.length_drop] at h;omega
  refine ⟨⟨⟨by omega, by omega⟩, by omega, hXb⟩, ⟨⟨by omega, by omega⟩, by rw [hYl]; omega, hYb _⟩, ⟨by omega, by omega, by omega⟩, ⟨0, by omega, rfl⟩, ?_⟩
  intro k hk _;have hk : k <= 4 := hk;intro hkl;have hkl : (k : Int) < 4 := hkl;have hin : inN (k : Int) 4 := ⟨by omega, hkl⟩;have hp := hall k (by omega);rw [Sp.chk_eq hw, Sp.chk_eq hw];refine ⟨⟨hin, hv.1, hp _ _⟩, by repeat' first | exact hin | exact hv | (intro _) | constructor, fun h => ?_, fun _ => ⟨aS (by omega) (by omega), k + 1, ?_, ?_, by rfl⟩⟩
  ·simp at h
  ·show k + 1 <= 4; omega
  ·show 4 - (k + 1) < 4 - k; omega
end Go.User
namespace Go.Proofs.Ytdcbiadlojcaoaa
open Go.ChangeShapes Go.WideShapes Go.ChangeAt Go.RowKit Go.Proofs Go.Lf

set_option maxRecDepth 100000 in
theorem orderMatchesReference_lifted (hF : FOk Try.prog 3 Go.User.S3) (os : Os) (started : os.Started) (H : Type) (enc : TypeId × Value -> H) :
  ReturnsInHanded {} Try.checked os 3 .any (Rows.orderMatchesReferenceSpec.pre6 enc Try.prog Try.f3 Rows.orderMatchesReferenceRow.domain false) (Rows.orderMatchesReferenceSpec.post enc Try.prog Try.f3 false true false false) := by
 refine returnsInHanded_of_change_sized (C := Try.checked) Try.own started (by kernel_rfl) Try.func3
  (ChangeSpec.witness6 (enc := enc) (C := Try.checked) false ⟨#[], #[.agg #[.slice none 0 0], .bool false, .agg #[.int .u8 0, .int .u8 0, .int .u8 0, .int .i64 0, .bool false, .int .u8 0, .int .u8 0, .int .u8 0, .int .i64 0, .bool false]], []⟩ 8 (by kernel_rfl) (by kernel_rfl) (by kernel_rfl) (by kernel_rfl)) ?_
 intro W base args ds gs before hval0 hW _ hsz0 _
 have hsz : (DataW.weightsEach Try.prog (Try.f3.params.toList ++ Rows.orderMatchesReferenceSpec.plain.varTypes Try.prog) (ds ++ gs)).all (· <= reachBytes) = true := hsz0
 clear hsz0
 have hval : ∀ (j : Nat) t v, Try.f3.params[j]? = some t -> args[j]? = some v -> Value.okWide Try.prog W .any base t v := hval0
 have hW' := hW
 obtain ⟨p, q, hA0, hV, rfl, _, _⟩ := hW
 have hA : DataW.TrodAll enc Try.prog W 0 (fun _ => true) true Try.f3.params.toList args.toList ds p := hA0
 rw [Try.params3] at hA hval hsz
 obtain ⟨v0, v1, v2, d0, d1, d2, p0, p1, p2, rfl, rfl, rfl, h0, h1, h2⟩ := trodAll_three hA
 obtain ⟨rfl, rfl⟩ := trodVars_none hV
 clear hA0 hval0
 simp only [List.append_nil, List.append_assoc] at hW'
 have hlt0 : ∀ x ∈ p0, x.block < W.heap.size := fun x hx => hW'.lt x (by simp [hx])
 have hlt1 : ∀ x ∈ p1, x.block < W.heap.size := fun x hx => hW'.lt x (by simp [hx])
 have hlt2 : ∀ x ∈ p2, x.block < W.heap.size := fun x hx => hW'.lt x (by simp [hx])
 obtain ⟨x0, hx0⟩ := arg_of (τ := Go.User.tRaw) (by kernel_rfl) (hval 0 24 v0 rfl rfl) h0 hlt0 (sz_of hsz (j := 0) rfl rfl)
 obtain ⟨x1, hx1⟩ := arg_of (τ := .bool) (by kernel_rfl) (hval 1 4 v1 rfl rfl) h1 hlt1 (sz_of hsz (j := 1) rfl rfl)
 obtain ⟨x2, hx2⟩ := arg_of (τ := .arr 2 Go.User.tChg) (by kernel_rfl) (hval 2 27 v2 rfl rfl) h2 hlt2 (sz_of hsz (j := 2) rfl rfl)
 have hcall := hF.2 W (fun b => b < W.heap.size) [v0, v1, v2] (x0, x1, x2, ()) (GlbOK.zero _ _) (fun b h => h) ⟨v0, [v1, v2], rfl, hx0, v1, [v2], rfl, hx1, v2, [], rfl, hx2, rfl⟩ trivial
 refine hcall.mono ?_
 rintro e W' ⟨v, F', S', rfl, hb, _, _, _, _, hv⟩
 have hv : aP F' W' .bool .shr S' v true := hv
 have := hv.bool_eq
 subst this
 have hargs0 := Below.trod Try.laidOut (by kernel_rfl) (of_decide_eq_true (by kernel_rfl)) h0 hb hlt0
 have hargs1 := Below.trod Try.laidOut (by kernel_rfl) (of_decide_eq_true (by kernel_rfl)) h1 hb hlt1
 have hargs2 := Below.trod Try.laidOut (by kernel_rfl) (of_decide_eq_true (by kernel_rfl)) h2 hb hlt2
 refine ⟨_, rfl, _, _, _, [], p0 ++ (p1 ++ p2), [], hW', ?_, trodAll_mk3 hargs0 hargs1 hargs2, rfl, hb.frame _, fun h => by cases h⟩
 exact trodAll_mk1 (shut_bool Try.underlying4 true)

theorem orderMatchesReference_holds : Rows.OrderMatchesReferenceSaid :=
 OpenClaim.holds_of_wide 3 Try.f3 rfl rfl rfl rfl rfl rfl rfl ⟨rfl, rfl, rfl, rfl, rfl⟩ rfl rfl rfl rfl rfl (by kernel_rfl) Try.func3 (by kernel_rfl)
  (of_decide_eq_true (by kernel_rfl)) (by unfold Func.isWrapper; first | (rw [if_pos (by decide +kernel)]; kernel_rfl) | (rw [if_neg (by decide +kernel)]; exact ⟨rfl, rfl⟩))
  (fun os started H enc _ => orderMatchesReference_lifted Go.User.ok3 os started H enc)
end Go.Proofs.Ytdcbiadlojcaoaa
