/- The machine of views: operations one after the other; a single core: plain facts. Written by gen.py: what is left to show of each function. ViewInterleaves answers true. The law ViewInterleaves. -/
import Derived.Test.YthhclebbpbkgdaaLfl
set_option linter.unusedVariables false
set_option linter.unusedSimpArgs false
namespace Sp
open Go.Lf
structure ISim (t : Lit) (s : VSt) (pc mem r : List Int) : Prop where
  f : Fine s
  T : s.1 = t
  pcl : pc.length = t.1.length
  pc : ∀ c, c < t.1.length → pcOf s c = pc.getD c 0
  ml : mem.length = 3
  mem : ∀ p, p < 3 → lastV (memOf s p) = mem.getD p 0
  r : s.2.2.2.2.2.1 = r
theorem lastV_ins {l : List Msg} (h : 1 ≤ l.length) (w : Msg) : lastV (insM l (l.length - 1) w) = w.2.1 := by
  have ha : l.length - 1 < l.length := by omega
  unfold lastV
  rw [insM_len ha, insM_get ha, if_neg (by omega), if_pos (by omega)]
theorem ISim.step {t : Lit} {s : VSt} {pc mem r : List Int} (h : ISim t s pc mem r) {c : Nat} (hc : c < t.1.length) (hb : iBusy t pc c = true) :
    ∃ x, x ∈ choices s ∧ ISim t (next s x) (iPc pc c) (iMem t pc mem c) (iR t pc mem r c) := by
  have ok := h.f.good.ok
  have hcS : c < s.1.1.length := by rw [h.T]; exact hc
  have hpc := h.pc c hc
  have hb := of_decide_eq_true hb
  have hops : opsOf s c = t.1.getD c [] := by show s.1.1.getD c [] = _; rw [h.T]
  have hn : ¬ pcOf s c = (opsOf s c).length := by rw [hpc, hops]; omega
  have hop : nextOp s c = iOp t pc c := by
    show (opsOf s c).getD (pcOf s c).toNat op0 = _
    rw [hops, hpc]; rfl
  have hpl : ∀ c', c' < t.1.length → ∀ v, pcOf s c = v → (iPc pc c).getD c' 0 = if c' = c then v + 1 else pc.getD c' 0 := by
    intro c' hc' v hv
    unfold iPc
    rw [getD_setI (by rw [h.pcl]; exact hc), ← hpc, hv]
  by_cases h4 : (nextOp s c).1 = 4
  · have hx := ch_fence hcS hn h4
    have N := h.f.nx hx
    have e : ofC ((c : Int), 0, ()) = c := Int.toNat_natCast c
    have hk : (opX s ((c : Int), 0, ())).1 = 4 := by unfold opX; rw [e]; exact h4
    obtain ⟨n1, n2, n3, n4⟩ := N.fen hk
    have i4 : (iOp t pc c).1 = 4 := by rw [← hop]; exact h4
    refine ⟨_, hx, h.f.next hx, h.T, by unfold iPc; rw [List.length_set]; exact h.pcl, ?_, ?_, ?_, ?_⟩
    · intro c' hc'
      rw [N.pc c', e, hpl c' hc' _ rfl]
      split
      · rfl
      · exact h.pc c' hc'
    · unfold iMem; rw [if_neg (by omega), if_neg (by omega)]; exact h.ml
    · intro p hp
      unfold iMem; rw [if_neg (by omega), if_neg (by omega), n1 p hp]; exact h.mem p hp
    · unfold iR; rw [if_neg (by omega)]
      show nR s _ = r
      rw [n4]; exact h.r
  · have hx := ch_last ok hcS hn h4
    generalize hxe : (((c : Int), (((memOf s (nextOp s c).2.1.toNat).length - 1 : Nat) : Int), ()) : Cho) = x at hx
    have N := h.f.nx hx
    have e : ofC x = c := by rw [← hxe]; exact Int.toNat_natCast c
    have hX : opX s x = iOp t pc c := by unfold opX; rw [e]; exact hop
    have hpX : plX s x = (iOp t pc c).2.1.toNat := by unfold plX; rw [hX]
    have hat : x.2.1.toNat = (memOf s (plX s x)).length - 1 := by rw [hpX, ← hop, ← hxe]; exact Int.toNat_natCast _
    have p3 := N.p3
    have hml := (ok.mem _ p3).1
    have hmsg : (msgX s x).2.1 = mem.getD (iOp t pc c).2.1.toNat 0 := by
      rw [← hpX, ← h.mem _ p3]
      unfold msgX lastV; rw [hat]
    have hev : (evt s x.1).toNat = ((total (t.1.take c) : Int) + pc.getD c 0).toNat := by
      rw [N.evt, e, hpc, h.T]; rfl
    have hi4 : ¬ (iOp t pc c).1 = 4 := by rw [← hop]; exact h4
    have hpc' : ∀ c', c' < t.1.length → pcOf (next s x) c' = (iPc pc c).getD c' 0 := by
      intro c' hc'
      rw [N.pc c', e, hpl c' hc' _ rfl]
      split
      · rfl
      · exact h.pc c' hc'
    have hpX3 : (iOp t pc c).2.1.toNat < mem.length := by rw [h.ml, ← hpX]; exact p3
    refine ⟨x, hx, h.f.next hx, h.T, by unfold iPc; rw [List.length_set]; exact h.pcl, hpc', ?_, ?_, ?_⟩
    · unfold iMem
      split
      · rw [List.length_set]; exact h.ml
      · split
        · rw [List.length_set]; exact h.ml
        · exact h.ml
    · intro p hp
      rcases N.kind with k | k | k | k
      · have k' : (iOp t pc c).1 = 1 := by rw [← hX]; exact k
        unfold iMem; rw [if_neg (by omega), if_neg (by omega), (N.lod k).1 p hp]; exact h.mem p hp
      · have k' : (iOp t pc c).1 = 2 := by rw [← hX]; exact k
        unfold iMem; rw [if_pos k', (N.wri (.inl k)).1 p hp, getD_setI hpX3, ← hpX]
        split
        · rename_i hpp
          rw [hat, hpp, lastV_ins hml, N.newV, if_neg (by omega), hX]
        · exact h.mem p hp
      · have k' : (iOp t pc c).1 = 3 := by rw [← hX]; exact k
        unfold iMem; rw [if_neg (by omega), if_pos k', (N.wri (.inr k)).1 p hp, getD_setI hpX3, ← hpX]
        split
        · rename_i hpp
          rw [hat, hpp, lastV_ins hml, N.newV, if_pos k, hX, hmsg, hpX]
        · exact h.mem p hp
      · exact absurd (hX ▸ k) hi4
    · show nR s x = _
      rcases N.kind with k | k | k | k
      · have k' : (iOp t pc c).1 = 1 := by rw [← hX]; exact k
        unfold iR; rw [if_pos (.inl k'), (N.lod k).2.2.2, hev, hmsg, h.r]
      · have k' : (iOp t pc c).1 = 2 := by rw [← hX]; exact k
        unfold iR; rw [if_neg (by omega), (N.wri (.inl k)).2.2.2, if_pos k]; exact h.r
      · have k' : (iOp t pc c).1 = 3 := by rw [← hX]; exact k
        unfold iR; rw [if_pos (.inr k'), (N.wri (.inr k)).2.2.2, if_neg (by omega), hev, hmsg, h.r]
      · exact absurd (hX ▸ k) hi4
theorem ISim.left {t : Lit} {s : VSt} {pc mem r : List Int} (h : ISim t s pc mem r) : Sp.left s = iLeft t pc := by
  unfold Sp.left iLeft
  rw [h.T]
  congr 1
  refine List.map_congr_left fun c hc => ?_
  rw [h.pc c (List.mem_range.1 hc)]
  show (s.1.1.getD c []).length - _ = _
  rw [h.T]
theorem ISim.fin {t : Lit} {s : VSt} {pc mem r : List Int} (h : ISim t s pc mem r) : outcome s = iFin t mem r := by
  have e : lastN s 3 = iLast mem := by
    show [lastV (memOf s 0), lastV (memOf s 1), lastV (memOf s 2)] = _
    rw [h.mem 0 (by omega), h.mem 1 (by omega), h.mem 2 (by omega)]; rfl
  unfold outcome outR iFin
  rw [e, h.r, h.T]
theorem iDone_iff {t : Lit} {pc : List Int} {c : Nat} : iDone t pc c = true ↔ ∀ k, k < c → iBusy t pc k = false := by
  unfold iDone
  rw [List.all_eq_true]
  constructor
  · intro h k hk
    have := h k (List.mem_range.2 hk)
    simpa using this
  · intro h k hk
    have := h k (List.mem_range.1 hk)
    simpa using this
theorem ISim.done {t : Lit} {s : VSt} {pc mem r : List Int} (h : ISim t s pc mem r) (hd : iDone t pc t.1.length = true) : choices s = [] := by
  rw [done_iff h.f.good.ok]
  intro c hc
  have hc' : c < t.1.length := by rw [← h.T]; exact hc
  have hb := of_decide_eq_false (iDone_iff.1 hd c hc')
  have hp := h.f.good.ok.pc c hc
  have hpc := h.pc c hc'
  have hops : (opsOf s c).length = (t.1.getD c []).length := by show (s.1.1.getD c []).length = _; rw [h.T]
  omega
theorem mem_addL {l : List Out} {o x : Out} (h : x ∈ addL l o) : x ∈ l ∨ x = o := by
  unfold addL at h
  split at h
  · exact .inl h
  · rcases List.mem_append.1 h with h | h
    · exact .inl h
    · exact .inr (List.mem_singleton.1 h)
theorem ilv_sub : ∀ (n : Nat) {t : Lit} {s : VSt} {pc mem r : List Int}, ISim t s pc mem r → iLeft t pc = n → ∀ l, ∀ o ∈ ilv n l t pc mem r, o ∈ l ∨ OutOf s o
  | 0, t, s, pc, mem, r, h, hl, l, o, ho => by
    have hd := left_zero h.f.good.ok (by rw [h.left]; exact hl)
    unfold ilv at ho
    rcases mem_addL ho with h1 | h1
    · exact .inl h1
    · exact .inr ((OutOf_done hd).2 (by rw [h.fin, h1]))
  | n + 1, t, s, pc, mem, r, h, hl, l, o, ho => by
    unfold ilv at ho
    by_cases hd : iDone t pc t.1.length = true
    · rw [if_pos hd] at ho
      rcases mem_addL ho with h1 | h1
      · exact .inl h1
      · exact .inr ((OutOf_done (h.done hd)).2 (by rw [h.fin, h1]))
    · rw [if_neg hd] at ho
      have key : ∀ (cs : List Nat), (∀ c ∈ cs, c < t.1.length) → ∀ l, o ∈ cs.foldl (fun l c => if iBusy t pc c = true then ilv n l t (iPc pc c) (iMem t pc mem c) (iR t pc mem r c) else l) l → o ∈ l ∨ OutOf s o := by
        intro cs
        induction cs with
        | nil => intro _ l h; exact .inl h
        | cons c cs ih =>
          intro hcs l hm
          rw [List.foldl_cons] at hm
          rcases ih (fun d hd => hcs d (List.mem_cons_of_mem _ hd)) _ hm with h1 | h1
          · by_cases hb : iBusy t pc c = true
            · rw [if_pos hb] at h1
              obtain ⟨x, hx, hs⟩ := h.step (hcs c List.mem_cons_self) hb
              have hln := left_next h.f.good.ok hx
              have hl2 : iLeft t (iPc pc c) = n := by
                rw [← hs.left]
                rw [h.left, hl] at hln
                omega
              rcases ilv_sub n hs hl2 l o h1 with h2 | ⟨s', g1, g2, g3⟩
              · exact .inl h2
              · exact .inr ⟨s', .step hx g1, g2, g3⟩
            · rw [if_neg hb] at h1; exact .inl h1
          · exact .inr h1
      exact key _ (fun c hc => List.mem_range.1 hc) l ho
theorem start_isim {t : Lit} (hv : valid t = true) : ISim t (start t) (zeros t.1.length) [0, 0, 0] (zeros (total t.1)) := by
  have z : ∀ n k, (zeros n).getD k 0 = 0 := by
    intro n k
    by_cases h : k < n
    · exact rep_get h _ _
    · exact Pl.getD_out (by unfold zeros; rw [List.length_replicate]; omega) _
  refine ⟨start_fine hv, rfl, List.length_replicate, fun c hc => by rw [start_pc, z], rfl, fun p hp => ?_, rfl⟩
  rw [start_mem t hp]
  have : p = 0 ∨ p = 1 ∨ p = 2 := by omega
  rcases this with rfl | rfl | rfl <;> rfl
theorem interleaves {t : Lit} (hv : valid t = true) : ∀ o ∈ ilv (iLeft t (zeros t.1.length)) [] t (zeros t.1.length) [0, 0, 0] (zeros (total t.1)), o ∈ outs t := by
  intro o ho
  rcases ilv_sub _ (start_isim hv) rfl [] o ho with h | h
  · cases h
  · exact (mem_outs hv).2 h
-- a single core
def OneC (k : Nat) (s : VSt) : Prop := k < s.1.1.length ∧ (∀ c, c < s.1.1.length → 0 < (opsOf s c).length → c = k) ∧ ∀ p, p < 3 → plV s k p = ((memOf s p).length : Int) - 1
theorem OneC.next {k : Nat} {s : VSt} (f : Fine s) (h : OneC k s) {x : Cho} (hx : x ∈ choices s) : OneC k (next s x) := by
  obtain ⟨hk, h1, h2⟩ := h
  have N := f.nx hx
  have hck : ofC x = k := h1 _ N.xf.lt (by have := N.xf.pc1; omega)
  refine ⟨hk, h1, fun p hp => ?_⟩
  have hp2 := h2 p hp
  rcases N.kind with q | q | q | q
  · rw [(N.lod q).1 p hp, (N.lod q).2.1 k p hk hp]
    split
    · rename_i hh
      obtain ⟨w1, w2, w3⟩ := N.wlt (by omega)
      rw [hck, ← hh.2] at w3
      rw [← hh.2] at w1
      omega
    · exact hp2
  · obtain ⟨w1, w2, w3⟩ := N.wlt (by omega)
    rw [(N.wri (.inl q)).1 p hp, (N.wri (.inl q)).2.1 k p hk hp]
    split
    · rename_i hpp
      rw [hck, ← hpp] at w3
      rw [← hpp] at w1
      rw [if_pos hck.symm, insM_len w1]; omega
    · exact hp2
  · obtain ⟨w1, w2, w3⟩ := N.wlt (by omega)
    rw [(N.wri (.inr q)).1 p hp, (N.wri (.inr q)).2.1 k p hk hp]
    split
    · rename_i hpp
      rw [hck, ← hpp] at w3
      rw [← hpp] at w1
      rw [if_pos hck.symm, insM_len w1]; omega
    · exact hp2
  · rw [(N.fen q).1 p hp, (N.fen q).2.1 k p hk hp, if_pos hck.symm]
    have := plF_lt s p
    omega
theorem OneC.one {k : Nat} {s : VSt} (f : Fine s) (h : OneC k s) {x y : Cho} (hx : x ∈ choices s) (hy : y ∈ choices s) : x = y := by
  obtain ⟨hk, h1, h2⟩ := h
  have N := f.nx hx
  have M := f.nx hy
  have ex : ofC x = k := h1 _ N.xf.lt (by have := N.xf.pc1; omega)
  have ey : ofC y = k := h1 _ M.xf.lt (by have := M.xf.pc1; omega)
  have e1 : x.1 = y.1 := by rw [N.xf.eq, M.xf.eq, ex, ey]
  have eo : opX s x = opX s y := by unfold opX; rw [ex, ey]
  have e2 : x.2.1 = y.2.1 := by
    by_cases h4 : (opX s x).1 = 4
    · rw [N.xf.fen h4, M.xf.fen (by rw [← eo]; exact h4)]
    · obtain ⟨w1, w2, w3⟩ := N.wlt h4
      obtain ⟨v1, v2, v3⟩ := M.wlt (by rw [← eo]; exact h4)
      have ep : plX s y = plX s x := by unfold plX; rw [eo]
      rw [ep] at v1 v3
      rw [ex, h2 _ N.p3] at w3
      rw [ey, h2 _ N.p3] at v3
      omega
  exact Prod.ext e1 (Prod.ext e2 rfl)
theorem OneC.out {k : Nat} : ∀ (n : Nat) {s : VSt}, Fine s → OneC k s → left s = n → ∀ {o o' : Out}, OutOf s o → OutOf s o' → o = o'
  | 0, s, f, h, hl, o, o', h1, h2 => by
    have hd := left_zero f.good.ok hl
    rw [← (OutOf_done hd).1 h1, ← (OutOf_done hd).1 h2]
  | n + 1, s, f, h, hl, o, o', h1, h2 => by
    by_cases h0 : choices s = []
    · rw [← (OutOf_done h0).1 h1, ← (OutOf_done h0).1 h2]
    · obtain ⟨x, hx, g1⟩ := (OutOf_more h0).1 h1
      obtain ⟨y, hy, g2⟩ := (OutOf_more h0).1 h2
      rw [← h.one f hx hy] at g2
      have := left_next f.good.ok hx
      exact OneC.out n (f.next hx) (h.next f hx) (by omega) g1 g2
theorem busy_one {P : List (List LOp)} (h : busyN P P.length ≤ 1) {c d : Nat} (hc : c < P.length) (hd : d < P.length) (h1 : 0 < (P.getD c []).length) (h2 : 0 < (P.getD d []).length) : c = d := by
  have key : ∀ {c d : Nat}, c < d → d < P.length → 0 < (P.getD c []).length → 0 < (P.getD d []).length → False := by
    intro c d hcd hd h1 h2
    unfold busyN at h
    rw [List.take_length] at h
    have e : P = P.take (c + 1) ++ P.drop (c + 1) := (List.take_append_drop _ _).symm
    rw [e, List.filter_append, List.length_append] at h
    have m1 : P.getD c [] ∈ (P.take (c + 1)).filter fun l => decide (0 < l.length) := by
      refine List.mem_filter.2 ⟨?_, decide_eq_true h1⟩
      rw [Pl.take_succ (by omega) []]; exact List.mem_append_right _ (List.mem_singleton.2 rfl)
    have m2 : P.getD d [] ∈ (P.drop (c + 1)).filter fun l => decide (0 < l.length) := by
      refine List.mem_filter.2 ⟨?_, decide_eq_true h2⟩
      rw [Pl.getD_at hd]
      refine List.mem_drop_iff_getElem.2 ⟨d - (c + 1), by omega, ?_⟩
      congr 1; omega
    have := List.length_pos_of_mem m1
    have := List.length_pos_of_mem m2
    omega
  rcases Nat.lt_trichotomy c d with h | h | h
  · exact (key h hd h1 h2).elim
  · exact h
  · exact (key h hc h2 h1).elim
theorem single_out {t : Lit} (hv : valid t = true) (h : busyN t.1 t.1.length ≤ 1) : (outs t).length = 1 := by
  obtain ⟨v1, v2, v3, v4, v5⟩ := valid_iff.1 hv
  -- the core
  have hk : ∃ k, k < t.1.length ∧ ∀ c, c < t.1.length → 0 < (t.1.getD c []).length → c = k := by
    by_cases hex : ∃ k, k < t.1.length ∧ 0 < (t.1.getD k []).length
    · obtain ⟨k, h1, h2⟩ := hex
      exact ⟨k, h1, fun c hc hp => busy_one h hc h1 hp h2⟩
    · exact ⟨0, by omega, fun c hc hp => absurd ⟨c, hc, hp⟩ hex⟩
  obtain ⟨k, hk, hone⟩ := hk
  have h0 : OneC k (start t) := by
    refine ⟨hk, hone, fun p hp => ?_⟩
    unfold plV vw
    rw [start_mem t hp, start_row t hk, v0_get hp]; decide
  have hsome := outs_some hv
  have hnd := sorted_nodup (outs_sorted t)
  match hL : outs t, hsome, hnd with
  | [o], _, _ => rfl
  | o :: o' :: l, _, hnd =>
    have e : o = o' := OneC.out (k := k) _ (start_fine hv) h0 rfl ((mem_outs hv).1 (by rw [hL]; simp)) ((mem_outs hv).1 (by rw [hL]; simp))
    have := (List.nodup_cons.1 hnd).1
    rw [e] at this
    exact absurd List.mem_cons_self this
end Sp
namespace Go.User
open Go.Proofs Go.Lf
set_option maxRecDepth 100000
theorem vc17 : (∀ n : Nat, funI (C17 n) (stpS (C17 n)) (S17 n) (L17 n) Try.f17) = (
let q0 : Nat := (3 : Nat);
let q1 : Prop := True ∧ True ∧ True;
let q2 : Prop := True ∧ q1;
let q3 : Prop := q2 ∧ True;
let q4 : Prop := (True ∧ True) ∧ True;
let q5 : Int := (0 : Int);
let q6 : Prop := True ∧ q2;
let q7 : Prop := (True ∧ q6) ∧ True;
let q8 : Nat := (0 : Nat);
let q9 : Int := (1 : Int);
let q10 : Int × Int × Int × Unit := (q5, q5, q5, ());
let q11 : Int := (3 : Int);
let q12 : Int := (2 : Int);
let q13 : Nat := (1 : Nat);
let q14 : Prop := q1 ∧ True;
let q15 : List Step := List.append._f (([] : List Step)) PUnit.unit (Step.fst :: ([] : List Step));
∀ (n : Nat),
  let q16 : Prop := q13 ≤ n;
  let q17 : Nat := n - q13;
  ∀ (x : List (List Int × List Int × Unit) × (List (List (Int × Int × Int × Unit)) × Unit) × List Int × List Int × List Int × Unit),
    let q18 : List Int := x.2.2.2.2.1;
    let q19 : Nat := x.2.1.1.length;
    let q20 : Prop := q18 = q18;
    let q21 : Prop := x.2.1 = x.2.1;
    let q22 : Prop := x.2.2.1 = x.2.2.1 ∧ q20 ∧ q21 ∧ x.2.2.2.1 = x.2.2.2.1 ∧ True;
    let q23 : Nat := x.2.2.1.length;
    let q24 : Nat := q18.length;
    let q25 : List (List Int × List Int × Unit) := Sp.ilv n x.1 x.2.1 x.2.2.1 x.2.2.2.1 q18;
    let q26 : List (Int × Int × Int × Unit) := Sp.cat x.2.1.1;
    let q27 : List Int × Unit := (Sp.iLast x.2.2.2.1, ());
    let q28 : Prop := q20 ∧ q21 ∧ True;
    Sp.iOk n x.1 x.2.1 x.2.2.1 x.2.2.2.1 q18 →
      dFact ((Ty.int IntKind.i64).slice.prod ((Ty.int IntKind.i64).slice.prod Ty.unit)).slice x.1 ∧ dFact (((Ty.int IntKind.i64).prod ((Ty.int IntKind.i64).prod ((Ty.int IntKind.i64).prod Ty.unit))).slice.slice.prod Ty.unit) x.2.1 ∧ dFact (Ty.int IntKind.i64).slice x.2.2.1 ∧ dFact (Ty.arr q0 (Ty.int IntKind.i64)) x.2.2.2.1 ∧ dFact (Ty.int IntKind.i64).slice q18 ∧ True →
        q3 ∧
          q4 ∧
            q4 ∧
              q4 ∧
                (∃ (x_1 : Nat), x_1 ≤ q19 ∧ q5 = (↑x_1 : Int) ∧ q5 = (↑(Sp.total (List.take x_1 x.2.1.1)) : Int) ∧ true = Sp.iDone x.2.1 x.2.2.1 x_1 ∧ x.1 = Sp.ilvC n x.1 x.2.1 x.2.2.1 x.2.2.2.1 q18 x_1 ∧ q22) ∧
                  ∀ (x_1 : Nat),
                    let q29 : Int := (↑(Sp.total (List.take x_1 x.2.1.1)) : Int);
                    let q30 : Bool := Sp.iDone x.2.1 x.2.2.1 x_1;
                    let q31 : List (List Int × List Int × Unit) := Sp.ilvC n x.1 x.2.1 x.2.2.1 x.2.2.2.1 q18 x_1;
                    let q32 : Bool := decide ((↑x_1 : Int) < (↑q19 : Int));
                    let q33 : Prop := inN (↑x_1 : Int) q23;
                    let q34 : Prop := inN (↑x_1 : Int) q19;
                    let q35 : Nat := (↑x_1 : Int).toNat;
                    let q36 : Int := x.2.2.1.getD q35 q5;
                    let q37 : List (Int × Int × Int × Unit) := x.2.1.1.getD q35 (([] : List tLOp.den));
                    let q38 : Nat := q37.length;
                    let q39 : Int := (↑q38 : Int);
                    let q40 : Bool := decide (q36 < q39);
                    let q41 : Int := q36 + q9;
                    let q42 : Int × Int × Int × Unit := q37.getD q36.toNat q10;
                    let q43 : Int := q42.1;
                    let q44 : Bool := q43 == q9;
                    let q45 : Prop := (true && bif q44 then false else true) = true → True;
                    let q46 : Bool := q43 == q11;
                    let q47 : Bool := bif q44 then true else q46;
                    let q48 : Int := q29 + q36;
                    let q49 : Int × Int × Unit := q42.2;
                    let q50 : Int := q49.1;
                    let q51 : Prop := inN q50 q0;
                    let q52 : Bool := q43 == q12;
                    let q53 : Prop := q52 = true;
                    let q54 : Prop := q51 ∧ True;
                    let q55 : Prop := (True ∧ True ∧ True ∧ True ∧ q54) ∧ True ∧ True;
                    let q56 : Prop := q46 = true;
                    let q57 : Nat := q50.toNat;
                    let q58 : Int := x.2.2.2.1.getD q57 q5;
                    let q59 : Int := q49.2.1;
                    let q60 : Int := q58 + q59;
                    let q61 : Prop := (True ∧ True ∧ True ∧ True ∧ q51 ∧ True ∧ True ∧ True ∧ inK IntKind.i64 q60 ∧ q54) ∧ True ∧ True;
                    let q62 : List Int := x.2.2.1.set q35 q41;
                    let q63 : List Int := x.2.2.2.1.set q57 q59;
                    let q64 : List Int := q63.set q57 q60;
                    let q65 : List Int := q18.set q48.toNat q58;
                    let q66 : Int := q29 + q39;
                    let q67 : Prop := (True ∧ True ∧ True ∧ True ∧ q34 ∧ True ∧ True ∧ inK IntKind.i64 q66 ∧ True ∧ True) ∧ True;
                    let q68 : Int := (↑x_1 : Int) + q9;
                    let q69 : Prop := (True ∧ inK IntKind.i64 q68 ∧ True ∧ True) ∧ True;
                    let q70 : Prop := q46 = false;
                    let q71 : Prop := q52 = false;
                    let q72 : List Int := x.2.2.2.1.set q57 q60;
                    let q73 : Bool := !q30;
                    let q74 : Prop := q14 ∧ q31 = q25;
                    let q75 : Prop := q31 = q31;
                    let q76 : Prop := q75 ∧ q28;
                    let q77 : Nat := q31.length;
                    x_1 ≤ q19 →
                      dFact (Ty.int IntKind.i64) (↑x_1 : Int) ∧ dFact (Ty.int IntKind.i64) q29 ∧ dFact Ty.bool q30 ∧ dFact ((Ty.int IntKind.i64).slice.prod ((Ty.int IntKind.i64).slice.prod Ty.unit)).slice q31 ∧ True →
                        q7 ∧
                          (q32 = true → ((True ∧ True ∧ q33 ∧ True ∧ True ∧ True ∧ True ∧ q34 ∧ q2) ∧ True) ∧ (q40 = true → q4 ∧ ((True ∧ True ∧ True ∧ q34 ∧ True ∧ True ∧ True ∧ q33 ∧ True ∧ inN q36 q38 ∧ q1) ∧ True ∧ True) ∧ ((True ∧ True ∧ (↑(q8 + q23) : Int) ≤ maxNew ∧ True ∧ True ∧ True ∧ (↑(q8 + q24) : Int) ≤ maxNew ∧ q1) ∧ q1) ∧ ((True ∧ True ∧ q33 ∧ True ∧ inK IntKind.i64 q41 ∧ q33 ∧ True) ∧ True ∧ True) ∧ ((True ∧ True ∧ True ∧ True ∧ q45 ∧ q45 ∧ q45 ∧ True ∧ True) ∧ True) ∧ (q47 = true → ((True ∧ True ∧ True ∧ True ∧ q33 ∧ True ∧ inK IntKind.i64 q48 ∧ True ∧ True ∧ q51 ∧ True ∧ inN q48 q24 ∧ True) ∧ True ∧ True) ∧ q3 ∧ (q53 → q55 ∧ q3 ∧ (q56 → q61 ∧ ((True ∧ True ∧ True ∧ True ∧ True ∧ (q16 ∧ Sp.iOk q17 q31 x.2.1 q62 q64 q65) ∧ True ∧ True) ∧ True) ∧ q67 ∧ q69 ∧ ∃ (y : Nat), y ≤ q19 ∧ q19 - y < q19 - x_1 ∧ q68 = (↑y : Int) ∧ q66 = (↑(Sp.total (List.take y x.2.1.1)) : Int) ∧ false = Sp.iDone x.2.1 x.2.2.1 y ∧ Sp.ilv q17 q31 x.2.1 q62 q64 q65 = Sp.ilvC n x.1 x.2.1 x.2.2.1 x.2.2.2.1 q18 y ∧ q22) ∧ (q70 → ((True ∧ True ∧ True ∧ True ∧ True ∧ (q16 ∧ Sp.iOk q17 q31 x.2.1 q62 q63 q65) ∧ True ∧ True) ∧ True) ∧ q67 ∧ q69 ∧ ∃ (y : Nat), y ≤ q19 ∧ q19 - y < q19 - x_1 ∧ q68 = (↑y : Int) ∧ q66 = (↑(Sp.total (List.take y x.2.1.1)) : Int) ∧ false = Sp.iDone x.2.1 x.2.2.1 y ∧ Sp.ilv q17 q31 x.2.1 q62 q63 q65 = Sp.ilvC n x.1 x.2.1 x.2.2.1 x.2.2.2.1 q18 y ∧ q22)) ∧ (q71 → q3 ∧ (q56 → q61 ∧ ((True ∧ True ∧ True ∧ True ∧ True ∧ (q16 ∧ Sp.iOk q17 q31 x.2.1 q62 q72 q65) ∧ True ∧ True) ∧ True) ∧ q67 ∧ q69 ∧ ∃ (y : Nat), y ≤ q19 ∧ q19 - y < q19 - x_1 ∧ q68 = (↑y : Int) ∧ q66 = (↑(Sp.total (List.take y x.2.1.1)) : Int) ∧ false = Sp.iDone x.2.1 x.2.2.1 y ∧ Sp.ilv q17 q31 x.2.1 q62 q72 q65 = Sp.ilvC n x.1 x.2.1 x.2.2.1 x.2.2.2.1 q18 y ∧ q22) ∧ (q70 → ((True ∧ True ∧ True ∧ True ∧ True ∧ (q16 ∧ Sp.iOk q17 q31 x.2.1 q62 x.2.2.2.1 q65) ∧ True ∧ True) ∧ True) ∧ q67 ∧ q69 ∧ ∃ (y : Nat), y ≤ q19 ∧ q19 - y < q19 - x_1 ∧ q68 = (↑y : Int) ∧ q66 = (↑(Sp.total (List.take y x.2.1.1)) : Int) ∧ false = Sp.iDone x.2.1 x.2.2.1 y ∧ Sp.ilv q17 q31 x.2.1 q62 x.2.2.2.1 q65 = Sp.ilvC n x.1 x.2.1 x.2.2.1 x.2.2.2.1 q18 y ∧ q22))) ∧ (q47 = false → q3 ∧ (q53 → q55 ∧ q3 ∧ (q56 → q61 ∧ ((True ∧ True ∧ True ∧ True ∧ True ∧ (q16 ∧ Sp.iOk q17 q31 x.2.1 q62 q64 q18) ∧ True ∧ True) ∧ True) ∧ q67 ∧ q69 ∧ ∃ (y : Nat), y ≤ q19 ∧ q19 - y < q19 - x_1 ∧ q68 = (↑y : Int) ∧ q66 = (↑(Sp.total (List.take y x.2.1.1)) : Int) ∧ false = Sp.iDone x.2.1 x.2.2.1 y ∧ Sp.ilv q17 q31 x.2.1 q62 q64 q18 = Sp.ilvC n x.1 x.2.1 x.2.2.1 x.2.2.2.1 q18 y ∧ q22) ∧ (q70 → ((True ∧ True ∧ True ∧ True ∧ True ∧ (q16 ∧ Sp.iOk q17 q31 x.2.1 q62 q63 q18) ∧ True ∧ True) ∧ True) ∧ q67 ∧ q69 ∧ ∃ (y : Nat), y ≤ q19 ∧ q19 - y < q19 - x_1 ∧ q68 = (↑y : Int) ∧ q66 = (↑(Sp.total (List.take y x.2.1.1)) : Int) ∧ false = Sp.iDone x.2.1 x.2.2.1 y ∧ Sp.ilv q17 q31 x.2.1 q62 q63 q18 = Sp.ilvC n x.1 x.2.1 x.2.2.1 x.2.2.2.1 q18 y ∧ q22)) ∧ (q71 → q3 ∧ (q56 → q61 ∧ ((True ∧ True ∧ True ∧ True ∧ True ∧ (q16 ∧ Sp.iOk q17 q31 x.2.1 q62 q72 q18) ∧ True ∧ True) ∧ True) ∧ q67 ∧ q69 ∧ ∃ (y : Nat), y ≤ q19 ∧ q19 - y < q19 - x_1 ∧ q68 = (↑y : Int) ∧ q66 = (↑(Sp.total (List.take y x.2.1.1)) : Int) ∧ false = Sp.iDone x.2.1 x.2.2.1 y ∧ Sp.ilv q17 q31 x.2.1 q62 q72 q18 = Sp.ilvC n x.1 x.2.1 x.2.2.1 x.2.2.2.1 q18 y ∧ q22) ∧ (q70 → ((True ∧ True ∧ True ∧ True ∧ True ∧ (q16 ∧ Sp.iOk q17 q31 x.2.1 q62 x.2.2.2.1 q18) ∧ True ∧ True) ∧ True) ∧ q67 ∧ q69 ∧ ∃ (y : Nat), y ≤ q19 ∧ q19 - y < q19 - x_1 ∧ q68 = (↑y : Int) ∧ q66 = (↑(Sp.total (List.take y x.2.1.1)) : Int) ∧ false = Sp.iDone x.2.1 x.2.2.1 y ∧ Sp.ilv q17 q31 x.2.1 q62 x.2.2.2.1 q18 = Sp.ilvC n x.1 x.2.1 x.2.2.1 x.2.2.2.1 q18 y ∧ q22)))) ∧ (q40 = false → q67 ∧ q69 ∧ ∃ (y : Nat), y ≤ q19 ∧ q19 - y < q19 - x_1 ∧ q68 = (↑y : Int) ∧ q66 = (↑(Sp.total (List.take y x.2.1.1)) : Int) ∧ q30 = Sp.iDone x.2.1 x.2.2.1 y ∧ q31 = Sp.ilvC n x.1 x.2.1 x.2.2.1 x.2.2.2.1 q18 y ∧ q22)) ∧
                            (q32 = false →
                              q14 ∧
                                (q73 = true → q74) ∧
                                  (q73 = false →
                                    ((inN q5 q0 ∧ True ∧ inN q9 q0 ∧ True ∧ inN q12 q0 ∧ q6) ∧ True ∧ True) ∧
                                      q4 ∧
                                        q4 ∧
                                          (∃ (x_2 : Nat),
                                              let q78 : Nat := Sp.total (List.take x_2 x.2.1.1);
                                              x_2 ≤ q19 ∧ q5 = (↑x_2 : Int) ∧ q5 = (↑q78 : Int) ∧ (([] : List tI.den), x.2.2.2.1.getD q5.toNat q5 :: x.2.2.2.1.getD q9.toNat q5 :: x.2.2.2.1.getD q12.toNat q5 :: ([] : List tI.den), ()) = (Sp.outN q26 q18 q78, q27) ∧ q76) ∧
                                            ∀ (x_2 : Nat),
                                              let q79 : Nat := Sp.total (List.take x_2 x.2.1.1);
                                              let q80 : Int := (↑q79 : Int);
                                              let q81 : List Int × List Int × Unit := (Sp.outN q26 q18 q79, q27);
                                              let q82 : Bool := decide ((↑x_2 : Int) < (↑q19 : Int));
                                              let q83 : Nat := (x.2.1.1.getD x_2 (([] : List tLOp.den))).length;
                                              let q84 : Prop := q75 ∧ q20 ∧ q21 ∧ (↑x_2 : Int) = (↑x_2 : Int) ∧ True;
                                              let q85 : Prop := inN (↑x_2 : Int) q19;
                                              let q86 : List (Int × Int × Int × Unit) := x.2.1.1.getD (↑x_2 : Int).toNat (([] : List tLOp.den));
                                              let q87 : Nat := q86.length;
                                              let q88 : Int := (↑x_2 : Int) + q9;
                                              let q89 : List (List Int × List Int × Unit) := q81 :: ([] : List tOut.den);
                                              let q90 : Bool := Sp.inside q89 q31;
                                              x_2 ≤ q19 →
                                                dFact (Ty.int IntKind.i64) (↑x_2 : Int) ∧ dFact (Ty.int IntKind.i64) q80 ∧ dFact ((Ty.int IntKind.i64).slice.prod ((Ty.int IntKind.i64).slice.prod Ty.unit)) q81 ∧ True →
                                                  q7 ∧
                                                    (q82 = true →
                                                        q4 ∧
                                                          (∃ (x : Nat), x ≤ q83 ∧ q5 = (↑x : Int) ∧ q80 = q80 + (↑x : Int) ∧ q81 = (Sp.outN q26 q18 (q79 + x), q27) ∧ q84) ∧
                                                            ∀ (x_3 : Nat),
                                                              let q91 : Int := q80 + (↑x_3 : Int);
                                                              let q92 : List Int := Sp.outN q26 q18 (q79 + x_3);
                                                              let q93 : List Int × List Int × Unit := (q92, q27);
                                                              let q94 : Bool := decide ((↑x_3 : Int) < (↑q87 : Int));
                                                              let q95 : Prop := inN (↑x_3 : Int) q87;
                                                              let q96 : Int := (q86.getD (↑x_3 : Int).toNat q10).1;
                                                              let q97 : Bool := q96 == q9;
                                                              let q98 : Prop := (true && bif q97 then false else true) = true;
                                                              let q99 : Prop := q98 → True;
                                                              let q100 : Bool := bif q97 then true else q96 == q11;
                                                              let q101 : List Int := q18.getD q91.toNat q5 :: ([] : List tI.den);
                                                              let q102 : Int := q91 + q9;
                                                              let q103 : Prop := (True ∧ inK IntKind.i64 q102 ∧ True ∧ True) ∧ True;
                                                              let q104 : Int := (↑x_3 : Int) + q9;
                                                              let q105 : Prop := (True ∧ inK IntKind.i64 q104 ∧ True ∧ True) ∧ True;
                                                              x_3 ≤ q83 →
                                                                dFact (Ty.int IntKind.i64) (↑x_3 : Int) ∧ dFact (Ty.int IntKind.i64) q91 ∧ dFact ((Ty.int IntKind.i64).slice.prod ((Ty.int IntKind.i64).slice.prod Ty.unit)) q93 ∧ True →
                                                                  ((True ∧ True ∧ True ∧ True ∧ q85 ∧ q2) ∧ True) ∧
                                                                    (q94 = true → ((True ∧ True ∧ True ∧ q85 ∧ True ∧ True ∧ q95 ∧ True ∧ True ∧ True ∧ True ∧ q99 ∧ q99 ∧ q99 ∧ (q98 → q85) ∧ q99 ∧ q99 ∧ (q98 → q95) ∧ q99 ∧ q99 ∧ q99 ∧ True ∧ True) ∧ True) ∧ (q100 = true → ((True ∧ True ∧ True ∧ True ∧ inN q91 q24 ∧ q1) ∧ (↑(q92.length + q101.length) : Int) ≤ maxNew ∧ True ∧ q15 = q15 ∧ True) ∧ q103 ∧ q105 ∧ ∃ (y : Nat), y ≤ q83 ∧ q83 - y < q83 - x_3 ∧ q104 = (↑y : Int) ∧ q102 = q80 + (↑y : Int) ∧ (q92 ++ q101, q27) = (Sp.outN q26 q18 (q79 + y), q27) ∧ q84) ∧ (q100 = false → q103 ∧ q105 ∧ ∃ (y : Nat), y ≤ q83 ∧ q83 - y < q83 - x_3 ∧ q104 = (↑y : Int) ∧ q102 = q80 + (↑y : Int) ∧ q93 = (Sp.outN q26 q18 (q79 + y), q27) ∧ q84)) ∧
                                                                      (q94 = false →
                                                                        ((True ∧ inK IntKind.i64 q88 ∧ True ∧ True) ∧ True) ∧
                                                                          ∃ (y : Nat),
                                                                            let q106 : Nat := Sp.total (List.take y x.2.1.1);
                                                                            y ≤ q19 ∧ q19 - y < q19 - x_2 ∧ q88 = (↑y : Int) ∧ q91 = (↑q106 : Int) ∧ q93 = (Sp.outN q26 q18 q106, q27) ∧ q76)) ∧
                                                      (q82 = false → ((True ∧ True ∧ True ∧ q77 ≤ (1000000 : Nat) ∧ True) ∧ True) ∧ (q90 = true → q74) ∧ (q90 = false → ((True ∧ True ∧ (↑(q8 + q77) : Int) ≤ maxNew ∧ True ∧ True ∧ (↑(q77 + q89.length) : Int) ≤ maxNew ∧ True ∧ True) ∧ True) ∧ q31 ++ q89 = q25))))) := by kernel_rfl
theorem vc4 : (funI C4 (stpS C4) S4 L4 Try.f4) = (
let q0 : Prop := (True ∧ True) ∧ True;
let q1 : Prop := True ∧ True ∧ True;
let q2 : Prop := q1 ∧ True;
let q3 : Int := (4 : Int);
let q4 : Int := (0 : (Ty.int IntKind.i64).den);
let q5 : Nat := (1000000 : Nat);
let q6 : Int := (0 : Int);
let q7 : List Int := List.replicate (3 : Nat) q6;
let q8 : Prop := Sp.exOK = Sp.exOK;
let q9 : Prop := True ∧ q1;
let q10 : Int := (1 : Int);
∀ (x : List (List Int) × Unit),
  let q11 : Nat := Sp.total (Sp.madeP x.1 q3);
  let q12 : Nat := (Sp.madeP x.1 q3).length;
  let q13 : Int := (↑q12 : Int);
  let q14 : Int := (↑q11 : Int);
  let q15 : List Int := List.replicate q13.toNat q6;
  let q16 : Nat := Sp.iLeft (Sp.made x.1 q3) q15;
  let q17 : List Int := List.replicate q14.toNat q6;
  let q18 : Nat := (Sp.madeP x.1 q3).length;
  let q19 : List (List Int × List Int × Unit) := Sp.outs (Sp.made x.1 q3);
  let q20 : Int := Sp.errA (Sp.made x.1 q3);
  let q21 : List (List Int × List Int × Unit) × Int × Unit := (q19, q20, ());
  let q22 : List (List Int × List Int × Unit) := Sp.ilv q16 (([] : List tOut.den)) (Sp.made x.1 q3) q15 q7 q17;
  let q23 : Prop := q8 ∧ Sp.made x.1 q3 = Sp.made x.1 q3 ∧ q21 = q21 ∧ q22 = q22 ∧ True;
  let q24 : Bool := q20 == q6;
  let q25 : Prop := (true && bif q24 then true else false) = true;
  let q26 : Prop := q25 → True;
  let q27 : Nat := q19.length;
  let q28 : Bool := bif q24 then Sp.inside q22 q19 else false;
  let q29 : Bool := true && bif q28 then true else false;
  let q30 : Prop := q29 = true → True;
  True →
    dFact (Ty.arr (4 : Nat) (Ty.int IntKind.u8)).slice x.1 ∧ True →
      q0 ∧
        q2 ∧
          q2 ∧
            ((!Sp.exOK) = true → q0 ∧ false = true) ∧
              ((!Sp.exOK) = false →
                ((True ∧ ((0 : (AK.val tI).den) ≤ q3 ∧ q3 ≤ (6 : (AK.val tI).den)) ∧ True ∧ True) ∧ True ∧ True) ∧
                  ((True ∧ q11 ≤ (1000 : Nat) ∧ True ∧ True) ∧ True ∧ True) ∧
                    ((True ∧ True ∧ True ∧ True ∧ (q4 ≤ q13 ∧ q13 ≤ q13 ∧ q13 ≤ maxNew) ∧ True ∧ True ∧ q11 ≤ q5 ∧ (q4 ≤ q14 ∧ q14 ≤ q14 ∧ q14 ≤ maxNew) ∧ Sp.iOk q16 (([] : List tOut.den)) (Sp.made x.1 q3) q15 q7 q17 ∧ True ∧ True) ∧ True) ∧
                      q0 ∧
                        q0 ∧
                          (∃ (x_1 : Nat), x_1 ≤ q18 ∧ q6 = (↑x_1 : Int) ∧ q6 = (↑(Sp.busyN (Sp.madeP x.1 q3) x_1) : Int) ∧ q23) ∧
                            ∀ (x_1 : Nat),
                              let q31 : Int := (↑(Sp.busyN (Sp.madeP x.1 q3) x_1) : Int);
                              let q32 : Bool := decide ((↑x_1 : Int) < q13);
                              let q33 : Bool := decide ((↑(List.length ((Sp.madeP x.1 q3).getD (↑x_1 : Int).toNat (([] : List tLOp.den)))) : Int) > q6);
                              let q34 : Int := q31 + q10;
                              let q35 : Int := (↑x_1 : Int) + q10;
                              let q36 : Prop := (True ∧ inK IntKind.i64 q35 ∧ True ∧ True) ∧ True;
                              let q37 : Bool := decide (q31 > q10);
                              let q38 : Prop := (q29 && bif q37 then false else true) = true → True;
                              let q39 : Bool := bif q28 then bif q37 then true else (↑q27 : Int) == q10 else false;
                              x_1 ≤ q18 → dFact (Ty.int IntKind.i64) (↑x_1 : Int) ∧ dFact (Ty.int IntKind.i64) q31 ∧ True → ((True ∧ True ∧ q9) ∧ True) ∧ (q32 = true → ((True ∧ True ∧ True ∧ inN (↑x_1 : Int) q12 ∧ q9) ∧ True) ∧ (q33 = true → ((True ∧ inK IntKind.i64 q34 ∧ True ∧ True) ∧ True) ∧ q36 ∧ ∃ (y : Nat), y ≤ q18 ∧ q18 - y < q18 - x_1 ∧ q35 = (↑y : Int) ∧ q34 = (↑(Sp.busyN (Sp.madeP x.1 q3) y) : Int) ∧ q23) ∧ (q33 = false → q36 ∧ ∃ (y : Nat), y ≤ q18 ∧ q18 - y < q18 - x_1 ∧ q35 = (↑y : Int) ∧ q31 = (↑(Sp.busyN (Sp.madeP x.1 q3) y) : Int) ∧ q23)) ∧ (q32 = false → ((True ∧ True ∧ True ∧ True ∧ q26 ∧ q26 ∧ q26 ∧ (q25 → q27 ≤ q5) ∧ True ∧ True ∧ q30 ∧ q30 ∧ q30 ∧ q38 ∧ q38 ∧ q38 ∧ q38 ∧ q30 ∧ True ∧ True ∧ ((true && bif q39 then true else false) = true → True) ∧ q1) ∧ True) ∧ (bif q39 then Sp.exOK else false) = true))) := by kernel_rfl
end Go.User
namespace Sp
open Go.Lf
theorem ilvC_succ (n : Nat) (l : List Out) (t : Lit) (pc mem r : List Int) (c : Nat) : ilvC n l t pc mem r (c + 1) = if iBusy t pc c = true then ilv (n - 1) (ilvC n l t pc mem r c) t (iPc pc c) (iMem t pc mem c) (iR t pc mem r c) else ilvC n l t pc mem r c := by
  unfold ilvC; rw [List.range_succ, List.foldl_append]; rfl
theorem addL_len (l : List Out) (o : Out) : (addL l o).length ≤ l.length + 1 := by
  unfold addL; split
  · omega
  · rw [List.length_append]; exact Nat.le_refl _
theorem fold_len {f : List Out → Nat → List Out} {m : Nat} (h : ∀ l c, (f l c).length ≤ l.length + m) : ∀ (cs : List Nat) (l : List Out), (cs.foldl f l).length ≤ l.length + cs.length * m
  | [], l => by simp
  | c :: cs, l => by
    rw [List.foldl_cons, List.length_cons, Nat.succ_mul]
    have h1 := fold_len h cs (f l c)
    have h2 := h l c
    omega
theorem ilv_len : ∀ (n : Nat) (l : List Out) (t : Lit) (pc mem r : List Int), t.1.length ≤ 4 → (ilv n l t pc mem r).length ≤ l.length + 4 ^ n
  | 0, l, t, pc, mem, r, h => addL_len _ _
  | n + 1, l, t, pc, mem, r, h => by
    have hp : 1 ≤ 4 ^ (n + 1) := Nat.one_le_pow _ _ (by omega)
    unfold ilv
    split
    · have := addL_len l (iFin t mem r); omega
    · have := fold_len (f := fun l c => if iBusy t pc c = true then ilv n l t (iPc pc c) (iMem t pc mem c) (iR t pc mem r c) else l) (m := 4 ^ n) (fun l c => by
        split
        · exact ilv_len n l t _ _ _ h
        · omega) (List.range t.1.length) l
      rw [List.length_range] at this
      have h4 : t.1.length * 4 ^ n ≤ 4 * 4 ^ n := Nat.mul_le_mul_right _ h
      rw [Nat.pow_succ, Nat.mul_comm (4 ^ n)]
      omega
theorem ilvC_len (n : Nat) (l : List Out) (t : Lit) (pc mem r : List Int) (c : Nat) (h : t.1.length ≤ 4) : (ilvC n l t pc mem r c).length ≤ l.length + c * 4 ^ (n - 1) := by
  have := fold_len (f := fun l c => if iBusy t pc c = true then ilv (n - 1) l t (iPc pc c) (iMem t pc mem c) (iR t pc mem r c) else l) (m := 4 ^ (n - 1)) (fun l c => by
    split
    · exact ilv_len _ l t _ _ _ h
    · exact Nat.le_add_right _ _) (List.range c) l
  rw [List.length_range] at this
  exact this
theorem ilvC_idle {n : Nat} {l : List Out} {t : Lit} {pc mem r : List Int} : ∀ {c : Nat}, iDone t pc c = true → ilvC n l t pc mem r c = l
  | 0, _ => rfl
  | c + 1, h => by
    have h1 := iDone_iff.1 h
    rw [ilvC_succ, if_neg (by rw [h1 c (by omega)]; decide)]
    exact ilvC_idle (iDone_iff.2 fun k hk => h1 k (by omega))
theorem iDone_succ (t : Lit) (pc : List Int) (c : Nat) : iDone t pc (c + 1) = (iDone t pc c && !iBusy t pc c) := by
  unfold iDone; rw [List.range_succ, List.all_append]; simp
theorem iLeft_step {t : Lit} {pc : List Int} {c : Nat} (hl : pc.length = t.1.length) (hc : c < t.1.length) (h0 : 0 ≤ pc.getD c 0) (hb : iBusy t pc c = true) : iLeft t (iPc pc c) + 1 = iLeft t pc := by
  have hb := of_decide_eq_true hb
  unfold iLeft iPc
  refine sum_one (c := c) hc ?_ fun k hk => ?_
  · rw [getD_setI (by omega), if_pos rfl]; omega
  · rw [getD_setI (by omega), if_neg hk]
theorem iLeft_pos {t : Lit} {pc : List Int} {c : Nat} (hc : c < t.1.length) (h0 : 0 ≤ pc.getD c 0) (hb : iBusy t pc c = true) : 1 ≤ iLeft t pc := by
  have hb := of_decide_eq_true hb
  have := sum_le_mem (l := (List.range t.1.length).map fun (c : Nat) => (t.1.getD c []).length - (pc.getD c 0).toNat) (a := (t.1.getD c []).length - (pc.getD c 0).toNat) (List.mem_map.2 ⟨c, List.mem_range.2 hc, rfl⟩)
  unfold iLeft; omega
theorem iLeft_zero {t : Lit} {pc : List Int} (hp : ∀ c, c < t.1.length → 0 ≤ pc.getD c 0) (h : iLeft t pc = 0) : iDone t pc t.1.length = true := by
  refine iDone_iff.2 fun k hk => ?_
  cases hb : iBusy t pc k
  · rfl
  · have := iLeft_pos hk (hp k hk) hb; omega
theorem iOk.step {n : Nat} {l l' : List Out} {t : Lit} {pc mem r : List Int} (h : iOk n l t pc mem r) {c : Nat} (hc : c < t.1.length) (hb : iBusy t pc c = true) (hl : l'.length + 4 ^ (n - 1) ≤ 900000) :
    1 ≤ n ∧ iOk (n - 1) l' t (iPc pc c) (iMem t pc mem c) (iR t pc mem r c) := by
  have hp := h.pcr c hc
  have hb' := of_decide_eq_true hb
  have h1 := iLeft_pos hc hp.1 hb
  have h2 := iLeft_step h.pcl hc hp.1 hb
  rw [h.left] at h1 h2
  have hus : usual (iOp t pc c) = true := opAt_usual h.val hc (by unfold lenAt; omega)
  have hv := usual_val hus
  have hmem : ∀ v ∈ mem, -(100 * ((total t.1 : Int) - ((n - 1 : Nat) : Int))) ≤ v ∧ v ≤ 100 * ((total t.1 : Int) - ((n - 1 : Nat) : Int)) := fun v hv => by have := h.mv v hv; omega
  have hnt : n ≤ total t.1 := by
    have h0 : iLeft t pc ≤ total t.1 := by
      unfold iLeft total
      have key : ∀ m, m ≤ t.1.length → ((List.range m).map fun (c : Nat) => (t.1.getD c []).length - (pc.getD c 0).toNat).sum ≤ ((t.1.take m).map List.length).sum := by
        intro m
        induction m with
        | zero => intro _; exact Nat.le_refl _
        | succ m ih =>
          intro hm
          have := ih (by omega)
          rw [List.range_succ, Pl.take_succ (by omega : m < t.1.length) [], List.map_append, List.map_append, List.sum_append, List.sum_append]
          simp only [List.map_cons, List.map_nil, List.sum_cons, List.sum_nil, Nat.add_zero]
          omega
      have := key _ (Nat.le_refl _)
      rw [List.take_length] at this; exact this
    rw [h.left] at h0; exact h0
  refine ⟨h1, h.val, h.tot, by unfold iPc; rw [List.length_set]; exact h.pcl, ?_, by omega, ?_, ?_, ?_, hl⟩
  · intro k hk
    unfold iPc
    rw [getD_setI (by rw [h.pcl]; exact hc)]
    split
    · rename_i e; rw [e]; omega
    · exact h.pcr k hk
  · unfold iMem
    split
    · rw [List.length_set]; exact h.ml
    · split
      · rw [List.length_set]; exact h.ml
      · exact h.ml
  · intro v hv'
    unfold iMem at hv'
    split at hv'
    · rcases List.mem_or_eq_of_mem_set hv' with h3 | h3
      · exact hmem v h3
      · rw [h3]; omega
    · split at hv'
      · rcases List.mem_or_eq_of_mem_set hv' with h3 | h3
        · exact hmem v h3
        · have hX := usual_place hus
          have hm := h.mv (mem.getD (iOp t pc c).2.1.toNat 0) (Pl.getD_mem (by rw [h.ml]; omega) 0)
          rw [h3]; omega
      · exact hmem v hv'
  · unfold iR
    split
    · rw [List.length_set]; exact h.rl
    · exact h.rl
theorem busyN_succ {P : List (List LOp)} {c : Nat} (h : c < P.length) : busyN P (c + 1) = if 0 < (P.getD c []).length then busyN P c + 1 else busyN P c := by
  unfold busyN
  rw [Pl.take_succ h [], List.filter_append, List.length_append]
  generalize P.getD c [] = a
  by_cases h0 : 0 < a.length
  · rw [if_pos h0]
    have : [a].filter (fun l => decide (0 < l.length)) = [a] := List.filter_eq_self.2 fun b hb => by rw [List.mem_singleton.1 hb]; exact decide_eq_true h0
    rw [this]; rfl
  · rw [if_neg h0]
    have : [a].filter (fun l => decide (0 < l.length)) = [] := List.filter_eq_nil_iff.2 fun b hb => by rw [List.mem_singleton.1 hb, decide_eq_false h0]; decide
    rw [this]; rfl
end Sp
namespace Go.User
open Go.Lf Go.Proofs
set_option maxRecDepth 100000 in
theorem ok17s (n : Nat) (hk : FOk Try.prog 17 (S17k n)) : FOk Try.prog 17 (S17 n) := by
  have hC : CtxOK Try.prog (C17 n) := okC (fns_cons ok15 (fns_cons hk fns_nil)) rfl rfl rfl rfl rfl rfl rfl
  refine FOk.intro hC (stpS_ok hC) Try.call17 Try.func17 (by kernel_rfl) (by kernel_rfl) (L17 n) (vc17.mpr (fun n => ?_) n)
  simp only [z1, z2, z3, z4, z5, z6, z7, z8, z9, z10, z11, z12, z13, z14, z15, z16, z17, z18, z19, z20, z21, z22, z23, z24, z25, z26, z27, z28, z29, z30, z31, z32, z33, z34, z35, z36, z37, z38]
  rintro ⟨l, t, pc, mem, r, u⟩ h hkk
  have h : Sp.iOk n l t pc mem r := h
  clear hkk
  obtain ⟨v1, v2, v3, v4, v5⟩ := Sp.valid_iff.1 h.val
  have hmx : maxNew = 2147483648 := rfl
  dsimp only
  have htk : ∀ c, Sp.total (t.1.take c) ≤ 6 := by
    intro c
    have : Sp.total t.1 = Sp.total (t.1.take c) + Sp.total (t.1.drop c) := by rw [← Sp.total_app, List.take_append_drop]
    omega
  refine ⟨⟨0, Nat.zero_le _, rfl, rfl, rfl, rfl⟩, fun c hc hck => ⟨fun hlt => ?_, fun hge => ?_⟩⟩
  · have hlt : (c : Int) < (t.1.length : Int) := hlt
    have hcl : c < t.1.length := by omega
    have hin : inN (c : Int) t.1.length := inN_of hlt
    have hinp : inN (c : Int) pc.length := by rw [h.pcl]; exact hin
    have hp := h.pcr c hcl
    have hts := Sp.total_takeS hcl
    have htk1 := htk (c + 1)
    have htot : ((Sp.total (t.1.take c) : Nat) : Int) + (((t.1.getD c []).length : Nat) : Int) = ((Sp.total (t.1.take (c + 1)) : Nat) : Int) := by omega
    have hkt : inK IntKind.i64 (((Sp.total (t.1.take c) : Nat) : Int) + (((t.1.getD c []).length : Nat) : Int)) := by rw [htot]; exact inK_mid (by omega) (by omega)
    have hkc : inK IntKind.i64 ((c : Int) + 1) := inK_mid (by omega) (by omega)
    refine ⟨⟨hinp, hin⟩, fun hb => ?_, fun hb => ?_⟩
    · have hbusy : Sp.iBusy t pc c = true := decide_eq_true hb
      have hb : pc.getD c 0 < (((t.1.getD c []).length : Nat) : Int) := hb
      have hus : Sp.usual (Sp.iOp t pc c) = true := Sp.opAt_usual h.val hcl (by unfold Sp.lenAt; omega)
      have hX := Sp.usual_place hus
      have hV := Sp.usual_val hus
      have hcl2 := Sp.ilvC_len n l t pc mem r c v2
      have hLl : (Sp.ilvC n l t pc mem r c).length + 4 ^ (n - 1) ≤ 900000 := by
        have h1 := Sp.iLeft_pos hcl hp.1 hbusy
        rw [h.left] at h1
        have hll := h.ll
        obtain ⟨k, rfl⟩ : ∃ k, n = k + 1 := ⟨n - 1, by omega⟩
        rw [Nat.add_sub_cancel] at hcl2 ⊢
        rw [Nat.pow_succ] at hll
        have : c * 4 ^ k ≤ 3 * 4 ^ k := Nat.mul_le_mul_right _ (by omega)
        omega
      have hst := h.step hcl hbusy hLl
      have hnext : Sp.ilv (n - 1) (Sp.ilvC n l t pc mem r c) t (Sp.iPc pc c) (Sp.iMem t pc mem c) (Sp.iR t pc mem r c) = Sp.ilvC n l t pc mem r (c + 1) := by
        rw [Sp.ilvC_succ, if_pos hbusy]
      have hdone : false = Sp.iDone t pc (c + 1) := by rw [Sp.iDone_succ, hbusy]; simp
      have call : ∀ m' r', m' = Sp.iMem t pc mem c → r' = Sp.iR t pc mem r c → ((1 ≤ n ∧ Sp.iOk (n - 1) (Sp.ilvC n l t pc mem r c) t (pc.set c (pc.getD c 0 + 1)) m' r') ∧ (inN (c : Int) t.1.length ∧ inK IntKind.i64 (((Sp.total (t.1.take c) : Nat) : Int) + (((t.1.getD c []).length : Nat) : Int))) ∧ inK IntKind.i64 ((c : Int) + 1) ∧ ∃ y, y ≤ t.1.length ∧ t.1.length - y < t.1.length - c ∧ (c : Int) + 1 = (y : Int) ∧ ((Sp.total (t.1.take c) : Nat) : Int) + (((t.1.getD c []).length : Nat) : Int) = ((Sp.total (t.1.take y) : Nat) : Int) ∧ false = Sp.iDone t pc y ∧ Sp.ilv (n - 1) (Sp.ilvC n l t pc mem r c) t (pc.set c (pc.getD c 0 + 1)) m' r' = Sp.ilvC n l t pc mem r y) := by
        rintro m' r' rfl rfl
        exact ⟨hst, ⟨hin, hkt⟩, hkc, c + 1, by omega, by omega, by omega, htot, hdone, hnext⟩
      have hX3 : inN (Sp.iOp t pc c).2.1 3 := ⟨hX.1, hX.2⟩
      have hpi : inN (pc.getD c 0) (t.1.getD c []).length := ⟨hp.1, hb⟩
      have hml : mem.getD (Sp.iOp t pc c).2.1.toNat 0 ∈ mem := Pl.getD_mem (by rw [h.ml]; omega) 0
      have hmv := h.mv _ hml
      have hsum : inK IntKind.i64 (mem.getD (Sp.iOp t pc c).2.1.toNat 0 + (Sp.iOp t pc c).2.2.1) := inK_mid (by omega) (by omega)
      have hev : inK IntKind.i64 (((Sp.total (t.1.take c) : Nat) : Int) + pc.getD c 0) := inK_mid (by omega) (by omega)
      have hevr : inN (((Sp.total (t.1.take c) : Nat) : Int) + pc.getD c 0) r.length := by
        rw [h.rl]
        have := Sp.bas_lt (t := t) hcl hb
        exact ⟨by omega, this⟩
      have hpl := h.pcl
      have hrl := h.rl
      refine ⟨⟨hin, hinp, hpi⟩, ⟨by omega, by omega⟩, ⟨hinp, inK_mid (by omega) (by omega), hinp⟩, fun hrd => ⟨⟨hinp, hev, hX3, hevr⟩, ?_⟩, fun hrd => ?_⟩
      · have hrd : (Sp.iOp t pc c).1 = 1 ∨ (Sp.iOp t pc c).1 = 3 := by
          have hrd : ((Sp.iOp t pc c).1 == 1 || (Sp.iOp t pc c).1 == 3) = true := hrd
          simpa using hrd
        have eR : r.set (((Sp.total (t.1.take c) : Nat) : Int) + pc.getD c 0).toNat (mem.getD (Sp.iOp t pc c).2.1.toNat 0) = Sp.iR t pc mem r c := by unfold Sp.iR; rw [if_pos hrd]
        refine ⟨fun h2 => ?_, fun h2 => ⟨fun h3 => ⟨⟨hX3, hsum, hX3⟩, call _ _ ?_ eR⟩, fun h3 => call _ _ ?_ eR⟩⟩
        · have h2 : (Sp.iOp t pc c).1 = 2 := h2
          omega
        · have h2 : ¬ (Sp.iOp t pc c).1 = 2 := h2
          have h3 : (Sp.iOp t pc c).1 = 3 := h3
          unfold Sp.iMem; rw [if_neg h2, if_pos h3]; rfl
        · have h2 : ¬ (Sp.iOp t pc c).1 = 2 := h2
          have h3 : ¬ (Sp.iOp t pc c).1 = 3 := h3
          unfold Sp.iMem; rw [if_neg h2, if_neg h3]
      · have hrd : ¬ ((Sp.iOp t pc c).1 = 1 ∨ (Sp.iOp t pc c).1 = 3) := fun h => h.elim hrd.1 hrd.2
        have eR : r = Sp.iR t pc mem r c := by unfold Sp.iR; rw [if_neg hrd]
        refine ⟨fun h2 => ⟨hX3, fun h3 => ?_, fun h3 => call _ _ ?_ eR⟩, fun h2 => ⟨fun h3 => ?_, fun h3 => call _ _ ?_ eR⟩⟩
        · have h3 : (Sp.iOp t pc c).1 = 3 := h3
          exact absurd (.inr h3) hrd
        · have h2 : (Sp.iOp t pc c).1 = 2 := h2
          unfold Sp.iMem; rw [if_pos h2]; rfl
        · have h3 : (Sp.iOp t pc c).1 = 3 := h3
          exact absurd (.inr h3) hrd
        · have h2 : ¬ (Sp.iOp t pc c).1 = 2 := h2
          have h3 : ¬ (Sp.iOp t pc c).1 = 3 := h3
          unfold Sp.iMem; rw [if_neg h2, if_neg h3]
    · have hb : (((t.1.getD c []).length : Nat) : Int) ≤ pc.getD c 0 := hb
      have hbusy : Sp.iBusy t pc c = false := decide_eq_false (by omega)
      refine ⟨⟨hin, hkt⟩, hkc, c + 1, by omega, by omega, by omega, htot, ?_, ?_⟩
      · rw [Sp.iDone_succ, hbusy]; simp
      · rw [Sp.ilvC_succ, if_neg (by rw [hbusy]; decide)]
  · have hge : (t.1.length : Int) ≤ (c : Int) := hge
    have hcN : c = t.1.length := by omega
    subst hcN
    refine ⟨fun hd => ?_, fun hd => ⟨⟨⟨by decide, by decide⟩, ⟨by decide, by decide⟩, ⟨by decide, by decide⟩⟩, ⟨0, Nat.zero_le _, rfl, rfl, rfl⟩, fun d hd' hdk => ⟨fun hdl => ⟨⟨0, Nat.zero_le _, rfl, rfl, rfl⟩, fun i hi hik => ?_⟩, fun hdg => ?_⟩⟩⟩
    · have hd : Sp.iDone t pc t.1.length = false := hd
      have hn : n ≠ 0 := by
        intro h0
        have := Sp.iLeft_zero (fun c hc => (h.pcr c hc).1) (by rw [h.left]; exact h0)
        rw [hd] at this; cases this
      obtain ⟨k, rfl⟩ : ∃ k, n = k + 1 := ⟨n - 1, by omega⟩
      show _ = Sp.ilv (k + 1) l t pc mem r
      unfold Sp.ilv
      rw [if_neg (by rw [hd]; decide)]; rfl
    · have hdl : (d : Int) < (t.1.length : Int) := hdl
      have hdl' : d < t.1.length := by omega
      have hin : inN (d : Int) t.1.length := inN_of hdl
      have hts := Sp.total_takeS hdl'
      have htk1 := htk (d + 1)
      have hel := Sp.el_total (P := t.1) (c := d)
      refine ⟨hin, fun hil => ?_, fun hig => ?_⟩
      · have hii : inN (i : Int) (t.1.getD d []).length := inN_of hil
        have hil : (i : Int) < (((t.1.getD d []).length : Nat) : Int) := hil
        have hcat := Sp.cat_get (P := t.1) hdl' (j := i) (by omega)
        have hrlt := Sp.bas_lt (t := t) (c := d) (i := (i : Int)) hdl' hil
        unfold Sp.bas at hrlt
        have hon := Sp.outN_len (Sp.cat t.1) r (Sp.total (t.1.take d) + i)
        have hsu := Sp.outN_succ (Sp.cat t.1) r (Sp.total (t.1.take d) + i)
        rw [hcat] at hsu
        have k1 : inK IntKind.i64 (((Sp.total (t.1.take d) : Nat) : Int) + (i : Int) + 1) := inK_mid (by omega) (by omega)
        have k2 : inK IntKind.i64 ((i : Int) + 1) := inK_mid (by omega) (by omega)
        refine ⟨⟨hin, hii, fun _ => hin, fun _ => hii⟩, fun hrd => ⟨⟨?_, by omega⟩, k1, k2, i + 1, by omega, by omega, by omega, by omega, ?_⟩, fun hrd => ⟨k1, k2, i + 1, by omega, by omega, by omega, by omega, ?_⟩⟩
        · rw [h.rl]; exact ⟨by omega, hrlt⟩
        · have hrd : ((t.1.getD d []).getD i Sp.op0).1 = 1 ∨ ((t.1.getD d []).getD i Sp.op0).1 = 3 := by
            have hrd : (((t.1.getD d []).getD i Sp.op0).1 == 1 || ((t.1.getD d []).getD i Sp.op0).1 == 3) = true := hrd
            simpa using hrd
          have e : (((Sp.total (t.1.take d) : Nat) : Int) + (i : Int)).toNat = Sp.total (t.1.take d) + i := by omega
          rw [if_pos hrd] at hsu
          rw [e, ← Nat.add_assoc, hsu]
        · have hrd : ¬ (((t.1.getD d []).getD i Sp.op0).1 = 1 ∨ ((t.1.getD d []).getD i Sp.op0).1 = 3) := fun h => h.elim hrd.1 hrd.2
          rw [if_neg hrd, List.append_nil] at hsu
          rw [← Nat.add_assoc, hsu]
      · have hig : (((t.1.getD d []).length : Nat) : Int) ≤ (i : Int) := hig
        have hi : i ≤ (t.1.getD d []).length := hi
        have e : i = (t.1.getD d []).length := by omega
        refine ⟨inK_mid (by omega) (by omega), d + 1, by omega, by omega, by omega, by omega, ?_⟩
        rw [hts, e]
    · have hdg : (t.1.length : Int) ≤ (d : Int) := hdg
      have e : d = t.1.length := by omega
      subst e
      have hd : Sp.iDone t pc t.1.length = true := hd
      have hL : Sp.ilvC n l t pc mem r t.1.length = l := Sp.ilvC_idle hd
      have hF : (Sp.outN (Sp.cat t.1) r (Sp.total (t.1.take t.1.length)), Sp.iLast mem, ()) = Sp.iFin t mem r := by unfold Sp.iFin; rw [List.take_length]
      have hA : Sp.ilv n l t pc mem r = Sp.addL l (Sp.iFin t mem r) := by
        cases n with
        | zero => rfl
        | succ k => unfold Sp.ilv; rw [if_pos hd]
      have hll := h.ll
      have hll : l.length ≤ 900000 := Nat.le_trans (Nat.le_add_right _ _) hll
      rw [hL, hF, hA]
      unfold Sp.addL
      refine ⟨by omega, fun hi => ?_, fun hi => ⟨⟨by omega, by omega⟩, ?_⟩⟩
      · rw [if_pos hi]
      · have hi : Sp.inside [Sp.iFin t mem r] l = false := hi
        rw [if_neg (by rw [hi]; decide)]
theorem ok17 : ∀ n, FOk Try.prog 17 (S17 n)
  | 0 => ok17s 0 ⟨Try.call17, fun w F vs xs _ _ hp => absurd hp.1 (by omega)⟩
  | n + 1 => ok17s (n + 1) ⟨(ok17 n).1, fun w F vs xs h1 h2 hp => (ok17 n).2 w F vs xs h1 h2 hp.2⟩
theorem ok17a : FOk Try.prog 17 S17a :=
  ⟨(ok17 0).1, fun w F vs xs h1 h2 hp => (ok17 (Sp.iLeft xs.2.1 xs.2.2.1)).2 w F vs xs h1 h2 hp⟩
set_option maxRecDepth 100000 in
theorem ok4 : FOk Try.prog 4 S4 := by
  have hC : CtxOK Try.prog C4 := okC (fns_cons ok11 (fns_cons ok12 (fns_cons ok13 (fns_cons ok17a (fns_cons ok18 (fns_cons ok15 fns_nil)))))) rfl rfl rfl rfl rfl rfl rfl
  refine FOk.intro hC (stpS_ok hC) Try.call4 Try.func4 (by kernel_rfl) (by kernel_rfl) L4 (vc4.mpr ?_)
  simp only [z1, z2, z3, z4, z5, z6, z7, z8, z9, z10, z11, z12, z13, z14, z15, z16, z17, z18, z19, z20, z21, z22, z23, z24, z25, z26, z27, z28, z29, z30, z31, z32, z33, z34, z35, z36, z37, z38]
  have hex := ex_ok
  have hmx : maxNew = 2147483648 := rfl
  rintro ⟨x, u⟩ hk
  have hM := Sp.total_made (x := x) (n := 4) (by omega) (by omega)
  have hv := Sp.made_valid (x := x) (n := 4) (by omega) (by omega)
  have ht := Sp.made_total (x := x) (n := 4) (by omega) (by omega)
  have hmd : Sp.made x 4 = (Sp.madeP x 4, ()) := rfl
  dsimp only
  rw [hmd] at hv ht ⊢
  generalize Sp.madeP x 4 = P at hM hv ht ⊢
  obtain ⟨m1, m2, m3, m4⟩ := hM
  have ht : (Sp.total P : Int) ≤ 4 := ht
  clear hk hmd
  have hint := Sp.interleaves hv
  have hsm := Sp.outs_small hv
  have hlen := Sp.outs_len (t := (P, ()))
  have h28 : 28 ^ Sp.total P ≤ 28 ^ 4 := Nat.pow_le_pow_right (by omega) (by omega)
  have h284 : 28 ^ 4 = 614656 := by decide
  have ht0 : Sp.total ((P, ()) : Sp.Lit).1 = Sp.total P := rfl
  rw [ht0] at hlen
  have z : ∀ n k, (List.replicate n (0 : Int)).getD k 0 = 0 := by
    intro n k
    by_cases h : k < n
    · exact Sp.rep_get h _ _
    · exact Pl.getD_out (by rw [List.length_replicate]; omega) _
  have hleft : Sp.iLeft (P, ()) (List.replicate P.length 0) = Sp.total P := by
    have h1 := (Sp.start_isim hv).left
    rw [Sp.start_left] at h1
    exact h1.symm
  have hok : Sp.iOk (Sp.iLeft (P, ()) (List.replicate P.length 0)) [] (P, ()) (List.replicate P.length 0) (List.replicate 3 0) (List.replicate (Sp.total P) 0) := by
    refine ⟨hv, by show Sp.total P ≤ 5; omega, List.length_replicate, fun c hc => by rw [z]; exact ⟨Int.le_refl _, Int.natCast_nonneg _⟩, rfl, rfl, fun v hv => ?_, List.length_replicate, ?_⟩
    · rw [List.eq_of_mem_replicate hv, hleft]
      show -(100 * ((Sp.total P : Int) - (Sp.total P : Int))) ≤ 0 ∧ 0 ≤ 100 * ((Sp.total P : Int) - (Sp.total P : Int))
      omega
    · rw [hleft]
      have : 4 ^ Sp.total P ≤ 4 ^ 4 := Nat.pow_le_pow_right (by omega) (by omega)
      have : 4 ^ 4 = 256 := by decide
      show 0 + 4 ^ Sp.total P ≤ 900000
      omega
  have hE := Sp.errA_zero hv
  have hint : ∀ o ∈ Sp.ilv (Sp.iLeft (P, ()) (List.replicate P.length 0)) [] (P, ()) (List.replicate P.length 0) (List.replicate 3 0) (List.replicate (Sp.total P) 0), o ∈ Sp.outs (P, ()) := hint
  generalize Sp.ilv (Sp.iLeft (P, ()) (List.replicate P.length 0)) [] (P, ()) (List.replicate P.length 0) (List.replicate 3 0) (List.replicate (Sp.total P) 0) = L at hint ⊢
  have hbn : ∀ c, Sp.busyN P c ≤ P.length := by
    intro c
    unfold Sp.busyN
    have h1 := List.length_filter_le (fun l : List Sp.LOp => decide (0 < l.length)) (P.take c)
    rw [List.length_take] at h1; omega
  refine ⟨fun h => absurd hex (by rw [h]; decide), fun _ => ⟨by decide, by omega, ⟨⟨by omega, by omega, by omega⟩, by omega, ⟨by omega, by omega, by omega⟩, hok⟩, ⟨0, Nat.zero_le _, rfl, rfl⟩, fun c hc _ => ⟨fun hlt => ?_, fun hge => ⟨fun _ => by omega, ?_⟩⟩⟩⟩
  · have hlt : (c : Int) < (P.length : Int) := hlt
    have hs := Sp.busyN_succ (P := P) (c := c) (by omega)
    have hb := hbn c
    refine ⟨inN_of hlt, fun h0 => ⟨inK_mid (by omega) (by omega), inK_mid (by omega) (by omega), c + 1, by omega, by omega, by omega, ?_⟩, fun h0 => ⟨inK_mid (by omega) (by omega), c + 1, by omega, by omega, by omega, ?_⟩⟩
    · have h0 : 0 < (((P.getD c []).length : Nat) : Int) := h0
      rw [if_pos (by omega)] at hs; omega
    · have h0 : (((P.getD c []).length : Nat) : Int) ≤ 0 := h0
      rw [if_neg (by omega)] at hs; omega
  · have hge : (P.length : Int) ≤ (c : Int) := hge
    have e : c = P.length := by omega
    subst e
    have hin : Sp.inside L (Sp.outs (P, ())) = true := Sp.inside_of (Sp.outs_sorted _) (fun o ho => hsm o (hint o ho)) hsm hint
    refine ⟨⟨⟨hE, hin⟩, ?_⟩, hex⟩
    by_cases hb : 1 < Sp.busyN P P.length
    · rw [Bool.or_eq_true, decide_eq_true_eq]; left; omega
    · have := Sp.single_out hv (by show Sp.busyN P P.length ≤ 1; omega)
      rw [Bool.or_eq_true]; right
      rw [this]; rfl
end Go.User
namespace Go.Proofs.Ythhclebbpbkgdaa
open Go.ChangeShapes Go.WideShapes Go.ChangeAt Go.RowKit Go.Proofs Go.Lf

set_option maxRecDepth 100000 in
theorem viewInterleaves_lifted (hF : FOk Try.prog 4 Go.User.S4) (os : Os) (started : os.Started) (H : Type) (enc : TypeId × Value → H) :
    ReturnsInHanded {} Try.checked os 4 .any (Rows.viewInterleavesSpec.pre6 enc Try.prog Try.f4 Rows.viewInterleavesRow.domain false) (Rows.viewInterleavesSpec.post enc Try.prog Try.f4 false true false false) := by
  refine returnsInHanded_of_change_sized (C := Try.checked) Try.own started (by kernel_rfl) Try.func4
    (ChangeSpec.witness6 (enc := enc) (C := Try.checked) false ⟨#[], #[.slice none 0 0], []⟩ 8 (by kernel_rfl) (by kernel_rfl) (by kernel_rfl) (by kernel_rfl)) ?_
  intro W base args ds gs before hval0 hW _ hsz0 _
  have hsz : (DataW.weightsEach Try.prog (Try.f4.params.toList ++ Rows.viewInterleavesSpec.plain.varTypes Try.prog) (ds ++ gs)).all (· ≤ reachBytes) = true := hsz0
  clear hsz0
  have hval : ∀ (j : Nat) t v, Try.f4.params[j]? = some t → args[j]? = some v → Value.okWide Try.prog W .any base t v := hval0
  have hW' := hW
  obtain ⟨p, q, hA0, hV, rfl, _, _⟩ := hW
  have hA : DataW.TrodAll enc Try.prog W 0 (fun _ => true) true Try.f4.params.toList args.toList ds p := hA0
  rw [Try.params4] at hA hval hsz
  obtain ⟨v0, d0, rfl, rfl, h0⟩ := trodAll_one hA
  obtain ⟨rfl, rfl⟩ := trodVars_none hV
  clear hA0 hval0
  simp only [List.append_nil] at hW'
  have hlt0 : ∀ x ∈ p, x.block < W.heap.size := fun x hx => hW'.lt x (by simp [hx])
  obtain ⟨x0, hx0⟩ := arg_of (τ := Go.User.tRaw) (by kernel_rfl) (hval 0 23 v0 rfl rfl) h0 hlt0 (sz_of hsz (j := 0) rfl rfl)
  have hcall := hF.2 W (fun b => b < W.heap.size) [v0] (x0, ()) (fun b h => h) ⟨v0, [], rfl, hx0, rfl⟩ trivial
  refine hcall.mono ?_
  rintro e W' ⟨v, F', S', rfl, hb, _, _, _, _, hv⟩
  have hv : OwnV F' W' .bool .shr S' v true := hv
  have := hv.bool_eq
  subst this
  have hargs0 := Below.trod Try.laidOut (by kernel_rfl) (of_decide_eq_true (by kernel_rfl)) h0 hb hlt0
  refine ⟨_, rfl, _, _, _, [], p, [], hW', ?_, trodAll_mk1 hargs0, rfl, hb.frame _, fun h => by cases h⟩
  exact trodAll_mk1 (shut_bool Try.underlying4 true)

theorem viewInterleaves_holds : Rows.ViewInterleavesSaid :=
  OpenClaim.holds_of_wide 4 Try.f4 rfl rfl rfl rfl rfl rfl rfl ⟨rfl, rfl, rfl, rfl, rfl⟩ rfl rfl rfl rfl rfl (by kernel_rfl) Try.func4 (by kernel_rfl)
    (of_decide_eq_true (by kernel_rfl)) (by unfold Func.isWrapper; first | (rw [if_pos (by decide +kernel)]; kernel_rfl) | (rw [if_neg (by decide +kernel)]; exact ⟨rfl, rfl⟩))
    (fun os started H enc _ => viewInterleaves_lifted Go.User.ok4 os started H enc)
end Go.Proofs.Ythhclebbpbkgdaa
