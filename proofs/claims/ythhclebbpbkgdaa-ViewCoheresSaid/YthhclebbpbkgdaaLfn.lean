/- Runs of the machine of views: coherence of what is read, by what happens before: kept by each step. ViewCoheres: what is computed. The graph of a run: plain facts. Written by gen.py: what is left to show of each function. ViewCoheres: the law. The law ViewCoheres. -/
import Derived.Test.YthhclebbpbkgdaaLfm
set_option linter.unusedVariables false
set_option linter.unusedSimpArgs false
namespace Sp
open Relation Cx
def msgOK (s : VSt) (p i : Nat) : Prop :=
 ((memOf s p).getD (i + 1) msg0).2.2.1 = decide ((opE s.1 ((memOf s p).getD (i + 1) msg0).1).1 = 3) ∧
 ((memOf s p).getD (i + 1) msg0).2.1 = if (opE s.1 ((memOf s p).getD (i + 1) msg0).1).1 = 3 then ((memOf s p).getD i msg0).2.1 + (opE s.1 ((memOf s p).getD (i + 1) msg0).1).2.2.1 else (opE s.1 ((memOf s p).getD (i + 1) msg0).1).2.2.1
structure RunI (s : VSt) (X : List Int) : Prop where
 nod : X.Nodup
 xs : ∀ e, e ∈ X ↔ ∃ c j : Nat, c < s.1.1.length ∧ (j : Int) < pcOf s c ∧ e = bas s.1 c + j
 po : ∀ a b, a ∈ X → b ∈ X → coE s.1 a = coE s.1 b → a < b → [a, b].Sublist X
 mo : ∀ p, p < 3 → ∀ m ∈ memOf s p, m.1 = -1 ∨ (m.1 ∈ X ∧ wrP (opE s.1 m.1) ∧ xE s.1 m.1 = p)
 wr : ∀ e ∈ X, wrP (opE s.1 e) → 0 ≤ pos s (xE s.1 e) e
 fr : ∀ e ∈ X, rdP (opE s.1 e) → 0 ≤ pos s (xE s.1 e) (frO s e) ∧ (frO s e = -1 ∨ [frO s e, e].Sublist X)
 val : ∀ e ∈ X, rdP (opE s.1 e) → rOf s e = ((memOf s (xE s.1 e)).getD (pos s (xE s.1 e) (frO s e)).toNat msg0).2.1
 add : ∀ e ∈ X, (opE s.1 e).1 = 3 → pos s (xE s.1 e) (frO s e) + 1 = pos s (xE s.1 e) e
 mv : ∀ p, p < 3 → ∀ i, i + 1 < (memOf s p).length → msgOK s p i
 no : ∀ e : Int, 0 ≤ e → e < total s.1.1 → (e ∉ X ∨ ¬ rdP (opE s.1 e)) → frO s e = -1 ∧ rOf s e = 0
 fo : foOf s = X.filter fun e => decide ((opE s.1 e).1 = 4)
 coh : ∀ a b, HB (opE s.1) (coE s.1) X a b → ¬ isF (opE s.1) a → ¬ isF (opE s.1) b → xE s.1 a = xE s.1 b → (rdP (opE s.1 b) → pl s a ≤ pos s (xE s.1 b) (frO s b)) ∧ (wrP (opE s.1 b) → pl s a < pos s (xE s.1 b) b)
 now : ∀ a c, c < s.1.1.length → NOW (opE s.1) (coE s.1) X a c → ¬ isF (opE s.1) a → pl s a ≤ plV s c (xE s.1 a)
 fen : ∀ a f, HB (opE s.1) (coE s.1) X a f → isF (opE s.1) f → ¬ isF (opE s.1) a → pl s a ≤ plF s (xE s.1 a)
theorem start_run {t : Lit} (hv : valid t = true) : RunI (start t) [] := by
 have f := start_fine hv
 have hmem : ∀ p, p < 3 → memOf (start t) p = [m0] := by
  intro p hp
  rcases p with _ | _ | _ | p
  ·rfl
  ·rfl
  ·rfl
  ·omega
 have hpc : ∀ c, pcOf (start t) c = 0 := by
  intro c
  show (zeros t.1.length).getD c 0 = 0
  unfold zeros
  rw [List.getD_eq_getElem?_getD, List.getElem?_replicate]
  split <;> rfl
 refine ⟨List.nodup_nil, ?_, ?_, ?_, ?_, ?_, ?_, ?_, ?_, ?_, rfl, ?_, ?_, ?_⟩
 ·intro e
  constructor
  ·intro h; cases h
  ·rintro ⟨c, j, h1, h2, h3⟩
   rw [hpc] at h2; omega
 ·intro a b h; cases h
 ·intro p hp m hm
  rw [hmem p hp, List.mem_singleton] at hm
  subst hm; exact .inl rfl
 ·intro e h; cases h
 ·intro e h; cases h
 ·intro e h; cases h
 ·intro e h; cases h
 ·intro p hp i hi
  rw [hmem p hp] at hi
  simp at hi
 ·intro e h0 h1 _
  have h1 : e < (total t.1 : Int) := h1
  constructor
  ·show (froms (total t.1)).getD e.toNat 0 = -1
   unfold froms
   rw [Pl.getD_at (by rw [List.length_replicate]; omega), List.getElem_replicate]
  ·show (zeros (total t.1)).getD e.toNat 0 = 0
   unfold zeros
   rw [Pl.getD_at (by rw [List.length_replicate]; omega), List.getElem_replicate]
 ·intro a b h; have := h.mem.1; cases this
 ·intro a c _ h; have := h.mem; cases this
 ·intro a b h; have := h.mem.1; cases this
theorem xE_lt {s : VSt} (f : Fine s) {c j : Nat} (hc : c < s.1.1.length) (hj : j < (s.1.1.getD c []).length) : usual (opE s.1 (bas s.1 c + j)) = true ∧ xE s.1 (bas s.1 c + j) < 3 := by
 have h : usual (opE s.1 (bas s.1 c + j)) = true := by
  rw [opE_at hc hj]
  exact f.us _ (Pl.getD_mem hc _) _ (Pl.getD_mem hj _)
 refine ⟨h, ?_⟩
 have := usual_place h
 unfold xE; omega
theorem RunI.step {s : VSt} {X : List Int} (f : Fine s) (I : RunI s X) {x : Cho} (hx : x ∈ choices s) : RunI (Sp.next s x) (X ++ [evt s x.1]) := by
 have N := f.nx hx
 have h := f.good.ok
 obtain ⟨F, G⟩ := f.sf hx
 have hlt := N.xf.lt
 have hpc0 := N.xf.pc0
 have hpc1 := N.xf.pc1
 have hrl := h.rl
 have hfrl := h.frl
 have hpc1' : (pcOf s (ofC x)).toNat < (s.1.1.getD (ofC x) []).length := hpc1
 have he : evt s x.1 = bas s.1 (ofC x) + ((pcOf s (ofC x)).toNat : Int) := by rw [N.evt]; omega
 have hop : opE s.1 (evt s x.1) = opX s x := by rw [he, opE_at hlt hpc1']; rfl
 have hco : coE s.1 (evt s x.1) = ofC x := by rw [he, coE_at hlt hpc1']
 have hxe : xE s.1 (evt s x.1) = plX s x := by unfold xE; rw [hop]; rfl
 have he0 : 0 ≤ evt s x.1 := by have := bas_nn s.1 (ofC x); omega
 have hin : ∀ {e}, e ∈ X → ∃ c j : Nat, c < s.1.1.length ∧ j < (s.1.1.getD c []).length ∧ (j : Int) < pcOf s c ∧ e = bas s.1 c + j := by
  intro e hm
  obtain ⟨c, j, h1, h2, h3⟩ := (I.xs e).1 hm
  have := (h.pc c h1).2
  exact ⟨c, j, h1, by unfold opsOf at this; omega, h2, h3⟩
 have hnew : evt s x.1 ∉ X := by
  intro hm
  obtain ⟨c, j, h1, h2, h3, h4⟩ := hin hm
  obtain ⟨e1, e2⟩ := bas_inj (t := s.1) (c := c) (d := ofC x) (i := (j : Int)) (j := pcOf s (ofC x)) h1 hlt (by omega) hpc0 (by omega) (by omega) (by rw [← h4, N.evt])
  subst e1; omega
 have hk : ∀ {e}, e ∈ X → usual (opE s.1 e) = true ∧ xE s.1 e < 3 ∧ 0 ≤ e := by
  intro e hm
  obtain ⟨c, j, h1, h2, h3, h4⟩ := hin hm
  have hu := xE_lt f h1 h2
  have := bas_nn s.1 c
  rw [h4]
  exact ⟨hu.1, hu.2, by omega⟩
 generalize hE : evt s x.1 = E at *
 have hfrs : ∀ e, 0 ≤ e → e ≠ E → frO (Sp.next s x) e = frO s e ∧ rOf (Sp.next s x) e = rOf s e := by
  intro e e0 hne
  constructor
  ·show (nFr s x).getD _ 0 = _
   unfold nFr
   split
   ·rfl
   ·rw [hE, List.getD_eq_getElem?_getD, List.getElem?_set_ne (by omega), ← List.getD_eq_getElem?_getD]; rfl
  ·show (nR s x).getD _ 0 = _
   unfold nR
   split
   ·rfl
   ·rw [hE, List.getD_eq_getElem?_getD, List.getElem?_set_ne (by omega), ← List.getD_eq_getElem?_getD]; rfl
 have hXne : ∀ {e}, e ∈ X → e ≠ E := fun hm e => hnew (e ▸ hm)
 have hfrX : ∀ {e}, e ∈ X → frO (Sp.next s x) e = frO s e := fun hm => (hfrs _ (hk hm).2.2 (hXne hm)).1
 have hfrE : ∀ {e}, e ∈ X → rdP (opE s.1 e) → frO s e ≠ E := by
  intro e hm hr hc
  rcases (I.fr e hm hr).2 with h1 | h1
  ·omega
  ·exact hnew (hc ▸ h1.subset (by simp))
 have hlow : ∀ {a}, a ∈ X → lowO (Sp.next s x) a = lowO s a := by
  intro a ha
  unfold lowO
  rw [hfrX ha]; rfl
 have hkind : ∀ {a}, a ∈ X → ¬ isF (opE s.1) a → wrP (opE s.1 a) ∨ ((opE s.1 a).1 = 1) := by
  intro a ha hf
  have := usual_kind (hk ha).1
  unfold isF at hf
  unfold wrP; omega
 have hlowne : ∀ {a}, a ∈ X → ¬ isF (opE s.1) a → lowO s a ≠ E := by
  intro a ha hf
  unfold lowO
  rcases hkind ha hf with h1 | h1
  ·rw [if_pos h1]; exact hXne ha
  ·rw [if_neg (by unfold wrP; omega)]
   exact hfrE ha (.inl h1)
 have hpl0 : ∀ {a}, a ∈ X → ¬ isF (opE s.1) a → 0 ≤ pl s a := by
  intro a ha hf
  unfold pl lowO
  rcases hkind ha hf with h1 | h1
  ·rw [if_pos h1]; exact I.wr a ha h1
  ·rw [if_neg (by unfold wrP; omega)]
   exact (I.fr a ha (.inl h1)).1
 have hpl : ∀ {a}, a ∈ X → ¬ isF (opE s.1) a → pl (Sp.next s x) a = F (xE s.1 a) (pl s a) := by
  intro a ha hf
  unfold pl
  rw [hlow ha]
  exact G.ps _ (hk ha).2.1 _ (by rw [hE]; exact hlowne ha hf)
 have hpsX : ∀ {e}, e ∈ X → pos (Sp.next s x) (xE s.1 e) e = F (xE s.1 e) (pos s (xE s.1 e) e) := fun hm => G.ps _ (hk hm).2.1 _ (by rw [hE]; exact hXne hm)
 have hpsF : ∀ {e}, e ∈ X → rdP (opE s.1 e) → pos (Sp.next s x) (xE s.1 e) (frO (Sp.next s x) e) = F (xE s.1 e) (pos s (xE s.1 e) (frO s e)) := by
  intro e hm hr
  rw [hfrX hm]
  exact G.ps _ (hk hm).2.1 _ (by rw [hE]; exact hfrE hm hr)
 have hposlt : ∀ p e, pos s p e < ((memOf s p).length : Int) := by
  intro p e
  unfold pos
  rcases plc_le (memOf s p) e with h1 | h1
  ·exact h1
  ·omega
 -- what the new event knows
 have hold : ∀ {a d}, d ∈ X → adj (opE s.1) (coE s.1) d E → (a = d ∨ HB (opE s.1) (coE s.1) X a d) → ¬ isF (opE s.1) a → NOW (opE s.1) (coE s.1) X a (ofC x) ∨ ((opX s x).1 = 4 ∧ ∃ g, HB (opE s.1) (coE s.1) X a g ∧ isF (opE s.1) g) := by
  intro a d hd hadj had ha
  rcases hadj with h1 | ⟨h1, h2⟩
  ·exact .inl ⟨d, hd, by rw [h1, hco], had⟩
  ·right
   refine ⟨by unfold isF at h2; rw [hop] at h2; exact h2, ?_⟩
   rcases had with rfl | had
   ·exact absurd h1 ha
   ·exact ⟨d, had, h1⟩
 have hisF : isF (opE s.1) E ↔ (opX s x).1 = 4 := by unfold isF; rw [hop]
 refine ⟨?_, ?_, ?_, ?_, ?_, ?_, ?_, ?_, ?_, ?_, ?_, ?_, ?_, ?_⟩
 ·rw [List.nodup_append]
  refine ⟨I.nod, by simp, ?_⟩
  intro a ha b hb
  rw [List.mem_singleton.1 hb]
  exact hXne ha
 ·intro e
  show e ∈ X ++ [E] ↔ ∃ c j : Nat, c < s.1.1.length ∧ (j : Int) < pcOf (Sp.next s x) c ∧ e = bas s.1 c + j
  rw [List.mem_append, List.mem_singleton]
  constructor
  ·rintro (hm | hm)
   ·obtain ⟨c, j, h1, h2, h3⟩ := (I.xs e).1 hm
    refine ⟨c, j, h1, ?_, h3⟩
    rw [N.pc c]
    split
    ·rename_i hc; rw [← hc]; omega
    ·exact h2
   ·refine ⟨ofC x, (pcOf s (ofC x)).toNat, hlt, ?_, by rw [hm, he]⟩
    rw [N.pc, if_pos rfl]; omega
  ·rintro ⟨c, j, h1, h2, h3⟩
   rw [N.pc c] at h2
   by_cases hc : c = ofC x
   ·rw [if_pos hc] at h2
    subst hc
    by_cases hj : (j : Int) < pcOf s (ofC x)
    ·exact .inl ((I.xs e).2 ⟨_, j, h1, hj, h3⟩)
    ·right
     have : j = (pcOf s (ofC x)).toNat := by omega
     rw [h3, he, this]
   ·rw [if_neg hc] at h2
    exact .inl ((I.xs e).2 ⟨c, j, h1, h2, h3⟩)
 ·intro a b ha hb hc hab
  rcases List.mem_append.1 hb with hb | hb
  ·rcases List.mem_append.1 ha with ha | ha
   ·exact (I.po a b ha hb hc hab).trans (List.sublist_append_left _ _)
   ·exfalso
    rw [List.mem_singleton.1 ha] at hc hab
    obtain ⟨c, j, h1, h2, h3, h4⟩ := hin hb
    rw [show coE (Sp.next s x).1 E = ofC x from hco, h4, show coE (Sp.next s x).1 (bas s.1 c + j) = c from coE_at h1 h2] at hc
    subst hc; omega
  ·rw [List.mem_singleton.1 hb] at hc hab ⊢
   rcases List.mem_append.1 ha with ha | ha
   ·exact (sub_snoc hnew).2 (.inr ⟨rfl, ha⟩)
   ·rw [List.mem_singleton.1 ha] at hab; omega
 ·intro p hp m hm
  have hmS : m ∈ memOf s p ∨ (m = newM s x ∧ p = plX s x ∧ wrP (opX s x)) := by
   rcases N.kind with k | k | k | k
   ·rw [(N.lod k).1 p hp] at hm; exact .inl hm
   ·rw [(N.wri (.inl k)).1 p hp] at hm
    split at hm
    ·rcases mem_insM.1 hm with h1 | h1
     ·exact .inl h1
     ·exact .inr ⟨h1, by assumption, .inl k⟩
    ·exact .inl hm
   ·rw [(N.wri (.inr k)).1 p hp] at hm
    split at hm
    ·rcases mem_insM.1 hm with h1 | h1
     ·exact .inl h1
     ·exact .inr ⟨h1, by assumption, .inr k⟩
    ·exact .inl hm
   ·rw [(N.fen k).1 p hp] at hm; exact .inl hm
  rcases hmS with h1 | ⟨h1, h2, h3⟩
  ·exact (I.mo p hp m h1).imp id fun h => ⟨List.mem_append_left _ h.1, h.2⟩
  ·right
   rw [h1, newM_e, hE]
   exact ⟨by simp, by show wrP (opE s.1 E); rw [hop]; exact h3, by show xE s.1 E = p; rw [hxe, h2]⟩
 ·intro e hm hw
  have hw : wrP (opE s.1 e) := hw
  show 0 ≤ pos (Sp.next s x) (xE s.1 e) e
  rcases List.mem_append.1 hm with hm | hm
  ·rw [hpsX hm]; exact G.nn _ _ (I.wr e hm hw)
  ·rw [List.mem_singleton.1 hm] at hw ⊢
   rw [hop] at hw
   have h1 := (G.wr hw).1
   rw [hE] at h1
   rw [hxe, h1]
   have := (N.wlt (by unfold wrP at hw; omega)).2.1
   omega
 ·intro e hm hr
  have hr : rdP (opE s.1 e) := hr
  show 0 ≤ pos (Sp.next s x) (xE s.1 e) (frO (Sp.next s x) e) ∧ _
  rcases List.mem_append.1 hm with hm | hm
  ·obtain ⟨g1, g2⟩ := I.fr e hm hr
   refine ⟨by rw [hpsF hm hr]; exact G.nn _ _ g1, ?_⟩
   rw [hfrX hm]
   exact g2.imp id fun h => h.trans (List.sublist_append_left _ _)
  ·rw [List.mem_singleton.1 hm] at hr ⊢
   rw [hop] at hr
   obtain ⟨g1, g2, g3, g4⟩ := G.rd hr
   rw [hE] at g1
   have h4 : (opX s x).1 ≠ 4 := by unfold rdP at hr; omega
   rw [hxe, g1, g3]
   refine ⟨(N.wlt h4).2.1, ?_⟩
   rcases I.mo _ N.p3 _ (msgX_mem N h4) with h1 | ⟨h1, _⟩
   ·exact .inl h1
   ·exact .inr ((sub_snoc hnew).2 (.inr ⟨rfl, h1⟩))
 ·intro e hm hr
  have hr : rdP (opE s.1 e) := hr
  show rOf (Sp.next s x) e = ((memOf (Sp.next s x) (xE s.1 e)).getD (pos (Sp.next s x) (xE s.1 e) (frO (Sp.next s x) e)).toNat msg0).2.1
  rcases List.mem_append.1 hm with hm | hm
  ·rw [(hfrs _ (hk hm).2.2 (hXne hm)).2, hpsF hm hr, I.val e hm hr, G.gt _ (hk hm).2.1 _ (I.fr e hm hr).1 (hposlt _ _)]
  ·rw [List.mem_singleton.1 hm] at hr ⊢
   rw [hop] at hr
   obtain ⟨g1, g2, g3, g4⟩ := G.rd hr
   rw [hE] at g1 g2
   rw [hxe, g1, g3, g2, g4]
 ·intro e hm h3
  have h3 : (opE s.1 e).1 = 3 := h3
  show pos (Sp.next s x) (xE s.1 e) (frO (Sp.next s x) e) + 1 = pos (Sp.next s x) (xE s.1 e) e
  rcases List.mem_append.1 hm with hm | hm
  ·have hA := I.add e hm h3
   have hx3 := (hk hm).2.1
   rw [hpsF hm (.inr h3), hpsX hm]
   have hq0 := (I.fr e hm (.inr h3)).1
   have hplt := hposlt (xE s.1 e) e
   -- the message of e stands behind what it has read: nothing is put between
   rcases N.kind with k | k | k | k
   all_goals first
    | (
      have kk : (opX s x).1 = 2 ∨ (opX s x).1 = 3 := by omega
      have hp1 := G.ps _ hx3 _ (by rw [hE]; exact hfrE hm (.inr h3))
      have hp2 := G.ps _ hx3 _ (by rw [hE]; exact hXne hm)
      rw [← hp1, ← hp2]
      unfold pos at hA hplt hq0 ⊢
      rw [(N.wri kk).1 _ hx3]
      by_cases hpp : xE s.1 e = plX s x
      ·rw [if_pos hpp]
       rw [hpp] at hA hplt hq0 ⊢
       obtain ⟨w1, w2, w3⟩ := N.wlt (by omega)
       rw [plc_ins (f.nd _ N.p3) w1 N.new, plc_ins (f.nd _ N.p3) w1 N.new, newM_e, hE, if_neg (hfrE hm (.inr h3)), if_neg (hXne hm)]
       have hno : plc (memOf s (plX s x)) (frO s e) ≠ x.2.1 := by
        intro hc
        obtain ⟨i1, i2, i3, i4⟩ := N.xf.idx (by omega)
        have hi : x.2.1.toNat + 1 < (memOf s (plX s x)).length := by omega
        have hm1 := (plc_get (m := memOf s (plX s x)) (e := e) (by omega)).2
        have hm2 := (I.mv _ N.p3 _ hi).1
        rw [show x.2.1.toNat + 1 = (plc (memOf s (plX s x)) e).toNat from by omega, hm1, h3] at hm2
        unfold may at i4
        rw [decide_eq_false (by omega), decide_eq_false (by omega), show x.2.1.toNat + 1 = (plc (memOf s (plX s x)) e).toNat from by omega, hm2] at i4
        cases i4
       unfold sh
       split <;> split <;> omega
      ·rw [if_neg hpp]; exact hA)
    | skip
   ·have hp1 := G.ps _ hx3 _ (by rw [hE]; exact hfrE hm (.inr h3))
    have hp2 := G.ps _ hx3 _ (by rw [hE]; exact hXne hm)
    rw [← hp1, ← hp2]
    unfold pos at hA ⊢
    rw [(N.lod k).1 _ hx3]; exact hA
   ·have hp1 := G.ps _ hx3 _ (by rw [hE]; exact hfrE hm (.inr h3))
    have hp2 := G.ps _ hx3 _ (by rw [hE]; exact hXne hm)
    rw [← hp1, ← hp2]
    unfold pos at hA ⊢
    rw [(N.fen k).1 _ hx3]; exact hA
  ·rw [List.mem_singleton.1 hm] at h3 ⊢
   rw [hop] at h3
   obtain ⟨g1, g2, g3, g4⟩ := G.rd (.inr h3)
   have g5 := (G.wr (.inr h3)).1
   rw [hE] at g1 g5
   rw [hxe, g1, g3, g5]
 ·intro p hp i hi
  have hwri : (opX s x).1 = 2 ∨ (opX s x).1 = 3 → msgOK (Sp.next s x) p i := by
   intro kk
   have hl := (N.wri kk).1 p hp
   by_cases hpp : p = plX s x
   ·subst hpp
    rw [if_pos rfl] at hl
    obtain ⟨w1, w2, w3⟩ := N.wlt (by omega)
    rw [hl, insM_len w1] at hi
    unfold msgOK
    rw [hl]
    show _ = decide ((opE s.1 _).1 = 3) ∧ _ = if (opE s.1 _).1 = 3 then _ + (opE s.1 _).2.2.1 else (opE s.1 _).2.2.1
    rw [insM_get w1, insM_get w1]
    rcases Nat.lt_trichotomy i x.2.1.toNat with h1 | h1 | h1
    ·rw [if_pos (show i + 1 ≤ x.2.1.toNat by omega), if_pos (show i ≤ x.2.1.toNat by omega)]
     exact I.mv _ hp i (by omega)
    ·subst h1
     rw [if_neg (show ¬ x.2.1.toNat + 1 ≤ x.2.1.toNat by omega), if_pos rfl, if_pos (Nat.le_refl x.2.1.toNat), newM_e, hE, hop]
     exact ⟨N.newA, N.newV⟩
    ·rw [if_neg (show ¬ i + 1 ≤ x.2.1.toNat by omega), if_neg (show ¬ i + 1 = x.2.1.toNat + 1 by omega), if_neg (show ¬ i ≤ x.2.1.toNat by omega), show i + 1 - 1 = i from by omega]
     obtain ⟨j, rfl⟩ : ∃ j, i = j + 1 := ⟨i - 1, by omega⟩
     have hmv := I.mv _ hp j (by omega)
     unfold msgOK at hmv
     obtain ⟨m1, m2⟩ := hmv
     refine ⟨m1, ?_⟩
     by_cases hj : j + 1 = x.2.1.toNat + 1
     ·rw [if_pos hj]
      obtain ⟨i1, i2, i3, i4⟩ := N.xf.idx (by omega)
      have hn3 : ¬ (opE s.1 ((memOf s (plX s x)).getD (j + 1) msg0).1).1 = 3 := by
       intro h3
       rw [h3] at m1
       unfold may at i4
       rw [decide_eq_false (by omega), decide_eq_false (by omega), ← hj, m1] at i4
       cases i4
      rw [m2, if_neg hn3, if_neg hn3]
     ·rw [if_neg hj, show j + 1 - 1 = j from by omega]
      exact m2
   ·rw [if_neg hpp] at hl
    rw [hl] at hi
    unfold msgOK
    rw [hl]
    exact I.mv p hp i hi
  rcases N.kind with k | k | k | k
  ·have hl := (N.lod k).1 p hp
   rw [hl] at hi
   unfold msgOK
   rw [hl]
   exact I.mv p hp i hi
  ·exact hwri (.inl k)
  ·exact hwri (.inr k)
  ·have hl := (N.fen k).1 p hp
   rw [hl] at hi
   unfold msgOK
   rw [hl]
   exact I.mv p hp i hi
 ·intro e h0 h1 h2
  have h1 : e < (total s.1.1 : Int) := h1
  have h2 : e ∉ X ++ [E] ∨ ¬ rdP (opE s.1 e) := h2
  by_cases hne : e = E
  ·subst hne
   have hr : ¬ rdP (opX s x) := by
    rcases h2 with h2 | h2
    ·exact absurd (by simp) h2
    ·rw [hop] at h2; exact h2
   obtain ⟨g1, g2⟩ := G.no hr
   rw [hE] at g1 g2
   rw [g1, g2]
   exact I.no e h0 h1 (.inl hnew)
  ·obtain ⟨g1, g2⟩ := hfrs e h0 hne
   rw [g1, g2]
   exact I.no e h0 h1 (h2.imp (fun h hm => h (List.mem_append_left _ hm)) id)
 ·show nFo s x = (X ++ [E]).filter fun e => decide ((opE s.1 e).1 = 4)
  unfold nFo
  rw [List.filter_append, ← I.fo]
  by_cases h4 : (opX s x).1 = 4
  ·rw [if_pos h4, List.filter_cons, hop, decide_eq_true h4, hE]; rfl
  ·rw [if_neg h4, List.filter_cons, hop, decide_eq_false h4]
   show _ = foOf s ++ []
   rw [List.append_nil]; rfl
 ·intro a b hab ha hb hxx
  have ha : ¬ isF (opE s.1) a := ha
  have hb : ¬ isF (opE s.1) b := hb
  have hxx : xE s.1 a = xE s.1 b := hxx
  show (rdP (opE s.1 b) → pl (Sp.next s x) a ≤ pos (Sp.next s x) (xE s.1 b) (frO (Sp.next s x) b)) ∧ (wrP (opE s.1 b) → pl (Sp.next s x) a < pos (Sp.next s x) (xE s.1 b) b)
  rcases HB.snoc hnew hab with h1 | ⟨rfl, d, hd, hadj, had⟩
  ·obtain ⟨ma, mb⟩ := h1.mem
   obtain ⟨g1, g2⟩ := I.coh a b h1 ha hb hxx
   rw [hpl ma ha, hxx]
   refine ⟨fun hr => ?_, fun hw => ?_⟩
   ·rw [hpsF mb hr]; exact G.le _ _ _ (g1 hr)
   ·rw [hpsX mb]; exact G.lt _ _ _ (g2 hw)
  ·have h4 : ¬ (opX s x).1 = 4 := fun h => hb (hisF.2 h)
   rcases hold hd hadj had ha with h1 | ⟨h1, _⟩
   ·have ma := h1.mem
    have hn := I.now a _ hlt h1 ha
    rw [hpl ma ha]
    have hle := Int.le_trans (G.le _ _ _ hn) (show F (xE s.1 a) (plV s (ofC x) (xE s.1 a)) ≤ x.2.1 by rw [hxx, hxe]; exact G.low h4)
    refine ⟨fun hr => ?_, fun hw => ?_⟩
    ·rw [hop] at hr
     obtain ⟨g1, g2, g3, g4⟩ := G.rd hr
     rw [hE] at g1
     rw [hxe, g1, g3]; exact hle
    ·rw [hop] at hw
     have g1 := (G.wr hw).1
     rw [hE] at g1
     rw [hxe, g1]; omega
   ·exact absurd h1 h4
 ·intro a k hkl hnw ha
  have ha : ¬ isF (opE s.1) a := ha
  show pl (Sp.next s x) a ≤ plV (Sp.next s x) k (xE s.1 a)
  have hnow : ∀ k, k < s.1.1.length → NOW (opE s.1) (coE s.1) X a k → pl (Sp.next s x) a ≤ plV (Sp.next s x) k (xE s.1 a) := by
   intro k hkl h1
   have ma := h1.mem
   rw [hpl ma ha]
   exact Int.le_trans (G.le _ _ _ (I.now a k hkl h1 ha)) (G.vw k _ hkl (hk ma).2.1)
  rcases NOW.snoc hnew hnw with h1 | ⟨h1, h2⟩
  ·exact hnow k hkl h1
  ·have h1 : k = ofC x := by rw [← h1]; exact hco
   subst h1
   rcases h2 with rfl | ⟨d, hd, hadj, had⟩
   ·have h4 : ¬ (opX s x).1 = 4 := fun h => ha (hisF.2 h)
    have hlo : lowO (Sp.next s x) a = if wrP (opX s x) then a else frO (Sp.next s x) a := by unfold lowO; rw [show opE (Sp.next s x).1 a = opX s x from hop]
    unfold pl
    rw [show xE (Sp.next s x).1 a = plX s x from hxe, hxe, hlo]
    by_cases hw : wrP (opX s x)
    ·rw [if_pos hw]
     have := G.wr hw
     rw [hE] at this
     omega
    ·rw [if_neg hw]
     have h1 : (opX s x).1 = 1 := by have := N.kind; unfold wrP at hw; omega
     obtain ⟨g1, g2, g3, g4⟩ := G.rd (.inl h1)
     rw [hE] at g1
     rw [g1, g3, G.ld h1]; exact Int.le_refl _
   ·rcases hold hd hadj had ha with h1 | ⟨h1, g, hg1, hg2⟩
    ·exact hnow _ hkl h1
    ·have ma := hg1.mem.1
     rw [hpl ma ha]
     exact Int.le_trans (G.le _ _ _ (I.fen a g hg1 hg2 ha)) (G.fen h1 _ (hk ma).2.1).1
 ·intro a g hag hg ha
  have ha : ¬ isF (opE s.1) a := ha
  have hg : isF (opE s.1) g := hg
  show pl (Sp.next s x) a ≤ plF (Sp.next s x) (xE s.1 a)
  have hfen : ∀ g, HB (opE s.1) (coE s.1) X a g → isF (opE s.1) g → pl (Sp.next s x) a ≤ plF (Sp.next s x) (xE s.1 a) := by
   intro g h1 h2
   have ma := h1.mem.1
   rw [hpl ma ha]
   exact Int.le_trans (G.le _ _ _ (I.fen a g h1 h2 ha)) (G.fe _ (hk ma).2.1)
  rcases HB.snoc hnew hag with h1 | ⟨rfl, d, hd, hadj, had⟩
  ·exact hfen g h1 hg
  ·have h4 : (opX s x).1 = 4 := hisF.1 hg
   rcases hold hd hadj had ha with h1 | ⟨_, g', hg1, hg2⟩
   ·have ma := h1.mem
    rw [hpl ma ha]
    exact Int.le_trans (G.le _ _ _ (I.now a _ hlt h1 ha)) (G.fen h4 _ (hk ma).2.1).2
   ·exact hfen g' hg1 hg2
end Sp
namespace Sp
/-- The writes of the places before p, and the first i of p. -/
def dnB (s : VSt) (p i : Nat) (e : Int) : Bool := decide (wrP (opE s.1 e)) && (decide (xE s.1 e < p) || (decide (xE s.1 e = p) && decide (pos s p e ≤ (i : Int))))
def vlO (s : VSt) (e : Int) : Int := ((memOf s (xE s.1 e)).getD (pos s (xE s.1 e) e).toNat msg0).2.1
def vaOK (s : VSt) (p i : Nat) (v a : List Int) : Prop := v.length = total s.1.1 ∧ a.length = total s.1.1 ∧
 ∀ e : Nat, e < total s.1.1 → a.getD e 0 = (if dnB s p i e = true then pos s (xE s.1 e) e else 0) ∧ v.getD e 0 = (if dnB s p i e = true then vlO s e else 0)
def bef (s : VSt) (p i : Nat) : Int := ((memOf s p).getD i msg0).2.1
def atF (s : VSt) (e : Int) : Int := if wrP (opE s.1 e) then pos s (xE s.1 e) e else 0
/-- Where an event is in the order of its place. -/
def whE (s : VSt) (e : Int) : Int := if (opE s.1 e).1 = 1 then (if 0 ≤ frO s e then atF s (frO s e) else 0) else atF s e
def run6 (x : List (List Int)) (l : List Int) : VSt := runS (start (made x 6)) l 6
end Sp
namespace Go.User
open Go.Lf
def S9 : FSpec := { args := [.val tRaw, .val (.slice (.int .u8))], multi := false, res := .bool, mode := .shr, pre := fun _ => True, fn := fun _ => true }
def C9 : Ctx := { mkS 421 [(11, S11), (12, S12), (18, S18), (23, S23), (27, S27)] with mds := [(6, .pair .shr .shr), (7, mRn), (8, mG0)], asn := [11, 12] }
def L9 (x : kdens S9.args) : List LoopI := [
 {ι := Nat, inv := fun e => e ≤ Sp.total (Sp.run6 x.1 x.2.1).1.1, dec := fun e => Sp.total (Sp.run6 x.1 x.2.1).1.1 - e, ovr := fun e => [(10, .shr tI (e : Int))], keep := [5, 8] },
 {ι := Nat × List Int × List Int, inv := fun i => i.1 ≤ 3 ∧ Sp.vaOK (Sp.run6 x.1 x.2.1) i.1 0 i.2.1 i.2.2, dec := fun i => 3 - i.1, ovr := fun i => [(13, .shr tI (i.1 : Int)), (11, .own (.slice tI) (.own .shr) i.2.1), (12, .own (.slice tI) (.own .shr) i.2.2)], keep := [5, 8], sub := fun p => [
  {ι := Nat × List Int × List Int, inv := fun i => i.1 + 1 ≤ List.length (Sp.memOf (Sp.run6 x.1 x.2.1) p.1) ∧ Sp.vaOK (Sp.run6 x.1 x.2.1) p.1 i.1 i.2.1 i.2.2, dec := fun i => List.length (Sp.memOf (Sp.run6 x.1 x.2.1) p.1) - i.1, ovr := fun i => [(15, .shr tI (i.1 : Int)), (14, .shr tI (Sp.bef (Sp.run6 x.1 x.2.1) p.1 i.1)), (11, .own (.slice tI) (.own .shr) i.2.1), (12, .own (.slice tI) (.own .shr) i.2.2)], keep := [5, 8, 13] }] },
 {ι := Nat × List Int × List Int, inv := fun i => i.1 ≤ Sp.total (Sp.run6 x.1 x.2.1).1.1 ∧ Sp.vaOK (Sp.run6 x.1 x.2.1) 3 0 i.2.1 i.2.2, dec := fun i => Sp.total (Sp.run6 x.1 x.2.1).1.1 - i.1, ovr := fun i => [(17, .shr tI (i.1 : Int)), (11, .own (.slice tI) (.own .shr) i.2.1), (12, .own (.slice tI) (.own .shr) i.2.2)], keep := [5, 8], sub := fun e => [
  {ι := Nat, inv := fun k => k ≤ e.1, dec := fun k => e.1 - k, ovr := fun k => [(22, .shr tI (k : Int)), (19, .shr tI (Sp.whE (Sp.run6 x.1 x.2.1) (e.1 : Int)))], keep := [5, 8, 11, 12, 17, 18] }] }]
end Go.User
namespace Sp
open Relation Cx
theorem run_inv {s s' : VSt} (h : Reach s s') : Fine s → (∃ X, RunI s X) → ∃ X, RunI s' X := by
 refine h.inv (P := fun s => ∃ X, RunI s X) ?_
 rintro s x f ⟨X, I⟩ hx
 exact ⟨_, I.step f hx⟩
structure End (s : VSt) (X : List Int) : Prop where
 fin : Fine s
 run : RunI s X
 all : ∀ e : Nat, e < total s.1.1 → (e : Int) ∈ X
theorem end_of {t : Lit} (hv : valid t = true) {s : VSt} (h : Reach (start t) s) (h0 : choices s = []) : ∃ X, End s X := by
 obtain ⟨X, I⟩ := run_inv h (start_fine hv) ⟨[], start_run hv⟩
 have f := h.fine (start_fine hv)
 refine ⟨X, f, I, ?_⟩
 intro e he
 obtain ⟨c, j, h1, h2, h3⟩ := ev_ex he
 refine (I.xs _).2 ⟨c, j, h1, ?_, h3⟩
 rw [(done_iff f.good.ok).1 h0 c h1]
 unfold opsOf; omega
section
variable {s : VSt} {X : List Int} (D : End s X)
include D
theorem End.in' {e : Int} (h : e ∈ X) : ∃ k : Nat, k < total s.1.1 ∧ e = (k : Int) := by
 obtain ⟨c, j, h1, h2, h3⟩ := (D.run.xs e).1 h
 have h4 := (D.fin.good.ok.pc c h1).2
 unfold opsOf at h4
 have h5 := bas_lt (t := s.1) (c := c) (i := (j : Int)) h1 (by omega)
 have h6 := bas_nn s.1 c
 exact ⟨e.toNat, by omega, by omega⟩
theorem End.kind {e : Nat} (h : e < total s.1.1) : usual (opE s.1 e) = true ∧ xE s.1 e < 3 ∧ (opE s.1 e).2.1 = (xE s.1 e : Int) := by
 obtain ⟨c, j, h1, h2, h3⟩ := ev_ex h
 have h4 := xE_lt D.fin h1 h2
 rw [← h3] at h4
 refine ⟨h4.1, h4.2, ?_⟩
 have := usual_place h4.1
 unfold xE; omega
theorem End.pos_lt (p : Nat) (e : Int) : pos s p e < ((memOf s p).length : Int) := by
 have _ := D.fin
 unfold pos
 rcases plc_le (memOf s p) e with h1 | h1
 ·exact h1
 ·omega
theorem End.pos_get {p : Nat} {e : Int} (h : 0 ≤ pos s p e) : ((memOf s p).getD (pos s p e).toNat msg0).1 = e := by
 have _ := D.fin
 exact (plc_get h).2
theorem End.pos_m1 {p : Nat} (hp : p < 3) : pos s p (-1) = 0 := by
 have h1 := D.fin.good.ok.mem p hp
 have := plc_at (D.fin.nd p hp) (i := 0) (e := -1) (by omega) (by rw [D.fin.hd p hp]; rfl)
 unfold pos; rw [this]; rfl
theorem End.wpos {e : Nat} (h : e < total s.1.1) (hw : wrP (opE s.1 e)) : 1 ≤ pos s (xE s.1 e) e := by
 have h0 := D.run.wr e (D.all e h) hw
 have hx := (D.kind h).2.1
 rcases Int.lt_or_eq_of_le h0 with h1 | h1
 ·omega
 ·exfalso
  have h2 := D.pos_get h0
  rw [← h1] at h2
  have h3 := D.fin.hd _ hx
  have h2 : ((memOf s (xE s.1 e)).getD 0 msg0).1 = (e : Int) := h2
  rw [h3] at h2
  have h2 : (-1 : Int) = (e : Int) := h2
  omega
theorem End.msg {p i : Nat} (hp : p < 3) (hi : i + 1 < (memOf s p).length) : ∃ k : Nat, k < total s.1.1 ∧ ((memOf s p).getD (i + 1) msg0).1 = (k : Int) ∧ wrP (opE s.1 k) ∧ xE s.1 k = p ∧ pos s p k = (i : Int) + 1 := by
 have hat : ∀ e, ((memOf s p).getD (i + 1) msg0).1 = e → pos s p e = (i : Int) + 1 := fun e he => plc_at (D.fin.nd p hp) hi he
 rcases D.run.mo p hp _ (Pl.getD_mem hi msg0) with h1 | ⟨h1, h2, h3⟩
 ·have := hat _ h1
  rw [D.pos_m1 hp] at this; omega
 ·obtain ⟨k, k1, k2⟩ := D.in' h1
  rw [k2] at h2 h3
  exact ⟨k, k1, k2, h2, h3, hat _ k2⟩
theorem End.from {e : Nat} (h : e < total s.1.1) (hr : rdP (opE s.1 e)) : (frO s e = -1 ∧ rOf s e = 0 ∧ pos s (xE s.1 e) (frO s e) = 0) ∨
  ∃ k : Nat, k < total s.1.1 ∧ frO s e = (k : Int) ∧ k ≠ e ∧ wrP (opE s.1 k) ∧ xE s.1 k = xE s.1 e ∧ 1 ≤ pos s (xE s.1 e) k ∧ rOf s e = vlO s k := by
 have hm := D.all e h
 have hx := (D.kind h).2.1
 obtain ⟨g1, g2⟩ := D.run.fr e hm hr
 have hv := D.run.val e hm hr
 rcases g2 with g2 | g2
 ·left
  refine ⟨g2, ?_, by rw [g2]; exact D.pos_m1 hx⟩
  rw [hv, g2, D.pos_m1 hx]
  show ((memOf s (xE s.1 e)).getD 0 msg0).2.1 = 0
  rw [D.fin.hd _ hx]; rfl
 ·right
  have hf : frO s e ∈ X := g2.subset (by simp)
  obtain ⟨k, k1, k2⟩ := D.in' hf
  have hlt : (pos s (xE s.1 e) (frO s e)).toNat < (memOf s (xE s.1 e)).length := by have := D.pos_lt (xE s.1 e) (frO s e); omega
  have hmem := Pl.getD_mem hlt msg0
  have hg := D.pos_get g1
  rcases D.run.mo _ hx _ hmem with h1 | ⟨h1, h2, h3⟩
  ·rw [hg] at h1; omega
  ·rw [hg, k2] at h2 h3
   have hne : k ≠ e := by
    intro hke
    rw [k2, hke] at g2
    have := sub_idx D.run.nod g2
    omega
   have hw := D.wpos k1 h2
   rw [h3] at hw
   refine ⟨k, k1, k2, hne, h2, h3, hw, ?_⟩
   rw [hv, k2]; unfold vlO; rw [h3]
theorem End.none {e : Nat} (h : e < total s.1.1) (hr : ¬ rdP (opE s.1 e)) : frO s e = -1 ∧ rOf s e = 0 := D.run.no e (by omega) (by omega) (.inr hr)
theorem End.order {k e : Nat} (hke : k < e) (h : e < total s.1.1) (hc : coE s.1 k = coE s.1 e) (hk4 : ¬ (opE s.1 k).1 = 4) (he4 : ¬ (opE s.1 e).1 = 4) (hx : xE s.1 k = xE s.1 e) :
  (rdP (opE s.1 e) → pl s k ≤ pos s (xE s.1 e) (frO s e)) ∧ (wrP (opE s.1 e) → pl s k < pos s (xE s.1 e) e) := by
 have h1 := D.all k (by omega)
 have h2 := D.all e h
 refine D.run.coh k e ?_ hk4 he4 hx
 exact .single ⟨D.run.po k e h1 h2 hc (by omega), .inl hc⟩
-- the tables of the law
theorem End.va_init : vaOK s 0 0 (List.replicate (total s.1.1) 0) (List.replicate (total s.1.1) 0) := by
 refine ⟨List.length_replicate, List.length_replicate, fun e he => ?_⟩
 have h0 : ∀ n, (List.replicate n (0 : Int)).getD e 0 = 0 := by
  intro n
  rw [List.getD_eq_getElem?_getD, List.getElem?_replicate]
  split <;> rfl
 have hd : dnB s 0 0 e = false := by
  unfold dnB
  by_cases hw : wrP (opE s.1 e)
  ·have := D.wpos he hw
   by_cases hx : xE s.1 e = 0
   ·rw [hx] at this
    rw [decide_eq_false (show ¬ pos s 0 e ≤ ((0 : Nat) : Int) by omega)]; simp
   ·rw [decide_eq_false hx]; simp
  ·rw [decide_eq_false hw]; rfl
 rw [h0, hd]; exact ⟨rfl, rfl⟩
theorem End.va_next {p : Nat} (hp : p < 3) {i : Nat} (hi : i + 1 = (memOf s p).length) {v a : List Int} (h : vaOK s p i v a) : vaOK s (p + 1) 0 v a := by
 obtain ⟨h1, h2, h3⟩ := h
 refine ⟨h1, h2, fun e he => ?_⟩
 have hd : dnB s (p + 1) 0 e = dnB s p i e := by
  unfold dnB
  by_cases hw : wrP (opE s.1 e)
  ·have hq := D.wpos he hw
   have hlt := D.pos_lt p e
   rcases Nat.lt_trichotomy (xE s.1 e) p with hx | hx | hx
   ·rw [decide_eq_true (show xE s.1 e < p + 1 by omega), decide_eq_true hx]; simp
   ·rw [decide_eq_true (show xE s.1 e < p + 1 by omega), decide_eq_true hx, decide_eq_true (show pos s p e ≤ (i : Int) by omega)]; simp
   ·by_cases hx1 : xE s.1 e = p + 1
    ·rw [hx1] at hq
     rw [decide_eq_false (show ¬ xE s.1 e < p + 1 by omega), decide_eq_false (show ¬ pos s (p + 1) e ≤ ((0 : Nat) : Int) by omega), decide_eq_false (show ¬ xE s.1 e < p by omega), decide_eq_false (show ¬ xE s.1 e = p by omega)]; simp
    ·rw [decide_eq_false (show ¬ xE s.1 e < p + 1 by omega), decide_eq_false hx1, decide_eq_false (show ¬ xE s.1 e < p by omega), decide_eq_false (show ¬ xE s.1 e = p by omega)]; simp
  ·rw [decide_eq_false hw]; rfl
 rw [hd]; exact h3 e he
theorem End.va_step {p i : Nat} (hp : p < 3) {k : Nat} (hk : k < total s.1.1) (hw : wrP (opE s.1 k)) (hx : xE s.1 k = p) (hq : pos s p k = (i : Int) + 1) {v a : List Int} (h : vaOK s p i v a) {w : Int} (hwv : w = vlO s k) :
  vaOK s p (i + 1) (v.set k w) (a.set k ((i : Int) + 1)) := by
 obtain ⟨h1, h2, h3⟩ := h
 refine ⟨by rw [List.length_set]; exact h1, by rw [List.length_set]; exact h2, fun e he => ?_⟩
 rw [Pl.getD_set e (by omega), Pl.getD_set e (by omega)]
 by_cases hek : e = k
 ·subst hek
  have hd : dnB s p (i + 1) e = true := by
   unfold dnB
   rw [decide_eq_true hw, decide_eq_true hx, decide_eq_true (show pos s p e ≤ ((i + 1 : Nat) : Int) by omega)]; simp
  rw [if_pos rfl, if_pos rfl, if_pos hd, if_pos hd, hx, hq, hwv]
  exact ⟨rfl, rfl⟩
 ·rw [if_neg hek, if_neg hek]
  have hd : dnB s p (i + 1) e = dnB s p i e := by
   unfold dnB
   by_cases hwe : wrP (opE s.1 e)
   ·by_cases hxe : xE s.1 e = p
    ·have hne : pos s p e ≠ (i : Int) + 1 := by
      intro hc
      have g1 := D.pos_get (p := p) (e := (e : Int)) (by omega)
      have g2 := D.pos_get (p := p) (e := (k : Int)) (by omega)
      rw [hc, ← hq, g2] at g1
      omega
     by_cases hle : pos s p e ≤ (i : Int)
     ·rw [decide_eq_true hle, decide_eq_true (show pos s p e ≤ ((i + 1 : Nat) : Int) by omega)]
     ·rw [decide_eq_false hle, decide_eq_false (show ¬ pos s p e ≤ ((i + 1 : Nat) : Int) by omega)]
    ·rw [decide_eq_false hxe]; simp
   ·rw [decide_eq_false hwe]; rfl
  rw [hd]; exact h3 e he
theorem End.va_fin {v a : List Int} (h : vaOK s 3 0 v a) {e : Nat} (he : e < total s.1.1) : a.getD e 0 = atF s e ∧ v.getD e 0 = if wrP (opE s.1 e) then vlO s e else 0 := by
 obtain ⟨h1, h2, h3⟩ := h
 obtain ⟨g1, g2⟩ := h3 e he
 have hd : dnB s 3 0 e = decide (wrP (opE s.1 e)) := by
  unfold dnB
  rw [decide_eq_true (D.kind he).2.1]; simp
 rw [g1, g2, hd]
 unfold atF
 by_cases hw : wrP (opE s.1 e)
 ·rw [if_pos (decide_eq_true hw), if_pos hw, if_pos (decide_eq_true hw), if_pos hw]; exact ⟨rfl, rfl⟩
 ·rw [if_neg (by simpa using hw), if_neg hw, if_neg (by simpa using hw), if_neg hw]; exact ⟨rfl, rfl⟩
-- the graph
theorem End.gE {e : Nat} (h : e < total s.1.1) : (graphOf s).1.getD e ev0 = ((coE s.1 e : Int), opE s.1 e, rOf s e, ()) := by
 have _ := D.fin
 obtain ⟨c, j, h1, h2, h3⟩ := ev_ex h
 have he : e = total (s.1.1.take c) + j := by unfold bas at h3; omega
 have hg := evN_get s.1 (rsOf s) s.1.1.length (Nat.le_refl _) c j h1 h2
 show (evN s.1 (rsOf s) s.1.1.length).getD e ev0 = _
 rw [he, hg, ← he, h3, coE_at h1 h2, opE_at h1 h2]
 unfold rOf
 rw [← h3, Int.toNat_natCast]; rfl
theorem End.gEl : (graphOf s).1.length = total s.1.1 := by
 have _ := D.fin
 show (evN s.1 (rsOf s) s.1.1.length).length = _
 rw [evN_len _ _ _ (Nat.le_refl _), List.take_length]
theorem End.gFl : (graphOf s).2.1.length = total s.1.1 := D.fin.good.ok.frl
theorem End.gF {e : Nat} (h : e < total s.1.1) : (graphOf s).2.1.getD e 0 = frO s e := by
 have _ := D.fin
 unfold frO; rw [Int.toNat_natCast]; rfl
theorem End.gMl : (graphOf s).2.2.1.length = 3 := by
 have _ := D.fin
 exact moN_len s 3
theorem End.gM {p : Nat} (hp : p < 3) : (graphOf s).2.2.1.getD p [] = moK (memOf s p) ((memOf s p).length - 1) := by
 have _ := D.fin
 show (moN s 3).getD p [] = _
 unfold moN
 rw [List.getD_eq_getElem?_getD, List.getElem?_map, List.getElem?_range hp]; rfl
end
theorem moK_get {m : List Msg} {i : Nat} (h : i + 1 < m.length) : (moK m (m.length - 1)).getD i 0 = (m.getD (i + 1) msg0).1 := by
 unfold moK
 rw [List.take_of_length_le (by rw [List.length_drop]; omega), List.getD_eq_getElem?_getD, List.getElem?_map, List.getElem?_drop, Nat.add_comm 1 i]
 rw [List.getD_eq_getElem?_getD, List.getElem?_eq_getElem h]; rfl
theorem moK_full (m : List Msg) : (moK m (m.length - 1)).length = m.length - 1 := by
 unfold moK; rw [List.length_map, List.length_take, List.length_drop]; omega
end Sp
namespace Go.User
open Go.Proofs Go.Lf
set_option maxRecDepth 100000
theorem vc9 : (funI C9 (stpS C9) S9 L9 Try.f9) = (
let q0 : Prop := (True ∧ True) ∧ True;
let q1 : Prop := True ∧ True ∧ True;
let q2 : Prop := q1 ∧ True;
let q3 : Prop := q0 ∧ false = true;
let q4 : Int := (6 : Int);
let q5 : Nat := (6 : Nat);
let q6 : Prop := True ∧ q1;
let q7 : Prop := True ∧ q6;
let q8 : Prop := (true && true) = true → True;
let q9 : Int := (0 : Int);
let q10 : Int := (3 : Int);
let q11 : Prop := Sp.exOK = Sp.exOK;
let q12 : Prop := (True ∧ q7) ∧ True;
let q13 : Int := (1 : Int);
let q14 : Int := -q13;
let q15 : Nat := (3 : Nat);
let q16 : Nat := (0 : Nat);
let q17 : Int × Unit := (q9, ());
let q18 : Int × Sp.LOp × Int × Unit := (q9, (q9, q9, q17), q17);
let q19 : Int := (2 : Int);
let q20 : Prop := q6 ∧ True;
let q21 : Int := (4 : Int);
∀ (x : List (List Int) × List Int × Unit),
 let q22 : Sp.VSt := Sp.runS (Sp.start (Sp.made x.1 q4)) x.2.1 q5;
 let q23 : Bool := bif !true then true else !decide (Sp.grE q22 = q9);
 let q24 : Prop := (true && bif q23 then false else true) = true;
 let q25 : Prop := q24 → True;
 let q26 : Nat := Sp.total (Sp.madeP x.1 q4);
 let q27 : List (Int × Sp.LOp × Int × Unit) × List Int × List (List Int) × List Int × Unit := Sp.grA q22;
 let q28 : List (Int × Sp.LOp × Int × Unit) := q27.1;
 let q29 : Nat := q28.length;
 let q30 : Int := (↑q29 : Int);
 let q31 : Bool := bif q23 then true else q30 != (↑q26 : Int);
 let q32 : Prop := (true && bif q31 then false else true) = true → True;
 let q33 : List Int × List (List Int) × List Int × Unit := q27.2;
 let q34 : List Int := q33.1;
 let q35 : Nat := q34.length;
 let q36 : Int := (↑q35 : Int);
 let q37 : Bool := bif q31 then true else q36 != q30;
 let q38 : Prop := (true && bif q37 then false else true) = true → True;
 let q39 : List (List Int) := q33.2.1;
 let q40 : Nat := q39.length;
 let q41 : Bool := bif q37 then true else (↑q40 : Int) != q10;
 let q42 : Sp.VSt := Sp.run6 x.1 x.2.1;
 let q43 : Nat := Sp.total q42.1.1;
 let q44 : Prop := q27 = q27;
 let q45 : Prop := q11 ∧ q44 ∧ True;
 let q46 : Prop := (0 : tI.den) ≤ q30 ∧ q30 ≤ q30 ∧ q30 ≤ maxNew;
 let q47 : List Int := List.replicate q30.toNat q9;
 True →
 dFact (Ty.arr (4 : Nat) (Ty.int IntKind.u8)).slice x.1 ∧ dFact (Ty.int IntKind.u8).slice x.2.1 ∧ True →
 q0 ∧
 q2 ∧
 q2 ∧
 ((!Sp.exOK) = true → q3) ∧
 ((!Sp.exOK) = false →
 ((True ∧ ((0 : (AK.val tI).den) ≤ q4 ∧ q4 ≤ (6 : (AK.val tI).den)) ∧ True ∧ True) ∧ True ∧ True) ∧
 ((True ∧ True ∧ Sp.valid (Sp.made x.1 q4) = true ∧ True ∧ True) ∧ True ∧ True) ∧
 ((True ∧ True ∧ Sp.OkS q22 ∧ q7) ∧ q1) ∧
 ((True ∧ True ∧ True ∧ True ∧ q8 ∧ q8 ∧ True ∧ True ∧ q25 ∧ q25 ∧ q25 ∧ q25 ∧ (q24 → q26 ≤ (1000000 : Nat)) ∧ q25 ∧ True ∧ True ∧ q32 ∧ q32 ∧ q32 ∧ q32 ∧ q32 ∧ q32 ∧ q32 ∧ True ∧ True ∧ q38 ∧ q38 ∧ q38 ∧ q38 ∧ True ∧ True) ∧ True) ∧
 (q41 = true → q3) ∧
 (q41 = false →
 q0 ∧
 (∃ (x : Nat), x ≤ q43 ∧ q9 = (↑x : Int) ∧ q45) ∧
 ∀ (x : Nat),
 let q48 : Bool := decide ((↑x : Int) < q36);
 let q49 : Prop := inN (↑x : Int) q35;
 let q50 : Int := q34.getD (↑x : Int).toNat q9;
 let q51 : Bool := decide (q50 < q14);
 let q52 : Prop := (true && bif q51 then false else true) = true;
 let q53 : Prop := q52 → True;
 let q54 : Bool := bif q51 then true else decide (q50 ≥ q30);
 let q55 : Int := (↑x : Int) + q13;
 x ≤ q43 →
 dFact tI (↑x : Int) ∧ True →
 q12 ∧
 (q48 = true → ((True ∧ True ∧ True ∧ q49 ∧ True ∧ True ∧ True ∧ q53 ∧ q53 ∧ q53 ∧ (q52 → q49) ∧ q53 ∧ q53 ∧ q53 ∧ q53 ∧ q53 ∧ True ∧ True) ∧ True) ∧ (q54 = true → q3) ∧ (q54 = false → ((True ∧ inK IntKind.i64 q55 ∧ True ∧ True) ∧ True) ∧ ∃ (y : Nat), y ≤ q43 ∧ q43 - y < q43 - x ∧ q55 = (↑y : Int) ∧ q45)) ∧
 (q48 = false →
 ((True ∧ True ∧ True ∧ q46 ∧ True ∧ True ∧ True ∧ q46 ∧ q1) ∧ True) ∧
 q0 ∧
 (∃ (x : Nat × List Int × List Int), (x.1 ≤ q15 ∧ Sp.vaOK q42 x.1 q16 x.2.1 x.2.2) ∧ q9 = (↑x.1 : Int) ∧ q47 = x.2.1 ∧ q47 = x.2.2 ∧ q45) ∧
 ∀ (x : Nat × List Int × List Int),
 let q56 : Int := (↑x.1 : Int);
 let q57 : Bool := decide (q56 < q10);
 let q58 : Nat := (Sp.memOf q42 x.1).length;
 let q59 : Prop := q11 ∧ q44 ∧ q56 = q56 ∧ True;
 let q60 : Prop := inN q56 q40;
 let q61 : List Int := q39.getD q56.toNat (([] : List tI.den));
 let q62 : Nat := q61.length;
 let q63 : Int := q56 + q13;
 x.1 ≤ q15 ∧ Sp.vaOK q42 x.1 q16 x.2.1 x.2.2 →
 dFact tI q56 ∧ dFact tI.slice x.2.1 ∧ dFact tI.slice x.2.2 ∧ True →
 q2 ∧
 (q57 = true →
 q0 ∧
 q0 ∧
 (∃ (x_1 : Nat × List Int × List Int), (x_1.1 + (1 : Nat) ≤ q58 ∧ Sp.vaOK q42 x.1 x_1.1 x_1.2.1 x_1.2.2) ∧ q9 = (↑x_1.1 : Int) ∧ q9 = Sp.bef q42 x.1 x_1.1 ∧ x.2.1 = x_1.2.1 ∧ x.2.2 = x_1.2.2 ∧ q59) ∧
 ∀ (x_1 : Nat × List Int × List Int),
 let q64 : Int := (↑x_1.1 : Int);
 let q65 : Int := Sp.bef q42 x.1 x_1.1;
 let q66 : Bool := decide (q64 < (↑q62 : Int));
 let q67 : Int := q61.getD q64.toNat q9;
 let q68 : Bool := decide (q67 < q9);
 let q69 : Prop := (true && bif q68 then false else true) = true → True;
 let q70 : Bool := bif q68 then true else decide (q67 ≥ q30);
 let q71 : Prop := (true && bif q70 then false else true) = true;
 let q72 : Prop := q71 → True;
 let q73 : Prop := inN q67 q29;
 let q74 : Nat := q67.toNat;
 let q75 : Sp.LOp × Int × Unit := (q28.getD q74 q18).2;
 let q76 : Sp.LOp := q75.1;
 let q77 : Int × Int × Unit := q76.2;
 let q78 : Bool := bif q70 then true else q77.1 != q56;
 let q79 : Bool := true && bif q78 then false else true;
 let q80 : Prop := q79 = true;
 let q81 : Prop := q80 → True;
 let q82 : Int := q76.1;
 let q83 : Bool := q82 != q19;
 let q84 : Prop := (q79 && bif q83 then true else false) = true;
 let q85 : Prop := q84 → True;
 let q86 : Bool := bif q78 then true else bif q83 then q82 != q10 else false;
 let q87 : Prop := (true && bif q86 then false else true) = true;
 let q88 : Prop := q87 → True;
 let q89 : Prop := inN q67 x_1.2.2.length;
 let q90 : Bool := bif q86 then true else x_1.2.2.getD q74 q9 != q9;
 let q91 : Int := q64 + q13;
 let q92 : Prop := inK IntKind.i64 q91;
 let q93 : Bool := q82 == q10;
 let q94 : List Int := x_1.2.1.set q74 q77.2.1;
 let q95 : Prop := inN q67 q94.length;
 let q96 : Int := q94.getD q74 q9;
 let q97 : Int := q96 + q65;
 let q98 : Bool := q75.2.1 != q65;
 let q99 : Bool := true && bif q98 then false else true;
 let q100 : Prop := q99 = true;
 let q101 : Prop := q100 → True;
 let q102 : Prop := inN q67 q35;
 let q103 : Int := q34.getD q74 q9;
 let q104 : Bool := q103 != q14;
 let q105 : Prop := (q99 && bif q104 then true else false) = true;
 let q106 : Prop := q105 → True;
 let q107 : List Int := x_1.2.2.set q74 q91;
 let q108 : Bool := bif q98 then true else bif q104 then q107.getD q103.toNat q9 != q64 else false;
 let q109 : Bool := true && bif q108 then false else true;
 let q110 : Prop := q109 = true;
 let q111 : Prop := q110 → True;
 let q112 : Bool := q103 == q14;
 let q113 : Prop := (q109 && bif q112 then true else false) = true → True;
 let q114 : Bool := bif q108 then true else bif q112 then q64 != q9 else false;
 let q115 : List Int := q94.set q74 q97;
 let q116 : Prop := (True ∧ q92 ∧ True ∧ True) ∧ True;
 x_1.1 + (1 : Nat) ≤ q58 ∧ Sp.vaOK q42 x.1 x_1.1 x_1.2.1 x_1.2.2 → dFact tI q64 ∧ dFact tI q65 ∧ dFact tI.slice x_1.2.1 ∧ dFact tI.slice x_1.2.2 ∧ True → ((True ∧ True ∧ True ∧ True ∧ q60 ∧ q6) ∧ True) ∧ (q66 = true → ((True ∧ True ∧ True ∧ q60 ∧ True ∧ True ∧ inN q64 q62 ∧ q1) ∧ True) ∧ ((True ∧ True ∧ True ∧ q69 ∧ q69 ∧ q69 ∧ q69 ∧ q69 ∧ True ∧ True ∧ q72 ∧ q72 ∧ q72 ∧ (q71 → q73) ∧ q72 ∧ q72 ∧ q72 ∧ q72 ∧ q72 ∧ True ∧ True ∧ q81 ∧ q81 ∧ q81 ∧ (q80 → q73) ∧ q81 ∧ q81 ∧ q81 ∧ q81 ∧ q81 ∧ q85 ∧ q85 ∧ q85 ∧ (q84 → q73) ∧ q85 ∧ q85 ∧ q85 ∧ q85 ∧ q81 ∧ True ∧ True ∧ q88 ∧ q88 ∧ (q87 → q89) ∧ q88 ∧ q88 ∧ True ∧ True) ∧ True) ∧ (q90 = true → q3) ∧ (q90 = false → ((True ∧ True ∧ True ∧ q92 ∧ q89 ∧ True) ∧ True ∧ True) ∧ ((True ∧ True ∧ True ∧ True ∧ True ∧ q73 ∧ True ∧ True ∧ True ∧ inN q67 x_1.2.1.length ∧ True) ∧ True ∧ True) ∧ ((True ∧ True ∧ True ∧ q73 ∧ q7) ∧ True) ∧ (q93 = true → ((True ∧ True ∧ q95 ∧ True ∧ True ∧ inK IntKind.i64 q97 ∧ q95 ∧ True) ∧ True ∧ True) ∧ ((True ∧ True ∧ True ∧ q73 ∧ True ∧ True ∧ True ∧ True ∧ True ∧ q101 ∧ q101 ∧ q101 ∧ (q100 → q102) ∧ q101 ∧ q101 ∧ q101 ∧ q106 ∧ q106 ∧ q106 ∧ q106 ∧ (q105 → q102) ∧ q106 ∧ (q105 → inN q103 q107.length) ∧ q106 ∧ q106 ∧ q106 ∧ q101 ∧ True ∧ True ∧ q111 ∧ q111 ∧ q111 ∧ (q110 → q102) ∧ q111 ∧ q111 ∧ q111 ∧ q113 ∧ q113 ∧ q111 ∧ True ∧ True) ∧ True) ∧ (q114 = true → q3) ∧ (q114 = false → ((True ∧ True ∧ inN q67 q115.length ∧ q1) ∧ True) ∧ q116 ∧ ∃ (y : Nat × List Int × List Int), (y.1 + (1 : Nat) ≤ q58 ∧ Sp.vaOK q42 x.1 y.1 y.2.1 y.2.2) ∧ q58 - y.1 < q58 - x_1.1 ∧ q91 = (↑y.1 : Int) ∧ q115.getD q74 q9 = Sp.bef q42 x.1 y.1 ∧ q115 = y.2.1 ∧ q107 = y.2.2 ∧ q59)) ∧ (q93 = false → ((True ∧ True ∧ q95 ∧ q1) ∧ True) ∧ q116 ∧ ∃ (y : Nat × List Int × List Int), (y.1 + (1 : Nat) ≤ q58 ∧ Sp.vaOK q42 x.1 y.1 y.2.1 y.2.2) ∧ q58 - y.1 < q58 - x_1.1 ∧ q91 = (↑y.1 : Int) ∧ q96 = Sp.bef q42 x.1 y.1 ∧ q94 = y.2.1 ∧ q107 = y.2.2 ∧ q59))) ∧ (q66 = false → ((True ∧ inK IntKind.i64 q63 ∧ True ∧ True) ∧ True) ∧ ∃ (y : Nat × List Int × List Int), (y.1 ≤ q15 ∧ Sp.vaOK q42 y.1 q16 y.2.1 y.2.2) ∧ q15 - y.1 < q15 - x.1 ∧ q63 = (↑y.1 : Int) ∧ x_1.2.1 = y.2.1 ∧ x_1.2.2 = y.2.2 ∧ q45)) ∧
 (q57 = false →
 q0 ∧
 (∃ (x_1 : Nat × List Int × List Int), (x_1.1 ≤ q43 ∧ Sp.vaOK q42 q15 q16 x_1.2.1 x_1.2.2) ∧ q9 = (↑x_1.1 : Int) ∧ x.2.1 = x_1.2.1 ∧ x.2.2 = x_1.2.2 ∧ q45) ∧
 ∀ (x : Nat × List Int × List Int),
 let q117 : Int := (↑x.1 : Int);
 let q118 : Bool := decide (q117 < q30);
 let q119 : Prop := inN q117 q29;
 let q120 : Prop := inN q117 q35;
 let q121 : Nat := q117.toNat;
 let q122 : Int := q34.getD q121 q9;
 let q123 : Bool := decide (q122 ≥ q9);
 let q124 : Nat := x.2.2.length;
 let q125 : Int × Sp.LOp × Int × Unit := q28.getD q121 q18;
 let q126 : Sp.LOp × Int × Unit := q125.2;
 let q127 : Sp.LOp := q126.1;
 let q128 : Int := q127.1;
 let q129 : Bool := q128 == q13;
 let q130 : Prop := (true && bif q129 then false else true) = true → True;
 let q131 : Prop := (True ∧ True ∧ True ∧ True ∧ q130 ∧ q130 ∧ q130 ∧ q1) ∧ True;
 let q132 : Bool := q128 == q10;
 let q133 : Bool := bif q129 then true else q132;
 let q134 : Prop := (true && bif q133 then true else false) = true;
 let q135 : Prop := q134 → True;
 let q136 : Prop := q134 → q119;
 let q137 : Int := q126.2.1;
 let q138 : Nat := q122.toNat;
 let q139 : Bool := bif q133 then q137 != x.2.1.getD q138 q9 else false;
 let q140 : Bool := true && bif q139 then false else true;
 let q141 : Prop := q140 = true → True;
 let q142 : Bool := !q133;
 let q143 : Bool := bif q142 then true else false;
 let q144 : Bool := q140 && q143;
 let q145 : Prop := q144 = true;
 let q146 : Prop := q145 → True;
 let q147 : Bool := q122 != q14;
 let q148 : Bool := bif q147 then false else true;
 let q149 : Prop := (q144 && q148) = true;
 let q150 : Prop := q149 → True;
 let q151 : Bool := q137 != q9;
 let q152 : Bool := bif q142 then bif q147 then true else q151 else false;
 let q153 : Bool := bif q139 then true else q152;
 let q154 : Bool := true && bif q153 then false else true;
 let q155 : Prop := q154 = true → True;
 let q156 : Bool := q128 == q19;
 let q157 : Bool := bif q156 then false else true;
 let q158 : Prop := (q154 && q157) = true → True;
 let q159 : Bool := bif q156 then true else q132;
 let q160 : Bool := bif q159 then true else false;
 let q161 : Prop := (q154 && q160) = true;
 let q162 : Prop := q161 → True;
 let q163 : Prop := inN q117 q124;
 let q164 : Int := x.2.2.getD q121 q9;
 let q165 : Bool := bif q159 then q164 == q9 else false;
 let q166 : Bool := bif q153 then true else q165;
 let q167 : Bool := q128 != q13;
 let q168 : Int := Sp.whE q42 q117;
 let q169 : Prop := q11 ∧ q44 ∧ x.2.1 = x.2.1 ∧ x.2.2 = x.2.2 ∧ q117 = q117 ∧ q127 = q127 ∧ True;
 let q170 : Prop := q168 = q168 ∧ q169;
 let q171 : Bool := bif q167 then true else false;
 let q172 : Int := q117 + q13;
 let q206 : Prop :=
 ∀ (x_1 : Nat),
 let q173 : Bool := decide ((↑x_1 : Int) < q117);
 let q174 : Prop := inN (↑x_1 : Int) q29;
 let q175 : Nat := (↑x_1 : Int).toNat;
 let q176 : Int × Sp.LOp × Int × Unit := q28.getD q175 q18;
 let q177 : Bool := q176.1 != q125.1;
 let q178 : Prop := (true && bif q177 then false else true) = true → True;
 let q179 : Sp.LOp := q176.2.1;
 let q180 : Bool := bif q177 then true else q179.2.1 != q127.2.1;
 let q181 : Prop := (true && bif q180 then false else true) = true → True;
 let q182 : Int := q179.1;
 let q183 : Bool := bif q180 then true else q182 == q21;
 let q184 : Prop := (true && bif q183 then false else true) = true → True;
 let q185 : Bool := bif q183 then true else q128 == q21;
 let q186 : Int := (↑x_1 : Int) + q13;
 let q187 : Prop := ((True ∧ inK IntKind.i64 q186 ∧ True ∧ True) ∧ True) ∧ ∃ (y : Nat), y ≤ x.1 ∧ x.1 - y < x.1 - x_1 ∧ q186 = (↑y : Int) ∧ q170;
 let q188 : Bool := q182 == q13;
 let q189 : Prop := (true && bif q188 then true else false) = true;
 let q190 : Prop := q189 → True;
 let q191 : Prop := inN (↑x_1 : Int) q35;
 let q192 : Int := q34.getD q175 q9;
 let q193 : Bool := bif q188 then decide (q192 ≥ q9) else false;
 let q194 : Int := x.2.2.getD q192.toNat q9;
 let q195 : Bool := decide (q194 > q168);
 let q196 : Bool := true && bif q195 then false else true;
 let q197 : Prop := q196 = true → True;
 let q198 : Prop := (q196 && q171) = true → True;
 let q199 : Bool := bif q195 then true else bif q167 then q194 == q168 else false;
 let q200 : Int := x.2.2.getD q175 q9;
 let q201 : Bool := decide (q200 > q168);
 let q202 : Bool := true && bif q201 then false else true;
 let q203 : Prop := q202 = true → True;
 let q204 : Prop := (q202 && q171) = true → True;
 let q205 : Bool := bif q201 then true else bif q167 then q200 == q168 else false;
 x_1 ≤ x.1 → dFact tI (↑x_1 : Int) ∧ dFact tI q168 ∧ True → q20 ∧ (q173 = true → ((True ∧ True ∧ True ∧ q174 ∧ q6) ∧ True ∧ True) ∧ ((True ∧ True ∧ True ∧ q174 ∧ True ∧ True ∧ True ∧ True ∧ True ∧ q119 ∧ True ∧ True ∧ True ∧ True ∧ q178 ∧ q178 ∧ q178 ∧ q178 ∧ q178 ∧ True ∧ True ∧ q181 ∧ q181 ∧ q181 ∧ True ∧ True ∧ q184 ∧ q184 ∧ q184 ∧ True ∧ True) ∧ True) ∧ (q185 = true → q187) ∧ (q185 = false → ((True ∧ True ∧ inN (↑x_1 : Int) q124 ∧ q1) ∧ True) ∧ ((True ∧ True ∧ True ∧ True ∧ q190 ∧ q190 ∧ q190 ∧ (q189 → q191) ∧ q190 ∧ q190 ∧ True ∧ True) ∧ True) ∧ (q193 = true → ((True ∧ True ∧ True ∧ True ∧ q191 ∧ True ∧ inN q192 q124 ∧ q1) ∧ True) ∧ ((True ∧ True ∧ True ∧ True ∧ q197 ∧ q197 ∧ q197 ∧ q197 ∧ q198 ∧ q198 ∧ q198 ∧ q197 ∧ True ∧ True) ∧ True) ∧ (q199 = true → q3) ∧ (q199 = false → q187)) ∧ (q193 = false → ((True ∧ True ∧ True ∧ True ∧ q203 ∧ q203 ∧ q203 ∧ q203 ∧ q204 ∧ q204 ∧ q204 ∧ q203 ∧ True ∧ True) ∧ True) ∧ (q205 = true → q3) ∧ (q205 = false → q187)))) ∧ (q173 = false → ((True ∧ inK IntKind.i64 q172 ∧ True ∧ True) ∧ True) ∧ ∃ (y : Nat × List Int × List Int), (y.1 ≤ q43 ∧ Sp.vaOK q42 q15 q16 y.2.1 y.2.2) ∧ q43 - y.1 < q43 - x.1 ∧ q172 = (↑y.1 : Int) ∧ x.2.1 = y.2.1 ∧ x.2.2 = y.2.2 ∧ q45);
 let q207 : Prop := q167 = true → ((True ∧ True ∧ q163 ∧ q1) ∧ True) ∧ q0 ∧ (∃ (x_1 : Nat), x_1 ≤ x.1 ∧ q9 = (↑x_1 : Int) ∧ q164 = q168 ∧ q169) ∧ q206;
 let q208 : Prop := q167 = false;
 let q209 : Bool := bif q133 then q151 else false;
 let q210 : Bool := true && bif q209 then false else true;
 let q211 : Prop := q210 = true → True;
 let q212 : Bool := q210 && q143;
 let q213 : Prop := q212 = true;
 let q214 : Prop := q213 → True;
 let q215 : Prop := (q212 && q148) = true;
 let q216 : Prop := q215 → True;
 let q217 : Bool := bif q209 then true else q152;
 let q218 : Bool := true && bif q217 then false else true;
 let q219 : Prop := q218 = true → True;
 let q220 : Prop := (q218 && q157) = true → True;
 let q221 : Prop := (q218 && q160) = true;
 let q222 : Prop := q221 → True;
 let q223 : Bool := bif q217 then true else q165;
 x.1 ≤ q43 ∧ Sp.vaOK q42 q15 q16 x.2.1 x.2.2 → dFact tI q117 ∧ dFact tI.slice x.2.1 ∧ dFact tI.slice x.2.2 ∧ True → q12 ∧ (q118 = true → ((True ∧ True ∧ True ∧ q119 ∧ q6) ∧ True ∧ True) ∧ q2 ∧ ((True ∧ True ∧ True ∧ q120 ∧ q1) ∧ True) ∧ (q123 = true → ((True ∧ True ∧ True ∧ True ∧ q120 ∧ True ∧ inN q122 q124 ∧ q1) ∧ True) ∧ ((True ∧ True ∧ True ∧ True ∧ q120 ∧ True ∧ inN q122 x.2.1.length ∧ q1) ∧ True) ∧ q131 ∧ ((True ∧ True ∧ q135 ∧ q135 ∧ q135 ∧ q136 ∧ q135 ∧ q135 ∧ q135 ∧ q135 ∧ True ∧ True ∧ q141 ∧ q141 ∧ q141 ∧ q146 ∧ q146 ∧ q146 ∧ (q145 → q120) ∧ q146 ∧ q146 ∧ q146 ∧ q150 ∧ q150 ∧ q150 ∧ (q149 → q119) ∧ q150 ∧ q150 ∧ q150 ∧ q146 ∧ q141 ∧ True ∧ True ∧ q155 ∧ q155 ∧ q155 ∧ q155 ∧ q158 ∧ q158 ∧ q158 ∧ q155 ∧ q155 ∧ q162 ∧ q162 ∧ (q161 → q163) ∧ q162 ∧ q162 ∧ q155 ∧ True ∧ True) ∧ True) ∧ (q166 = true → q3) ∧ (q166 = false → q20 ∧ q207 ∧ (q208 → q0 ∧ (∃ (x_1 : Nat), x_1 ≤ x.1 ∧ q9 = (↑x_1 : Int) ∧ x.2.2.getD q138 q9 = q168 ∧ q169) ∧ q206))) ∧ (q123 = false → q131 ∧ ((True ∧ True ∧ q135 ∧ q135 ∧ q135 ∧ q136 ∧ q135 ∧ q135 ∧ q135 ∧ q135 ∧ True ∧ True ∧ q211 ∧ q211 ∧ q211 ∧ q214 ∧ q214 ∧ q214 ∧ (q213 → q120) ∧ q214 ∧ q214 ∧ q214 ∧ q216 ∧ q216 ∧ q216 ∧ (q215 → q119) ∧ q216 ∧ q216 ∧ q216 ∧ q214 ∧ q211 ∧ True ∧ True ∧ q219 ∧ q219 ∧ q219 ∧ q219 ∧ q220 ∧ q220 ∧ q220 ∧ q219 ∧ q219 ∧ q222 ∧ q222 ∧ (q221 → q163) ∧ q222 ∧ q222 ∧ q219 ∧ True ∧ True) ∧ True) ∧ (q223 = true → q3) ∧ (q223 = false → q20 ∧ q207 ∧ (q208 → q0 ∧ (∃ (x_1 : Nat), x_1 ≤ x.1 ∧ q9 = (↑x_1 : Int) ∧ q9 = q168 ∧ q169) ∧ q206)))) ∧ (q118 = false → q2 ∧ Sp.exOK = true)))))) := by kernel_rfl
end Go.User
namespace Sp
theorem End.fr_in {s : VSt} {X : List Int} (D : End s X) {e : Nat} (h : e < total s.1.1) : -1 ≤ frO s e ∧ frO s e < (total s.1.1 : Int) := by
 by_cases hr : rdP (opE s.1 e)
 ·rcases D.from h hr with ⟨h1, _⟩ | ⟨k, h1, h2, _⟩
  ·rw [h1]; omega
  ·rw [h2]; omega
 ·rw [(D.none h hr).1]; omega
theorem End.plw {s : VSt} {X : List Int} (D : End s X) {e : Nat} (h : e < total s.1.1) (hw : wrP (opE s.1 e)) : pl s e = pos s (xE s.1 e) e := by
 have _ := D.fin
 unfold pl lowO; rw [if_pos hw]
theorem End.plr {s : VSt} {X : List Int} (D : End s X) {e : Nat} (h : e < total s.1.1) (h1 : (opE s.1 e).1 = 1) : pl s e = pos s (xE s.1 e) (frO s e) := by
 have _ := D.fin
 unfold pl lowO; rw [if_neg (by unfold wrP; omega)]
theorem End.was1 {s : VSt} {X : List Int} (D : End s X) {e : Nat} (h : e < total s.1.1) (h1 : (opE s.1 e).1 = 1) (h0 : 0 ≤ frO s e) : ∃ k : Nat, frO s e = (k : Int) ∧ k < total s.1.1 ∧ atF s k = pl s e := by
 rcases D.from h (.inl h1) with ⟨f1, _⟩ | ⟨k, f1, f2, f3, f4, f5, f6, f7⟩
 ·omega
 ·refine ⟨k, f2, f1, ?_⟩
  rw [D.plr h h1, f2]
  unfold atF; rw [if_pos f4, f5]
theorem End.was2 {s : VSt} {X : List Int} (D : End s X) {e : Nat} (h : e < total s.1.1) (h4 : ¬ (opE s.1 e).1 = 4) (h0 : ¬ ((opE s.1 e).1 = 1 ∧ 0 ≤ frO s e)) : atF s e = pl s e := by
 have hk := usual_kind (D.kind h).1
 unfold atF
 by_cases hw : wrP (opE s.1 e)
 ·rw [if_pos hw, D.plw h hw]
 ·have h1 : (opE s.1 e).1 = 1 := by unfold wrP at hw; omega
  rw [if_neg hw, D.plr h h1]
  rcases D.from h (.inl h1) with ⟨f1, _, f3⟩ | ⟨k, f1, f2, _⟩
  ·exact f3.symm
  ·exact absurd ⟨h1, by omega⟩ h0
theorem End.wh {s : VSt} {X : List Int} (D : End s X) {e : Nat} (h : e < total s.1.1) (h4 : ¬ (opE s.1 e).1 = 4) : whE s e = pl s e := by
 unfold whE
 by_cases h1 : (opE s.1 e).1 = 1
 ·rw [if_pos h1]
  by_cases h0 : 0 ≤ frO s e
  ·rw [if_pos h0]
   obtain ⟨k, k1, k2, k3⟩ := D.was1 h h1 h0
   rw [k1]; exact k3
  ·rw [if_neg h0, ← D.was2 h h4 (fun hh => h0 hh.2)]
   unfold atF; rw [if_neg (by unfold wrP; omega)]
 ·rw [if_neg h1]
  exact D.was2 h h4 (fun hh => h1 hh.1)
theorem End.ord2 {s : VSt} {X : List Int} (D : End s X) {k e : Nat} (hke : k < e) (h : e < total s.1.1) (hc : coE s.1 k = coE s.1 e) (hk4 : ¬ (opE s.1 k).1 = 4) (he4 : ¬ (opE s.1 e).1 = 4) (hx : xE s.1 k = xE s.1 e) :
  pl s k ≤ whE s e ∧ (¬ (opE s.1 e).1 = 1 → pl s k < whE s e) := by
 have hk := usual_kind (D.kind h).1
 obtain ⟨o1, o2⟩ := D.order hke h hc hk4 he4 hx
 rw [D.wh h he4]
 by_cases h1 : (opE s.1 e).1 = 1
 ·rw [D.plr h h1]
  exact ⟨o1 (.inl h1), fun hn => absurd h1 hn⟩
 ·have hw : wrP (opE s.1 e) := by unfold wrP; omega
  rw [D.plw h hw]
  have := o2 hw
  exact ⟨by omega, fun _ => this⟩
end Sp
namespace Go.User
open Go.Lf Go.Proofs
set_option maxRecDepth 100000 in
set_option maxHeartbeats 1000000 in
theorem ok9 : FOk Try.prog 9 S9 := by
 have hC : CtxOK Try.prog C9 := okC (fns_cons ok11 (fns_cons ok12 (fns_cons ok18 (fns_cons ok23 (fns_cons ok27 fns_nil))))) rfl rfl rfl rfl rfl rfl rfl
 refine FOk.intro hC (stpS_ok hC) Try.call9 Try.func9 (by kernel_rfl) (by kernel_rfl) L9 (vc9.mpr ?_)
 simp only [zz, zy]
 have hex := ex_ok
 intro y hk
 have hl : ∀ v ∈ y.2.1, 0 ≤ v := fun v hv => (hk.2.2 v hv).1
 clear hk
 have hv := Sp.made_valid (x := y.1) (n := 6) (by omega) (by omega)
 have hM := Sp.total_made (x := y.1) (n := 6) (by omega) (by omega)
 have hrun : Sp.run6 y.1 y.2.1 = Sp.runS (Sp.start (Sp.made y.1 6)) y.2.1 6 := rfl
 generalize Sp.run6 y.1 y.2.1 = R at hrun ⊢
 have hmd : Sp.made y.1 6 = (Sp.madeP y.1 6, ()) := rfl
 generalize Sp.made y.1 6 = t at hmd hv hrun ⊢
 generalize Sp.madeP y.1 6 = P at hM hmd ⊢
 subst hmd
 generalize y.2.1 = l at hl hrun ⊢
 clear y
 have hdone := Sp.run_done hv hl
 have hreach := Sp.run_reach (s := Sp.start (P, ())) hl 6
 generalize Sp.runS (Sp.start (P, ())) l 6 = R' at hrun hdone hreach ⊢
 subst hrun
 obtain ⟨m1, m2, m3, m4⟩ := hM
 have hlit : (R).1 = (P, ()) := hreach.lit
 obtain ⟨X, D⟩ := Sp.end_of hv hreach hdone
 have hE0 : Sp.grE (R) = 0 := by unfold Sp.grE; rw [if_pos hdone]
 have hA : Sp.grA (R) = Sp.graphOf (R) := by unfold Sp.grA; rw [if_pos hdone]
 rw [hex, hE0, hA]
 clear hE0 hA hreach hdone
 have hP : P = R.1.1 := by rw [hlit]
 subst hP
 have gEl := D.gEl
 have gFl := D.gFl
 have gMl := D.gMl
 have gE : ∀ e : Nat, e < Sp.total R.1.1 → (Sp.graphOf R).1.getD e (0, (0, 0, 0, ()), 0, ()) = ((Sp.coE R.1 e : Int), Sp.opE R.1 e, Sp.rOf R e, ()) := fun e he => D.gE he
 have gF : ∀ e : Nat, e < Sp.total R.1.1 → (Sp.graphOf R).2.1.getD e 0 = Sp.frO R e := fun e he => D.gF he
 have gM : ∀ p, p < 3 → ((Sp.graphOf R).2.2.1.getD p []).length = (Sp.memOf R p).length - 1 ∧ ∀ i, i + 1 < (Sp.memOf R p).length → ((Sp.graphOf R).2.2.1.getD p []).getD i 0 = ((Sp.memOf R p).getD (i + 1) Sp.msg0).1 := by
  intro p hp
  rw [D.gM hp]
  exact ⟨Sp.moK_full _, fun i hi => Sp.moK_get hi⟩
 generalize (Sp.graphOf R).1 = E at *
 generalize (Sp.graphOf R).2.1 = Fr at *
 generalize (Sp.graphOf R).2.2.1 = Mo at *
 rw [gEl, gFl, gMl]
 have hmx : maxNew = 2147483648 := rfl
 have hfr := fun e (he : e < Sp.total R.1.1) => D.fr_in he
 refine ⟨fun h => (by cases h), fun _ => ⟨⟨by decide, by decide⟩, hv, D.fin.good.ok, fun _ => by omega, fun h => ?_, fun _ => ⟨⟨0, Nat.zero_le _, rfl⟩, fun e he _ => ⟨fun hlt => ?_, fun hge => ?_⟩⟩⟩⟩
 ·exfalso
  revert h
  simp
 ·have hlt : (e : Int) < (Sp.total R.1.1 : Int) := hlt
  have h1 := hfr e (by omega)
  rw [gF e (by omega)]
  refine ⟨⟨inN_of hlt, fun _ => inN_of hlt⟩, fun h => ?_, fun _ => ⟨inK_mid (by omega) (by omega), e + 1, by omega, by omega, by omega⟩⟩
  exfalso
  rw [Bool.or_eq_true, decide_eq_true_eq, decide_eq_true_eq] at h
  omega
 ·clear hge he
  refine ⟨⟨Int.natCast_nonneg _, Int.le_refl _, by show ((Sp.total R.1.1 : Nat) : Int) ≤ maxNew; omega⟩, ⟨(0, _, _), ⟨Nat.zero_le _, D.va_init⟩, rfl, rfl, rfl⟩, ?_⟩
  rintro ⟨p, v, a⟩ ⟨hp, hva⟩ _
  dsimp only at hp hva ⊢
  refine ⟨fun hlt => ?_, fun hge => ?_⟩
  ·have hlt : (p : Int) < 3 := hlt
   have hp3 : p < 3 := by omega
   obtain ⟨k1, k2⟩ := D.fin.good.ok.mem p hp3
   obtain ⟨hMl, hMg⟩ := gM p hp3
   have inp : inN (p : Int) 3 := ⟨by omega, by omega⟩
   refine ⟨⟨(0, v, a), ⟨by show 0 + 1 ≤ _; omega, hva⟩, rfl, ?_, rfl, rfl⟩, ?_⟩
   ·show (0 : Int) = ((Sp.memOf R p).getD 0 Sp.msg0).2.1
    rw [D.fin.hd p hp3]; rfl
   rintro ⟨i, v1, a1⟩ ⟨hi, hva1⟩ _
   dsimp only at hi hva1 ⊢
   refine ⟨inp, fun hil => ?_, fun hig => ?_⟩
   ·have hil : (i : Int) < (((Mo.getD p []).length : Nat) : Int) := hil
    have hi1 : i + 1 < (Sp.memOf R p).length := by omega
    obtain ⟨k, kl, ke, kw, kx, kp⟩ := D.msg hp3 hi1
    have hMk : (Mo.getD p []).getD i 0 = (k : Int) := (hMg i hi1).trans ke
    have hkE := gE k kl
    have hkF := gF k kl
    obtain ⟨ku, k3, kX⟩ := D.kind kl
    have kX : (Sp.opE R.1 k).2.1 = (p : Int) := by rw [kX, kx]
    obtain ⟨hv1l, ha1l, hva1e⟩ := hva1
    have hva1 : Sp.vaOK R p i v1 a1 := ⟨hv1l, ha1l, hva1e⟩
    have ha0 : a1.getD k 0 = 0 := by
     rw [(hva1e k kl).1, if_neg]
     unfold Sp.dnB
     rw [kx, decide_eq_false (show ¬ Sp.pos R p k ≤ (i : Int) by omega), decide_eq_false (Nat.lt_irrefl p)]
     simp
    have hvl : Sp.vlO R k = ((Sp.memOf R p).getD (i + 1) Sp.msg0).2.1 := by
     unfold Sp.vlO; rw [kx, kp, show ((i : Int) + 1).toNat = i + 1 from by omega]
    have hbef : Sp.bef R p (i + 1) = Sp.vlO R k := hvl.symm
    have hmv := (D.run.mv p hp3 i hi1).2
    rw [ke, ← hvl] at hmv
    have hbd := D.fin.bd p hp3 _ (Pl.getD_mem hi1 Sp.msg0)
    rw [← hvl] at hbd
    have htot8 := D.fin.good.tot
    have hval := Sp.usual_val ku
    have ink : inN (k : Int) (Sp.total R.1.1) := ⟨by omega, by omega⟩
    have hki : inK IntKind.i64 ((i : Int) + 1) := inK_mid (by omega) (by omega)
    simp only [hMk, Int.toNat_natCast, hkE, hkF, kX, ha1l, hv1l, List.length_set, ha0]
    have hset : ∀ w, (v1.set k w).getD k 0 = w := fun w => by rw [Pl.getD_set k (by omega), if_pos rfl]
    have hset2 : ∀ w w', ((v1.set k w').set k w).getD k 0 = w := fun w w' => by rw [List.set_set]; exact hset w
    simp only [hset, hset2, List.set_set]
    refine ⟨⟨inp, inN_of hil⟩, ⟨fun _ => ink, fun _ => ink, fun _ => ink, fun _ => ink⟩, fun hb => ?_, fun _ => ⟨⟨hki, ink⟩, ⟨ink, ink⟩, ink, fun h3 => ?_, fun h3 => ?_⟩⟩
    ·exfalso
     revert hb
     rw [decide_eq_false (show ¬ (k : Int) < 0 by omega), decide_eq_false (show ¬ (Sp.total R.1.1 : Int) ≤ (k : Int) by omega)]
     rcases kw with kw | kw <;> rw [kw] <;> simp
    ·have h3 : (Sp.opE R.1 k).1 = 3 := h3
     rw [if_pos h3] at hmv
     have hadd := D.run.add k (D.all k kl) h3
     rw [kx] at hadd
     have hpf : Sp.pos R p (Sp.frO R k) = (i : Int) := by omega
     have hrf : Sp.rOf R k = Sp.bef R p i := by
      have := D.run.val k (D.all k kl) (.inr h3)
      rw [kx, hpf] at this
      exact this
     have hfa : (Sp.frO R k = -1 ∧ i = 0) ∨ ∃ k' : Nat, Sp.frO R k = (k' : Int) ∧ k' < Sp.total R.1.1 ∧ k' ≠ k ∧ a1.getD k' 0 = (i : Int) := by
      rcases D.from kl (.inr h3) with ⟨f1, _, f3⟩ | ⟨k', f1, f2, f3, f4, f5, f6, _⟩
      ·left
       rw [kx, hpf] at f3
       exact ⟨f1, by omega⟩
      ·right
       refine ⟨k', f2, f1, f3, ?_⟩
       rw [kx] at f5
       rw [f2] at hpf
       rw [(hva1e k' f1).1, if_pos]
       ·rw [f5, hpf]
       ·unfold Sp.dnB
        rw [decide_eq_true f4, decide_eq_true f5, decide_eq_true (show Sp.pos R p k' ≤ (i : Int) by omega)]; simp
     have hV : (Sp.opE R.1 k).2.2.1 + Sp.bef R p i = Sp.vlO R k := by
      rw [hmv]; show _ = Sp.bef R p i + _; omega
     rw [hV, hrf]
     refine ⟨⟨ink, inK_mid (by omega) (by omega), ink⟩, ⟨ink, fun _ => ink, fun _ => ink, fun h => ?_, fun _ => ink⟩, fun hb => ?_, fun _ => ⟨ink, hki, (i + 1, _, _), ⟨by show i + 1 + 1 ≤ _; omega, D.va_step hp3 kl kw kx kp hva1 rfl⟩, by show (Sp.memOf R p).length - (i + 1) < (Sp.memOf R p).length - i; omega, by show (i : Int) + 1 = ((i + 1 : Nat) : Int); omega, hbef.symm, rfl, rfl⟩⟩
     ·rcases hfa with ⟨f1, _⟩ | ⟨k', f1, f2, _⟩
      ·exact absurd f1 h.2
      ·rw [f1]; exact ⟨by omega, by omega⟩
     ·exfalso
      revert hb
      rcases hfa with ⟨f1, f2⟩ | ⟨k', f1, f2, f3, f4⟩
      ·rw [f1, f2]; simp
      ·rw [f1, Int.toNat_natCast, Pl.getD_set k' (by omega), if_neg f3, f4]
       have : ¬ (k' : Int) = -1 := by omega
       simp [this]
    ·have h3 : ¬ (Sp.opE R.1 k).1 = 3 := h3
     rw [if_neg h3] at hmv
     rw [← hmv]
     exact ⟨ink, hki, (i + 1, _, _), ⟨by show i + 1 + 1 ≤ _; omega, D.va_step hp3 kl kw kx kp hva1 rfl⟩, by show (Sp.memOf R p).length - (i + 1) < (Sp.memOf R p).length - i; omega, by show (i : Int) + 1 = ((i + 1 : Nat) : Int); omega, hbef.symm, rfl, rfl⟩
   ·have hig : (((Mo.getD p []).length : Nat) : Int) ≤ (i : Int) := hig
    exact ⟨inK_mid (by omega) (by omega), (p + 1, v1, a1), ⟨by show p + 1 ≤ 3; omega, D.va_next hp3 (by omega) hva1⟩, by show 3 - (p + 1) < 3 - p; omega, by show (p : Int) + 1 = ((p + 1 : Nat) : Int); omega, rfl, rfl⟩
  ·have hge : (3 : Int) ≤ (p : Int) := hge
   have hp3 : p = 3 := by omega
   subst hp3
   refine ⟨⟨(0, v, a), ⟨Nat.zero_le _, hva⟩, rfl, rfl, rfl⟩, ?_⟩
   rintro ⟨e, v2, a2⟩ ⟨he, hva2⟩ _
   dsimp only at he hva2 ⊢
   have he : e ≤ Sp.total R.1.1 := he
   have hat := fun (k : Nat) (hk : k < Sp.total R.1.1) => (D.va_fin hva2 hk).1
   have hvt := fun (k : Nat) (hk : k < Sp.total R.1.1) => (D.va_fin hva2 hk).2
   obtain ⟨hv2l, ha2l, _⟩ := id hva2
   refine ⟨fun hlt => ?_, fun hge => ?_⟩
   ·have hlt : (e : Int) < (Sp.total R.1.1 : Int) := hlt
    have hlt' : e < Sp.total R.1.1 := by omega
    have ine : inN (e : Int) (Sp.total R.1.1) := inN_of hlt
    obtain ⟨eu, e3, eX⟩ := D.kind hlt'
    have hkd := Sp.usual_kind eu
    have hkE := gE e hlt'
    have hkF := gF e hlt'
    have hkA := hat e hlt'
    have hwp := fun hw => D.wpos hlt' hw
    have hno := fun hr => D.none hlt' hr
    simp only [hkE, hkF, hkA, ha2l, hv2l]
    have inner : ∀ k : Nat, k < e → ∀ (hc : (Sp.coE R.1 k : Int) = (Sp.coE R.1 e : Int)) (hx : (Sp.opE R.1 k).2.1 = (Sp.opE R.1 e).2.1) (h4 : ¬ (Sp.opE R.1 k).1 = 4) (e4 : ¬ (Sp.opE R.1 e).1 = 4),
      Sp.pl R k ≤ Sp.whE R e ∧ (¬ (Sp.opE R.1 e).1 = 1 → Sp.pl R k < Sp.whE R e) := by
     intro k hk hc hx h4 e4
     obtain ⟨_, _, kX⟩ := D.kind (e := k) (by omega)
     rw [kX, eX] at hx
     exact D.ord2 hk hlt' (by omega) h4 e4 (by omega)
    have hat0 : Sp.wrP (Sp.opE R.1 e) → ¬ Sp.atF R e = 0 := by
     intro hw
     have := hwp hw
     unfold Sp.atF; rw [if_pos hw]; omega
    have hbad : ∀ V, (Sp.rdP (Sp.opE R.1 e) → Sp.rOf R e = V) → (((Sp.opE R.1 e).1 == 1 || (Sp.opE R.1 e).1 == 3) && Sp.rOf R e != V || !((Sp.opE R.1 e).1 == 1 || (Sp.opE R.1 e).1 == 3) && (Sp.frO R e != -1 || Sp.rOf R e != 0) ||
      ((Sp.opE R.1 e).1 == 2 || (Sp.opE R.1 e).1 == 3) && Sp.atF R e == 0) = true → False := by
     intro V hV hb
     rcases hkd with h | h | h | h
     ·have hr := hV (.inl h)
      rw [h, hr] at hb; simp at hb
     ·obtain ⟨n1, n2⟩ := hno (by unfold Sp.rdP; omega)
      have := hat0 (.inl h)
      rw [h, n1, n2] at hb; simp [this] at hb
     ·have hr := hV (.inr h)
      have := hat0 (.inr h)
      rw [h, hr] at hb; simp [this] at hb
     ·obtain ⟨n1, n2⟩ := hno (by unfold Sp.rdP; omega)
      rw [h, n1, n2] at hb; simp at hb
    have hwh : ¬ (Sp.opE R.1 e).1 = 1 → Sp.atF R e = Sp.whE R e := by
     intro h1; unfold Sp.whE; rw [if_neg h1]
    have hwh1 : (Sp.opE R.1 e).1 = 1 → ¬ 0 ≤ Sp.frO R e → (0 : Int) = Sp.whE R e := by
     intro h1 h0; unfold Sp.whE; rw [if_pos h1, if_neg h0]
    have hwh2 : (Sp.opE R.1 e).1 = 1 → 0 ≤ Sp.frO R e → a2.getD (Sp.frO R e).toNat 0 = Sp.whE R e := by
     intro h1 h0
     obtain ⟨k', q1, q2, q3⟩ := D.was1 hlt' h1 h0
     unfold Sp.whE; rw [if_pos h1, if_pos h0, q1, Int.toNat_natCast, hat k' q2]
    have inner2 : ∀ k : Nat, k ≤ e → dFact (Ty.int IntKind.i64) (k : Int) ∧ dFact (Ty.int IntKind.i64) (Sp.whE R e) →
      ((k : Int) < (e : Int) → inN (k : Int) (Sp.total R.1.1) ∧ (inN (k : Int) (Sp.total R.1.1) ∧ inN (e : Int) (Sp.total R.1.1)) ∧
       (((E.getD k (0, (0, 0, 0, ()), 0, ())).1 != (Sp.coE R.1 e : Int) || (E.getD k (0, (0, 0, 0, ()), 0, ())).2.1.2.1 != (Sp.opE R.1 e).2.1 || (E.getD k (0, (0, 0, 0, ()), 0, ())).2.1.1 == 4 || (Sp.opE R.1 e).1 == 4) = true →
        inK IntKind.i64 ((k : Int) + 1) ∧ ∃ y : Nat, y ≤ e ∧ e - y < e - k ∧ (k : Int) + 1 = (y : Int)) ∧
       ((((E.getD k (0, (0, 0, 0, ()), 0, ())).1 = (Sp.coE R.1 e : Int) ∧ (E.getD k (0, (0, 0, 0, ()), 0, ())).2.1.2.1 = (Sp.opE R.1 e).2.1) ∧ ¬(E.getD k (0, (0, 0, 0, ()), 0, ())).2.1.1 = 4) ∧ ¬(Sp.opE R.1 e).1 = 4 →
        inN (k : Int) (Sp.total R.1.1) ∧ ((E.getD k (0, (0, 0, 0, ()), 0, ())).2.1.1 = 1 → inN (k : Int) (Sp.total R.1.1)) ∧
        ((E.getD k (0, (0, 0, 0, ()), 0, ())).2.1.1 = 1 ∧ 0 ≤ Fr.getD k 0 → (inN (k : Int) (Sp.total R.1.1) ∧ inN (Fr.getD k 0) (Sp.total R.1.1)) ∧
         ((decide (Sp.whE R e < a2.getD (Fr.getD k 0).toNat 0) || (Sp.opE R.1 e).1 != 1 && a2.getD (Fr.getD k 0).toNat 0 == Sp.whE R e) = true → False) ∧
         (a2.getD (Fr.getD k 0).toNat 0 ≤ Sp.whE R e ∧ ((Sp.opE R.1 e).1 != 1 && a2.getD (Fr.getD k 0).toNat 0 == Sp.whE R e) = false →
          inK IntKind.i64 ((k : Int) + 1) ∧ ∃ y : Nat, y ≤ e ∧ e - y < e - k ∧ (k : Int) + 1 = (y : Int))) ∧
        (((E.getD k (0, (0, 0, 0, ()), 0, ())).2.1.1 == 1 && decide (0 ≤ Fr.getD k 0)) = false →
         ((decide (Sp.whE R e < a2.getD k 0) || (Sp.opE R.1 e).1 != 1 && a2.getD k 0 == Sp.whE R e) = true → False) ∧
         (a2.getD k 0 ≤ Sp.whE R e ∧ ((Sp.opE R.1 e).1 != 1 && a2.getD k 0 == Sp.whE R e) = false →
          inK IntKind.i64 ((k : Int) + 1) ∧ ∃ y : Nat, y ≤ e ∧ e - y < e - k ∧ (k : Int) + 1 = (y : Int))))) ∧
      ((e : Int) ≤ (k : Int) → inK IntKind.i64 ((e : Int) + 1) ∧ ∃ y : Nat × List Int × List Int, (y.1 ≤ Sp.total R.1.1 ∧ Sp.vaOK R 3 0 y.2.1 y.2.2) ∧ Sp.total R.1.1 - y.1 < Sp.total R.1.1 - e ∧ (e : Int) + 1 = (y.1 : Int) ∧ v2 = y.2.1 ∧ a2 = y.2.2) := by
     intro k hk _
     refine ⟨fun hke => ?_, fun _ => ⟨inK_mid (by omega) (by omega), (e + 1, v2, a2), ⟨by show e + 1 ≤ _; omega, hva2⟩, by show Sp.total R.1.1 - (e + 1) < Sp.total R.1.1 - e; omega, by show (e : Int) + 1 = ((e + 1 : Nat) : Int); omega, rfl, rfl⟩⟩
     have hke' : k < e := by omega
     have hkl : k < Sp.total R.1.1 := by omega
     have ink : inN (k : Int) (Sp.total R.1.1) := ⟨by omega, by omega⟩
     have go : inK IntKind.i64 ((k : Int) + 1) ∧ ∃ y : Nat, y ≤ e ∧ e - y < e - k ∧ (k : Int) + 1 = (y : Int) := ⟨inK_mid (by omega) (by omega), k + 1, by omega, by omega, by omega⟩
     rw [gE k hkl, gF k hkl]
     refine ⟨ink, ⟨ink, ine⟩, fun _ => go, ?_⟩
     rintro ⟨⟨⟨g1, g2⟩, g3⟩, g4⟩
     have g3 : ¬ (Sp.opE R.1 k).1 = 4 := g3
     obtain ⟨o1, o2⟩ := inner k hke' g1 g2 g3 g4
     have hbd : ∀ W, W = Sp.pl R k → (decide (Sp.whE R e < W) || (Sp.opE R.1 e).1 != 1 && W == Sp.whE R e) = true → False := by
      rintro W rfl hb
      rw [decide_eq_false (by omega)] at hb
      by_cases h1 : (Sp.opE R.1 e).1 = 1
      ·rw [h1] at hb; simp at hb
      ·have := o2 h1
       have e2 : (Sp.pl R k == Sp.whE R e) = false := by simp; omega
       rw [e2] at hb; simp at hb
     refine ⟨ink, fun _ => ink, ?_, ?_⟩
     ·rintro ⟨h1, h0⟩
      have h1 : (Sp.opE R.1 k).1 = 1 := h1
      obtain ⟨k', q1, q2, q3⟩ := D.was1 hkl h1 h0
      have hW : a2.getD (Sp.frO R k).toNat 0 = Sp.pl R k := by rw [q1, Int.toNat_natCast, hat k' q2, q3]
      exact ⟨⟨ink, h0, (hfr k hkl).2⟩, hbd _ hW, fun _ => go⟩
     ·intro h1
      have h1 : ((Sp.opE R.1 k).1 == 1 && decide (0 ≤ Sp.frO R k)) = false := h1
      have hW : a2.getD k 0 = Sp.pl R k := by
       rw [hat k hkl]
       refine D.was2 hkl g3 fun hh => ?_
       rw [hh.1, decide_eq_true hh.2] at h1; simp at h1
      exact ⟨hbd _ hW, fun _ => go⟩
    refine ⟨ine, ine, fun hf => ?_, fun hf => ?_⟩
    ·have hf : 0 ≤ Sp.frO R e := hf
     have hrd : Sp.rdP (Sp.opE R.1 e) := Classical.byContradiction fun h => by have := (hno h).1; omega
     have hvk : Sp.rOf R e = v2.getD (Sp.frO R e).toNat 0 := by
      rcases D.from hlt' hrd with ⟨f1, _⟩ | ⟨k', f1, f2, f3, f4, f5, f6, f7⟩
      ·omega
      ·rw [f2, Int.toNat_natCast, hvt k' f1, if_pos f4, f7]
     have inf : inN (Sp.frO R e) (Sp.total R.1.1) := ⟨hf, (hfr e hlt').2⟩
     refine ⟨⟨ine, inf⟩, ⟨ine, inf⟩, ⟨fun _ => ine, fun _ => ine, fun _ => ine, fun _ => ine⟩, fun hb => hbad _ (fun _ => hvk) hb, fun _ => ⟨fun hn1 => ⟨ine, ⟨0, Nat.zero_le _, rfl, hwh hn1⟩, inner2⟩, fun h1 => ⟨⟨0, Nat.zero_le _, rfl, hwh2 h1 hf⟩, inner2⟩⟩⟩
    ·have hf : Sp.frO R e < 0 := hf
     have hv0 : Sp.rdP (Sp.opE R.1 e) → Sp.rOf R e = 0 := by
      intro hrd
      rcases D.from hlt' hrd with ⟨_, f2, _⟩ | ⟨k', f1, f2, _⟩
      ·exact f2
      ·omega
     exact ⟨⟨fun _ => ine, fun _ => ine, fun _ => ine, fun _ => ine⟩, fun hb => hbad 0 hv0 hb, fun _ => ⟨fun hn1 => ⟨ine, ⟨0, Nat.zero_le _, rfl, hwh hn1⟩, inner2⟩, fun h1 => ⟨⟨0, Nat.zero_le _, rfl, hwh1 h1 (by omega)⟩, inner2⟩⟩⟩
   ·rfl
end Go.User
namespace Go.Proofs.Ythhclebbpbkgdaa
open Go.ChangeShapes Go.WideShapes Go.ChangeAt Go.RowKit Go.Proofs Go.Lf

set_option maxRecDepth 100000 in
theorem viewCoheres_lifted (hF : FOk Try.prog 9 Go.User.S9) (os : Os) (started : os.Started) (H : Type) (enc : TypeId × Value → H) :
  ReturnsInHanded {} Try.checked os 9 .any (Rows.viewCoheresSpec.pre6 enc Try.prog Try.f9 Rows.viewCoheresRow.domain false) (Rows.viewCoheresSpec.post enc Try.prog Try.f9 false true false false) := by
 refine returnsInHanded_of_change_sized (C := Try.checked) Try.own started (by kernel_rfl) Try.func9
  (ChangeSpec.witness6 (enc := enc) (C := Try.checked) false ⟨#[], #[.slice none 0 0, .slice none 0 0], []⟩ 8 (by kernel_rfl) (by kernel_rfl) (by kernel_rfl) (by kernel_rfl)) ?_
 intro W base args ds gs before hval0 hW _ hsz0 _
 have hsz : (DataW.weightsEach Try.prog (Try.f9.params.toList ++ Rows.viewCoheresSpec.plain.varTypes Try.prog) (ds ++ gs)).all (· ≤ reachBytes) = true := hsz0
 clear hsz0
 have hval : ∀ (j : Nat) t v, Try.f9.params[j]? = some t → args[j]? = some v → Value.okWide Try.prog W .any base t v := hval0
 have hW' := hW
 obtain ⟨p, q, hA0, hV, rfl, _, _⟩ := hW
 have hA : DataW.TrodAll enc Try.prog W 0 (fun _ => true) true Try.f9.params.toList args.toList ds p := hA0
 rw [Try.params9] at hA hval hsz
 obtain ⟨v0, v1, d0, d1, p0, p1, rfl, rfl, rfl, h0, h1⟩ := trodAll_two hA
 obtain ⟨rfl, rfl⟩ := trodVars_none hV
 clear hA0 hval0
 simp only [List.append_nil, List.append_assoc] at hW'
 have hlt0 : ∀ x ∈ p0, x.block < W.heap.size := fun x hx => hW'.lt x (by simp [hx])
 have hlt1 : ∀ x ∈ p1, x.block < W.heap.size := fun x hx => hW'.lt x (by simp [hx])
 obtain ⟨x0, hx0⟩ := arg_of (τ := Go.User.tRaw) (by kernel_rfl) (hval 0 23 v0 rfl rfl) h0 hlt0 (sz_of hsz (j := 0) rfl rfl)
 obtain ⟨x1, hx1⟩ := arg_of (τ := .slice (.int .u8)) (by kernel_rfl) (hval 1 57 v1 rfl rfl) h1 hlt1 (sz_of hsz (j := 1) rfl rfl)
 have hcall := hF.2 W (fun b => b < W.heap.size) [v0, v1] (x0, x1, ()) (fun b h => h) ⟨v0, [v1], rfl, hx0, v1, [], rfl, hx1, rfl⟩ trivial
 refine hcall.mono ?_
 rintro e W' ⟨v, F', S', rfl, hb, _, _, _, _, hv⟩
 have hv : OwnV F' W' .bool .shr S' v true := hv
 have := hv.bool_eq
 subst this
 have hargs0 := Below.trod Try.laidOut (by kernel_rfl) (of_decide_eq_true (by kernel_rfl)) h0 hb hlt0
 have hargs1 := Below.trod Try.laidOut (by kernel_rfl) (of_decide_eq_true (by kernel_rfl)) h1 hb hlt1
 refine ⟨_, rfl, _, _, _, [], p0 ++ p1, [], hW', ?_, trodAll_mk2 hargs0 hargs1, rfl, hb.frame _, fun h => by cases h⟩
 exact trodAll_mk1 (shut_bool Try.underlying4 true)

theorem viewCoheres_holds : Rows.ViewCoheresSaid :=
 OpenClaim.holds_of_wide 9 Try.f9 rfl rfl rfl rfl rfl rfl rfl ⟨rfl, rfl, rfl, rfl, rfl⟩ rfl rfl rfl rfl rfl (by kernel_rfl) Try.func9 (by kernel_rfl)
  (of_decide_eq_true (by kernel_rfl)) (by unfold Func.isWrapper; first | (rw [if_pos (by decide +kernel)]; kernel_rfl) | (rw [if_neg (by decide +kernel)]; exact ⟨rfl, rfl⟩))
  (fun os started H enc _ => viewCoheres_lifted Go.User.ok9 os started H enc)
end Go.Proofs.Ythhclebbpbkgdaa
