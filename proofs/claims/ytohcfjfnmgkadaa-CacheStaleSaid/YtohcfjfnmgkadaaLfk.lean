/- The laws of the caches: plain facts. The laws of the caches: proved. The law CacheStale. -/
import Derived.Test.YtohcfjfnmgkadaaLfj
set_option linter.unusedVariables false
set_option linter.unusedSimpArgs false
namespace Sp
theorem gt_set_self {l : List Int} {x v : Int} (h0 : 0 ≤ x) (h1 : x < l.length) : gt (l.set x.toNat v) x = v := getD_set_self (by omega)
theorem gt_set_ne {l : List Int} {x y v : Int} (hx : 0 ≤ x) (hy : 0 ≤ y) (h : y ≠ x) : gt (l.set x.toNat v) y = gt l y := getD_set_ne (by omega)
theorem okC_nil : okC [] := ⟨List.nodup_nil, fun w h => by cases h⟩
theorem okC_len {c : List Word} (h : okC c) : c.length ≤ 8 := by
  have := nodup_lt 8 h.1 (by
    intro x hx
    obtain ⟨w, hw, rfl⟩ := List.mem_map.1 hx
    have := h.2 w hw
    exact ⟨this.2.1, this.2.2⟩)
  simpa using this
theorem okC_perm {c c' : List Word} (hp : c.Perm c') (h : okC c) : okC c' :=
  ⟨((hp.map _).nodup_iff).1 h.1, fun w hw => h.2 w (hp.mem_iff.2 hw)⟩
theorem okC_tail {w : Word} {c : List Word} (h : okC (w :: c)) : okC c ∧ ∀ e ∈ c, e.2.1 ≠ w.2.1 := by
  have h1 := h.1
  rw [List.map_cons, List.nodup_cons] at h1
  exact ⟨⟨h1.2, fun e he => h.2 e (List.mem_cons_of_mem _ he)⟩, fun e he e2 => h1.1 (List.mem_map.2 ⟨e, he, e2⟩)⟩
theorem okC_cons {c : List Word} {x v : Int} {d : Bool} (h : okC c) (hx : 0 ≤ x ∧ x < 8) (hn : ∀ w ∈ c, w.2.1 ≠ x) : okC ((0, x, v, d, ()) :: c) := by
  refine ⟨?_, ?_⟩
  · rw [List.map_cons, List.nodup_cons]
    refine ⟨fun hm => ?_, h.1⟩
    obtain ⟨w, hw, e⟩ := List.mem_map.1 hm
    exact hn w hw e
  · intro w hw
    rcases List.mem_cons.1 hw with rfl | hw
    · exact ⟨rfl, hx.1, hx.2⟩
    · exact h.2 w hw
theorem own_perm {D : Int → Prop} {c c' : List Word} {l p : List Int} (hp : c.Perm c') (h : own D c l p) : own D c' l p :=
  ⟨fun w hw => h.1 w (hp.mem_iff.2 hw), fun x h0 h1 hD hn => h.2 x h0 h1 hD (fun w hw => hn w (hp.mem_iff.1 hw))⟩
def wb (w : Word) (l : List Int) : List Int := if w.2.2.2.1 = true then l.set w.2.1.toNat w.2.2.1 else l
theorem wback_one (w : Word) (l : List Int) : wback w [l] = [wb w l] := by
  unfold wback wb
  split
  · rfl
  · rfl
theorem wb_len (w : Word) (l : List Int) : (wb w l).length = l.length := by
  unfold wb
  split
  · exact List.length_set
  · rfl
theorem wb_ne {w : Word} {l : List Int} {y : Int} (h0 : 0 ≤ w.2.1) (hy : 0 ≤ y) (h : y ≠ w.2.1) : gt (wb w l) y = gt l y := by
  unfold wb
  split
  · exact gt_set_ne h0 hy h
  · rfl
structure Op1 (D : Int → Prop) (l p : List Int) (c' : List Word) (l' p' : List Int) : Prop where
  ok : okC c'
  len : l'.length = 8
  lenp : p'.length = 8
  own : Sp.own D c' l' p'
  frame : ∀ y, 0 ≤ y → y < 8 → ¬ D y → gt l' y = gt l y ∧ gt p' y = gt p y
theorem own_out {D : Int → Prop} {w : Word} {c : List Word} {l p : List Int} (hc : okC (w :: c)) (hl : l.length = 8) (hp : p.length = 8) (h : own D (w :: c) l p) : Op1 D l p c (wb w l) p := by
  obtain ⟨h1, h2⟩ := okC_tail hc
  have hw := hc.2 w (List.mem_cons_self ..)
  obtain ⟨g1, g2, g3⟩ := h.1 w (List.mem_cons_self ..)
  refine ⟨h1, (wb_len _ _).trans hl, hp, ⟨?_, ?_⟩, ?_⟩
  · intro e he
    obtain ⟨k1, k2, k3⟩ := h.1 e (List.mem_cons_of_mem _ he)
    refine ⟨k1, k2, fun hd => ?_⟩
    rw [wb_ne hw.2.1 (h1.2 e he).2.1 (h2 e he)]
    exact k3 hd
  · intro x hx0 hx1 hD hn
    by_cases e : x = w.2.1
    · subst e
      unfold wb
      split
      · rw [gt_set_self hw.2.1 (by rw [hl]; exact hx1)]; exact g2
      · rename_i hd
        exact g3 (by cases hb : w.2.2.2.1 with
          | true => exact absurd hb hd
          | false => rfl)
    · rw [wb_ne hw.2.1 hx0 e]
      exact h.2 x hx0 hx1 hD (fun e' he' => by
        rcases List.mem_cons.1 he' with rfl | he'
        · exact fun e2 => e e2.symm
        · exact hn e' he')
  · intro y hy0 hy1 hD
    exact ⟨wb_ne hw.2.1 hy0 (fun e => hD (e ▸ g1)), rfl⟩
/-- A word is put in the place of another, or of none. -/
theorem own_in {D : Int → Prop} {c : List Word} {l p : List Int} {x v : Int} (hc : okC c) (hl : l.length = 8) (hp : p.length = 8) (hx : 0 ≤ x ∧ x < 8) (hD : D x) (hn : ∀ w ∈ c, w.2.1 ≠ x)
    (hA : ∀ w ∈ c, D w.2.1 ∧ w.2.2.1 = gt p w.2.1 ∧ (w.2.2.2.1 = false → gt l w.2.1 = gt p w.2.1))
    (hB : ∀ y, 0 ≤ y → y < 8 → D y → y ≠ x → (∀ w ∈ c, w.2.1 ≠ y) → gt l y = gt p y) : Op1 D l p ((0, x, v, true, ()) :: c) l (p.set x.toNat v) := by
  refine ⟨okC_cons hc hx hn, hl, by rw [List.length_set]; exact hp, ⟨?_, ?_⟩, ?_⟩
  · intro w hw
    rcases List.mem_cons.1 hw with rfl | hw
    · exact ⟨hD, (gt_set_self hx.1 (by rw [hp]; exact hx.2)).symm, fun h => by cases h⟩
    · obtain ⟨k1, k2, k3⟩ := hA w hw
      rw [gt_set_ne hx.1 (hc.2 w hw).2.1 (hn w hw)]
      exact ⟨k1, k2, k3⟩
  · intro y h0 h1 hDy hny
    have hyx : y ≠ x := fun e => hny _ (List.mem_cons_self ..) e.symm
    rw [gt_set_ne hx.1 h0 hyx]
    exact hB y h0 h1 hDy hyx (fun w hw => hny w (List.mem_cons_of_mem _ hw))
  · intro y h0 h1 hDy
    exact ⟨rfl, gt_set_ne hx.1 h0 (fun e => hDy (e ▸ hD))⟩
theorem own_read {D : Int → Prop} {c : List Word} {l p : List Int} {x : Int} (hc : okC c) (hl : l.length = 8) (hp : p.length = 8) (hx : 0 ≤ x ∧ x < 8) (hD : D x) (hn : ∀ w ∈ c, w.2.1 ≠ x) (h : own D c l p) :
    Op1 D l p ((0, x, gt l x, false, ()) :: c) l p ∧ gt l x = gt p x := by
  have hx' : gt l x = gt p x := h.2 x hx.1 hx.2 hD hn
  refine ⟨⟨okC_cons hc hx hn, hl, hp, ⟨?_, ?_⟩, fun _ _ _ _ => ⟨rfl, rfl⟩⟩, hx'⟩
  · intro w hw
    rcases List.mem_cons.1 hw with rfl | hw
    · exact ⟨hD, hx', fun _ => hx'⟩
    · exact h.1 w hw
  · intro y h0 h1 hDy hny
    exact h.2 y h0 h1 hDy (fun w hw => hny w (List.mem_cons_of_mem _ hw))
theorem own_put {D : Int → Prop} {c : List Word} {l p : List Int} {x v : Int} (hc : okC c) (hl : l.length = 8) (hp : p.length = 8) (hx : 0 ≤ x ∧ x < 8) (hD : D x) (hn : ∀ w ∈ c, w.2.1 ≠ x) (h : own D c l p) :
    Op1 D l p c (l.set x.toNat v) (p.set x.toNat v) := by
  refine ⟨hc, by rw [List.length_set]; exact hl, by rw [List.length_set]; exact hp, ⟨?_, ?_⟩, ?_⟩
  · intro w hw
    obtain ⟨k1, k2, k3⟩ := h.1 w hw
    have hy := (hc.2 w hw).2.1
    rw [gt_set_ne hx.1 hy (hn w hw), gt_set_ne hx.1 hy (hn w hw)]
    exact ⟨k1, k2, k3⟩
  · intro y h0 h1 hDy hny
    by_cases e : y = x
    · subst e
      rw [gt_set_self h0 (by rw [hl]; exact h1), gt_set_self h0 (by rw [hp]; exact h1)]
    · rw [gt_set_ne hx.1 h0 e, gt_set_ne hx.1 h0 e]
      exact h.2 y h0 h1 hDy hny
  · intro y h0 h1 hDy
    have e : y ≠ x := fun e => hDy (e ▸ hD)
    exact ⟨gt_set_ne hx.1 h0 e, gt_set_ne hx.1 h0 e⟩
theorem Op1.perm {D : Int → Prop} {l p : List Int} {c c' : List Word} {l' p' : List Int} (hp : c.Perm c') (h : Op1 D l p c l' p') : Op1 D l p c' l' p' :=
  ⟨okC_perm hp h.ok, h.len, h.lenp, own_perm hp h.own, h.frame⟩
theorem Op1.trans {D : Int → Prop} {l p : List Int} {c c' : List Word} {l' p' l'' p'' : List Int} (h : Op1 D l p c l' p') (h2 : Op1 D l' p' c' l'' p'') : Op1 D l p c' l'' p'' :=
  ⟨h2.ok, h2.len, h2.lenp, h2.own, fun y h0 h1 hD => ⟨(h2.frame y h0 h1 hD).1.trans (h.frame y h0 h1 hD).1, (h2.frame y h0 h1 hD).2.trans (h.frame y h0 h1 hD).2⟩⟩
/-- A place of a list: what stands ahead and behind. -/
theorem split_at {c : List Word} {k : Int} (h0 : 0 ≤ k) (h1 : k < c.length) : ∃ a b, c = a ++ wd c k :: b ∧ (∀ e, c.set k.toNat e = a ++ e :: b) ∧ c.take k.toNat ++ c.drop (k + 1).toNat = a ++ b := by
  have hk : k.toNat < c.length := by omega
  have e1 : (k + 1).toNat = k.toNat + 1 := by omega
  refine ⟨c.take k.toNat, c.drop (k.toNat + 1), ?_, ?_, by rw [e1]⟩
  · unfold wd
    rw [getD_at hk]
    have := List.drop_eq_getElem_cons hk
    rw [← this, List.take_append_drop]
  · intro e
    rw [List.set_eq_take_append_cons_drop, if_pos hk]
theorem op_evict {D : Int → Prop} {c : List Word} {l p : List Int} {k : Int} (hc : okC c) (hl : l.length = 8) (hp : p.length = 8) (h : own D c l p) (h0 : 0 ≤ k) (h1 : k < c.length) :
    (evict c [l] k).2.1 = [wb (wd c k) l] ∧ Op1 D l p (evict c [l] k).1 (wb (wd c k) l) p ∧ ∀ e ∈ (evict c [l] k).1, e.2.1 ≠ (wd c k).2.1 := by
  obtain ⟨a, b, e1, e2, e3⟩ := split_at h0 h1
  have hpm : c.Perm (wd c k :: (a ++ b)) := by
    have := List.perm_middle (a := wd c k) (l₁ := a) (l₂ := b)
    rw [← e1] at this
    exact this
  have hc' := okC_perm hpm hc
  refine ⟨wback_one _ _, ?_, ?_⟩
  · show Op1 D l p (c.take k.toNat ++ c.drop (k + 1).toNat) (wb (wd c k) l) p
    rw [e3]
    exact own_out hc' hl hp (own_perm hpm h)
  · show ∀ e ∈ c.take k.toNat ++ c.drop (k + 1).toNat, _
    rw [e3]
    exact (okC_tail hc').2
theorem okC_zero {c : List Word} (h : okC c) : ∀ w ∈ c, w.1 = 0 := fun w hw => (h.2 w hw).1
theorem op_load {D : Int → Prop} {c : List Word} {l p : List Int} {x : Int} (hc : okC c) (hl : l.length = 8) (hp : p.length = 8) (h : own D c l p) (hx : 0 ≤ x ∧ x < 8) (hD : D x) :
    Op1 D l p (load c [l] x).2.1 l p ∧ (load c [l] x).1 = gt p x := by
  unfold load
  split
  · rename_i hf
    obtain ⟨k1, k2, k3⟩ := fW_some hf
    have := (h.1 _ (wd_mem hf k1)).2.1
    rw [k3] at this
    exact ⟨⟨hc, hl, hp, h, fun _ _ _ _ => ⟨rfl, rfl⟩⟩, this⟩
  · rename_i hf
    obtain ⟨g1, g2⟩ := own_read hc hl hp hx hD (fW_none hf (okC_zero hc)) h
    exact ⟨g1.perm (List.perm_append_singleton _ _).symm, g2⟩
theorem op_store {D : Int → Prop} {c : List Word} {l p : List Int} {x v : Int} (hc : okC c) (hl : l.length = 8) (hp : p.length = 8) (h : own D c l p) (hx : 0 ≤ x ∧ x < 8) (hD : D x) :
    Op1 D l p (store c x v) l (p.set x.toNat v) := by
  unfold store
  split
  · rename_i hf
    obtain ⟨k1, k2, k3⟩ := fW_some hf
    obtain ⟨a, b, e1, e2, e3⟩ := split_at hf k1
    have hpm : c.Perm (wd c (fW x c) :: (a ++ b)) := by
      have := List.perm_middle (a := wd c (fW x c)) (l₁ := a) (l₂ := b)
      rw [← e1] at this
      exact this
    have hc' := okC_perm hpm hc
    have h' := own_perm hpm h
    obtain ⟨g1, g2⟩ := okC_tail hc'
    rw [e2]
    refine Op1.perm List.perm_middle.symm (own_in g1 hl hp hx hD (by rw [k3] at g2; exact g2) (fun w hw => h'.1 w (List.mem_cons_of_mem _ hw)) ?_)
    intro y h0 h1 hDy hyx hny
    exact h'.2 y h0 h1 hDy (fun w hw => by
      rcases List.mem_cons.1 hw with rfl | hw
      · rw [k3]; exact fun e => hyx e.symm
      · exact hny w hw)
  · rename_i hf
    refine Op1.perm (List.perm_append_singleton _ _).symm (own_in hc hl hp hx hD (fW_none hf (okC_zero hc)) h.1 ?_)
    intro y h0 h1 hDy _ hny
    exact h.2 y h0 h1 hDy hny
theorem op_atom {D : Int → Prop} {c : List Word} {l p : List Int} {x v : Int} (hc : okC c) (hl : l.length = 8) (hp : p.length = 8) (h : own D c l p) (hx : 0 ≤ x ∧ x < 8) (hD : D x) :
    ∃ l', (atom c [l] x v).2.1 = [l'] ∧ Op1 D l p (atom c [l] x v).1 l' (p.set x.toNat (Go.IntKind.wrap .i32 (gt p x + v))) := by
  have key : ∃ l1, (atom0 c [l] x).2.1 = [l1] ∧ Op1 D l p (atom0 c [l] x).1 l1 p ∧ ∀ e ∈ (atom0 c [l] x).1, e.2.1 ≠ x := by
    unfold atom0
    split
    · rename_i hf
      obtain ⟨k1, k2, k3⟩ := fW_some hf
      obtain ⟨g1, g2, g3⟩ := op_evict hc hl hp h hf k1
      rw [k3] at g3
      exact ⟨_, g1, g2, g3⟩
    · rename_i hf
      exact ⟨l, rfl, ⟨hc, hl, hp, h, fun _ _ _ _ => ⟨rfl, rfl⟩⟩, fW_none hf (okC_zero hc)⟩
  obtain ⟨l1, e1, g1, g2⟩ := key
  have hg : mget (atom0 c [l] x).2.1 x = gt p x := by
    rw [e1]
    exact g1.own.2 x hx.1 hx.2 hD g2
  refine ⟨l1.set x.toNat (Go.IntKind.wrap .i32 (gt p x + v)), ?_, ?_⟩
  · show setM (atom0 c [l] x).2.1 x (Go.IntKind.wrap .i32 (mget (atom0 c [l] x).2.1 x + v)) = _
    rw [hg, e1]; rfl
  · exact g1.trans (own_put g1.ok g1.len g1.lenp hx hD g2 g1.own)
theorem op_evictAt {D : Int → Prop} {c : List Word} {l p : List Int} {k : Int} (hc : okC c) (hl : l.length = 8) (hp : p.length = 8) (h : own D c l p) (hk : 0 ≤ k ∧ k < 8) :
    ∃ l', (evictAt c [l] k).2.1 = [l'] ∧ Op1 D l p (evictAt c [l] k).1 l' p := by
  unfold evictAt
  split
  · exact ⟨l, rfl, ⟨hc, hl, hp, h, fun _ _ _ _ => ⟨rfl, rfl⟩⟩⟩
  · rename_i hn
    have hle := okC_len hc
    obtain ⟨m1, m2, _⟩ := mod_in k c.length (by omega) ⟨by omega, by omega⟩ (by omega)
    obtain ⟨g1, g2, _⟩ := op_evict hc hl hp h m1 m2
    exact ⟨_, g1, g2⟩
theorem op_fl {D : Int → Prop} : ∀ {c : List Word} {l p : List Int}, okC c → l.length = 8 → p.length = 8 → own D c l p → ∃ l', fl c [l] = [l'] ∧ Op1 D l p [] l' p
  | [], l, p, hc, hl, hp, h => ⟨l, rfl, ⟨hc, hl, hp, h, fun _ _ _ _ => ⟨rfl, rfl⟩⟩⟩
  | w :: c, l, p, hc, hl, hp, h => by
    have g := own_out hc hl hp h
    obtain ⟨l', e, g'⟩ := op_fl g.ok g.len g.lenp g.own
    refine ⟨l', ?_, g.trans g'⟩
    show fl c (wback w [l]) = [l']
    rw [wback_one]; exact e
theorem okV.W {s : World} (h : okV s) : okW s := by
  obtain ⟨⟨l, e, hl⟩, h3, hc⟩ := h
  have hM : okM s.2.1 := by rw [e]; exact ⟨rfl, by show l.length ≤ 1000; omega⟩
  refine ⟨hM, h3, fun c hc' => ⟨hM, by have := okC_len (hc c hc'); omega, fun w hw => ?_⟩⟩
  have := (hc c hc').2 w hw
  rw [e]
  exact ⟨this.1, this.2.1, by show _ < (l.length : Int); rw [hl]; exact this.2.2⟩
theorem okV.mlen {s : World} (h : okV s) : ((s.2.1.getD 0 []).length : Int) = 8 := by
  obtain ⟨⟨l, e, hl⟩, _⟩ := h
  rw [e]; show (l.length : Int) = 8; omega
theorem okV.whole {s : World} (h : okV s) : whole s.2.1 = true := by
  obtain ⟨⟨l, e, hl⟩, _⟩ := h
  rw [e]
  simp [Sp.whole, hl]
theorem okV.at {s : World} (h : okV s) (n : Nat) (hn : n < 3) : okC (s.1.getD n []) := by
  have : n < s.1.length := by have := h.2.1; omega
  rw [getD_at this]
  exact h.2.2 _ (List.getElem_mem _)
/-- One core moves, and the memory. -/
theorem InvA.upd {D : Nat → Int → Prop} {s : World} {p : List Int} (hD : ∀ a b y, a < 3 → b < 3 → a ≠ b → D a y → ¬ D b y) (h : InvA D s p) {n : Nat} (hn : n < 3) {l l' p' : List Int} {c' : List Word} (e : s.2.1 = [l]) (h' : Op1 (D n) l p c' l' p') (u : Unit) :
    InvA D (s.1.set n c', [l'], u) p' := by
  have hlen := h.ok.2.1
  refine ⟨⟨⟨l', rfl, h'.len⟩, by show (s.1.set n c').length = 3; rw [List.length_set]; exact hlen, ?_⟩, h'.lenp, ?_, ?_⟩
  · intro c hc
    rcases List.mem_or_eq_of_mem_set hc with hc | hc
    · exact h.ok.2.2 c hc
    · rw [hc]; exact h'.ok
  · intro m hm
    show Sp.own (D m) ((s.1.set n c').getD m []) l' p'
    by_cases emn : n = m
    · subst emn
      rw [getD_set_self (by omega)]; exact h'.own
    · rw [getD_set_ne emn]
      have ho := h.own m hm
      rw [e] at ho
      have hok := h.ok.at m hm
      have fr : ∀ y, 0 ≤ y → y < 8 → D m y → gt l' y = gt l y ∧ gt p' y = gt p y := fun y h0 h1 hd => h'.frame y h0 h1 (hD m n y hm hn (fun e => emn e.symm) hd)
      refine ⟨fun w hw => ?_, fun x h0 h1 hd hnx => ?_⟩
      · obtain ⟨k1, k2, k3⟩ := ho.1 w hw
        have hr := (hok.2 w hw).2
        obtain ⟨f1, f2⟩ := fr _ hr.1 hr.2 k1
        rw [f1, f2]
        exact ⟨k1, k2, k3⟩
      · obtain ⟨f1, f2⟩ := fr x h0 h1 hd
        rw [f1, f2]
        exact ho.2 x h0 h1 hd hnx
  · intro x h0 h1 hx
    obtain ⟨f1, f2⟩ := h'.frame x h0 h1 (hx n hn)
    show gt l' x = gt p' x
    rw [f1, f2]
    have := h.rest x h0 h1 hx
    rw [e] at this
    exact this
def stepP (p : List Int) (kind x v : Int) : List Int := if kind = 1 then p.set x.toNat v else if kind = 2 then p.set x.toNat (Go.IntKind.wrap .i32 (gt p x + v)) else p
theorem InvA.step {D : Nat → Int → Prop} {s : World} {p : List Int} (hD : ∀ a b y, a < 3 → b < 3 → a ≠ b → D a y → ¬ D b y) (h : InvA D s p) {n kind x v : Int} (hn : 0 ≤ n ∧ n < 3) (hx : 0 ≤ x ∧ x < 8) (hDx : D n.toNat x) :
    InvA D (step s n kind x v).1 (stepP p kind x v) ∧ (kind = 0 → (step s n kind x v).2.1 = gt p x) := by
  have hn' : n.toNat < 3 := by omega
  obtain ⟨l, e, hl⟩ := h.ok.1
  have ho := h.own n.toNat hn'
  have hc := h.ok.at n.toNat hn'
  rw [e] at ho
  have ho : Sp.own (D n.toNat) (s.1.getD n.toNat []) l p := ho
  unfold Sp.step stepP
  rw [e]
  by_cases h0 : kind = 0
  · subst h0
    obtain ⟨g1, g2⟩ := op_load hc hl h.len ho hx hDx
    exact ⟨h.upd hD hn' e g1 (), fun _ => g2⟩
  · rw [if_neg h0]
    by_cases h1 : kind = 1
    · subst h1
      exact ⟨h.upd hD hn' e (op_store hc hl h.len ho hx hDx) (), fun e => by cases e⟩
    · rw [if_neg h1, if_neg h1]
      by_cases h2 : kind = 2
      · subst h2
        obtain ⟨l', e', g⟩ := op_atom (v := v) hc hl h.len ho hx hDx
        rw [if_pos rfl, if_pos rfl, e']
        exact ⟨h.upd hD hn' e g (), fun e => by cases e⟩
      · rw [if_neg h2, if_neg h2]
        by_cases h3 : kind = 3
        · subst h3
          obtain ⟨l', e', g⟩ := op_evictAt hc hl h.len ho hx
          rw [if_pos rfl, e']
          exact ⟨h.upd hD hn' e g (), fun e => by cases e⟩
        · rw [if_neg h3]
          obtain ⟨l', e', g⟩ := op_fl hc hl h.len ho
          rw [e']
          exact ⟨h.upd hD hn' e g (), fun e => absurd e h0⟩
theorem InvA.flush {D : Nat → Int → Prop} {s : World} {p : List Int} (hD : ∀ a b y, a < 3 → b < 3 → a ≠ b → D a y → ¬ D b y) (h : InvA D s p) {n : Nat} (hn : n < 3) :
    InvA D (s.1.set n [], fl (s.1.getD n []) s.2.1, ()) p := by
  obtain ⟨l, e, hl⟩ := h.ok.1
  have ho := h.own n hn
  rw [e] at ho
  obtain ⟨l', e', g⟩ := op_fl (h.ok.at n hn) hl h.len ho
  rw [e, e']
  exact h.upd hD hn e g ()
theorem D3_sep : ∀ a b y, a < 3 → b < 3 → a ≠ b → D3 a y → ¬ D3 b y := fun a b y _ _ hab h1 h2 => hab (h1.trans h2.symm)
theorem D5_sep : ∀ a b y, a < 3 → b < 3 → a ≠ b → D5 a y → ¬ D5 b y := fun a b y _ _ hab h1 h2 => by
  unfold D5 at h1 h2
  exact hab (by omega)
/-- With all caches empty the memory is the single one. -/
theorem InvA.same {D : Nat → Int → Prop} {s : World} {p : List Int} (h : InvA D s p) (hd : ∀ n x, Decidable (D n x)) (he : ∀ n, n < 3 → (∃ x, 0 ≤ x ∧ x < 8 ∧ D n x) → s.1.getD n [] = []) : s.2.1 = [p] := by
  obtain ⟨l, e, hl⟩ := h.ok.1
  rw [e]
  congr 1
  refine List.ext_getElem (hl.trans h.len.symm) (fun i h1 h2 => ?_)
  have h1' : i < 8 := by omega
  have : gt l (i : Int) = gt p (i : Int) := by
    by_cases hx : ∃ n, n < 3 ∧ D n (i : Int)
    · obtain ⟨n, hn, hDn⟩ := hx
      have ho := h.own n hn
      rw [e, he n hn ⟨(i : Int), by omega, by omega, hDn⟩] at ho
      exact ho.2 (i : Int) (by omega) (by omega) hDn (fun w hw => by cases hw)
    · have := h.rest (i : Int) (by omega) (by omega) (fun n hn hDn => hx ⟨n, hn, hDn⟩)
      rw [e] at this
      exact this
  unfold gt at this
  rw [Int.toNat_natCast, getD_at h1, getD_at h2] at this
  exact this
theorem begin_ok (f : Int) : okV (begin f) := by
  refine ⟨⟨ramp f 8, rfl, ramp_len f 8⟩, rfl, ?_⟩
  intro c hc
  have hc : c ∈ ([[], [], []] : List (List Word)) := hc
  simp only [List.mem_cons, List.not_mem_nil, or_false, or_self] at hc
  rw [hc]; exact okC_nil
theorem begin_get (f : Int) (n : Nat) (hn : n < 3) : (begin f).1.getD n [] = [] := by
  match n, hn with
  | 0, _ => rfl
  | 1, _ => rfl
  | 2, _ => rfl
theorem begin_inv (D : Nat → Int → Prop) (f : Int) : InvA D (begin f) (ramp f 8) := by
  refine ⟨begin_ok f, ramp_len f 8, ?_, fun _ _ _ _ => rfl⟩
  intro n hn
  rw [begin_get f n hn]
  exact ⟨fun w hw => (by cases hw), fun _ _ _ _ _ => rfl⟩
/-- Steps alone. -/
theorem okV.upd {s : World} (h : okV s) (n : Nat) {l : List Int} {c : List Word} (hc : okC c) (hl : l.length = 8) (u : Unit) : okV (s.1.set n c, [l], u) := by
  refine ⟨⟨l, rfl, hl⟩, by show (s.1.set n c).length = 3; rw [List.length_set]; exact h.2.1, ?_⟩
  intro c' hc'
  rcases List.mem_or_eq_of_mem_set hc' with hc' | hc'
  · exact h.2.2 c' hc'
  · rw [hc']; exact hc
theorem okC_del {c : List Word} (h : okC c) (k : Int) : okC (c.take k.toNat ++ c.drop (k + 1).toNat) := ⟨nodup_del h.1, fun w hw => h.2 w (mem_del hw)⟩
theorem okC_load {c : List Word} (h : okC c) (m : Memo) {x : Int} (hx : 0 ≤ x ∧ x < 8) : okC (load c m x).2.1 := by
  unfold load
  split
  · exact h
  · rename_i hf
    exact okC_perm (List.perm_append_singleton _ _).symm (okC_cons h hx (fW_none hf (okC_zero h)))
theorem okC_store {c : List Word} (h : okC c) {x v : Int} (hx : 0 ≤ x ∧ x < 8) : okC (store c x v) := by
  unfold store
  split
  · rename_i hf
    obtain ⟨k1, k2, k3⟩ := fW_some hf
    obtain ⟨a, b, e1, e2, e3⟩ := split_at hf k1
    have hpm : c.Perm (wd c (fW x c) :: (a ++ b)) := by
      have := List.perm_middle (a := wd c (fW x c)) (l₁ := a) (l₂ := b)
      rw [← e1] at this
      exact this
    obtain ⟨g1, g2⟩ := okC_tail (okC_perm hpm h)
    rw [e2]
    exact okC_perm List.perm_middle.symm (okC_cons g1 hx (by rw [k3] at g2; exact g2))
  · rename_i hf
    exact okC_perm (List.perm_append_singleton _ _).symm (okC_cons h hx (fW_none hf (okC_zero h)))
theorem evict_one (c : List Word) (l : List Int) (k : Int) : (evict c [l] k).2.1 = [wb (wd c k) l] := wback_one _ _
theorem atom0_one {c : List Word} (h : okC c) (l : List Int) (x : Int) : ∃ l', (atom0 c [l] x).2.1 = [l'] ∧ l'.length = l.length ∧ okC (atom0 c [l] x).1 := by
  unfold atom0
  split
  · exact ⟨_, evict_one _ _ _, wb_len _ _, okC_del h _⟩
  · exact ⟨l, rfl, rfl, h⟩
theorem evictAt_one {c : List Word} (h : okC c) (l : List Int) (x : Int) : ∃ l', (evictAt c [l] x).2.1 = [l'] ∧ l'.length = l.length ∧ okC (evictAt c [l] x).1 := by
  unfold evictAt
  split
  · exact ⟨l, rfl, rfl, h⟩
  · exact ⟨_, evict_one _ _ _, wb_len _ _, okC_del h _⟩
theorem fl_one : ∀ (c : List Word) (l : List Int), ∃ l', fl c [l] = [l'] ∧ l'.length = l.length
  | [], l => ⟨l, rfl, rfl⟩
  | w :: c, l => by
    obtain ⟨l', e, h⟩ := fl_one c (wb w l)
    refine ⟨l', ?_, h.trans (wb_len _ _)⟩
    show fl c (wback w [l]) = _
    rw [wback_one]; exact e
theorem okV.step {s : World} (h : okV s) {n kind x v : Int} (hn : 0 ≤ n ∧ n < 3) (hx : 0 ≤ x ∧ x < 8) : okV (step s n kind x v).1 := by
  have hn' : n.toNat < 3 := by omega
  have hc := h.at n.toNat hn'
  obtain ⟨l, e, hl⟩ := h.1
  unfold Sp.step
  rw [e]
  split
  · exact h.upd _ (okC_load hc _ hx) hl ()
  split
  · exact h.upd _ (okC_store hc hx) hl ()
  split
  · obtain ⟨l', e', h1, h2⟩ := atom0_one hc l x
    show okV (s.1.set n.toNat (atom0 (s.1.getD n.toNat []) [l] x).1, setM (atom0 (s.1.getD n.toNat []) [l] x).2.1 x _, ())
    rw [e']
    exact h.upd _ h2 (by show (l'.set _ _).length = 8; rw [List.length_set]; omega) ()
  split
  · obtain ⟨l', e', h1, h2⟩ := evictAt_one hc l x
    show okV (s.1.set n.toNat (evictAt (s.1.getD n.toNat []) [l] x).1, (evictAt (s.1.getD n.toNat []) [l] x).2.1, ())
    rw [e']
    exact h.upd _ h2 (by omega) ()
  · obtain ⟨l', e', h1⟩ := fl_one (s.1.getD n.toNat []) l
    show okV (s.1.set n.toNat [], fl (s.1.getD n.toNat []) [l], ())
    rw [e']
    exact h.upd _ okC_nil (by omega) ()
/-- Clean caches: nothing is written back. -/
def cleanC (c : List Word) : Prop := ∀ w ∈ c, w.2.2.2.1 = false
theorem clean.at {s : World} (h : clean s) (n : Nat) : cleanC (s.1.getD n []) := by
  by_cases hn : n < s.1.length
  · rw [getD_at hn]; exact h _ (List.getElem_mem _)
  · have : s.1.getD n [] = [] := by
      rw [List.getD_eq_getElem?_getD, List.getElem?_eq_none (by omega)]; rfl
    rw [this]; intro w hw; cases hw
theorem wback_clean {w : Word} (h : w.2.2.2.1 = false) (m : Memo) : wback w m = m := by
  unfold wback; rw [if_neg (by rw [h]; decide)]
theorem evict_clean {c : List Word} (h : cleanC c) (m : Memo) (k : Int) : (evict c m k).2.1 = m ∧ cleanC (evict c m k).1 := by
  refine ⟨?_, fun w hw => h w (mem_del hw)⟩
  refine wback_clean ?_ m
  unfold wd
  by_cases hk : k.toNat < c.length
  · rw [getD_at hk]; exact h _ (List.getElem_mem _)
  · have : c.getD k.toNat wd0 = wd0 := by
      rw [List.getD_eq_getElem?_getD, List.getElem?_eq_none (by omega)]; rfl
    rw [this]; rfl
theorem atom0_clean {c : List Word} (h : cleanC c) (m : Memo) (x : Int) : (atom0 c m x).2.1 = m ∧ cleanC (atom0 c m x).1 := by
  unfold atom0
  split
  · exact evict_clean h m _
  · exact ⟨rfl, h⟩
theorem evictAt_clean {c : List Word} (h : cleanC c) (m : Memo) (x : Int) : (evictAt c m x).2.1 = m ∧ cleanC (evictAt c m x).1 := by
  unfold evictAt
  split
  · exact ⟨rfl, h⟩
  · exact evict_clean h m _
theorem fl_clean : ∀ {c : List Word}, cleanC c → ∀ (m : Memo), fl c m = m
  | [], _, _ => rfl
  | w :: c, h, m => by
    show fl c (wback w m) = m
    rw [wback_clean (h w (List.mem_cons_self ..)) m]
    exact fl_clean (fun e he => h e (List.mem_cons_of_mem _ he)) m
theorem load_clean {c : List Word} (h : cleanC c) (m : Memo) (x : Int) : cleanC (load c m x).2.1 := by
  unfold load
  split
  · exact h
  · intro w hw
    rcases List.mem_append.1 hw with hw | hw
    · exact h w hw
    · rw [List.mem_singleton] at hw; rw [hw]
theorem clean.set {s : World} (h : clean s) (n : Nat) {c : List Word} (hc : cleanC c) (m : Memo) (u : Unit) : clean (s.1.set n c, m, u) := by
  intro c' hc'
  rcases List.mem_or_eq_of_mem_set hc' with hc' | hc'
  · exact h c' hc'
  · rw [hc']; exact hc
theorem clean.step {s : World} (h : clean s) {n kind x v : Int} (hk : kind ≠ 1) : clean (step s n kind x v).1 ∧ (step s n kind x v).1.2.1 = if kind = 2 then setM s.2.1 x (Go.IntKind.wrap .i32 (mget s.2.1 x + v)) else s.2.1 := by
  have hc := h.at n.toNat
  unfold Sp.step
  by_cases h0 : kind = 0
  · rw [if_pos h0, if_neg (by omega)]
    exact ⟨h.set _ (load_clean hc _ _) _ _, rfl⟩
  rw [if_neg h0, if_neg hk]
  by_cases h2 : kind = 2
  · obtain ⟨g1, g2⟩ := atom0_clean hc s.2.1 x
    rw [if_pos h2, if_pos h2]
    refine ⟨h.set _ g2 _ _, ?_⟩
    show setM (atom0 _ s.2.1 x).2.1 x (Go.IntKind.wrap .i32 (mget (atom0 _ s.2.1 x).2.1 x + v)) = _
    rw [g1]
  rw [if_neg h2, if_neg h2]
  by_cases h3 : kind = 3
  · obtain ⟨g1, g2⟩ := evictAt_clean hc s.2.1 x
    rw [if_pos h3]
    exact ⟨h.set _ g2 _ _, g1⟩
  · rw [if_neg h3]
    exact ⟨h.set _ (fun w hw => by cases hw) _ _, fl_clean hc _⟩
theorem begin_clean (f : Int) : clean (begin f) := by
  intro c hc
  have hc : c ∈ ([[], [], []] : List (List Word)) := hc
  simp only [List.mem_cons, List.not_mem_nil, or_false, or_self] at hc
  rw [hc]; intro w hw; cases hw
/-- A flush, word for word. -/
theorem fl_append : ∀ (a b : List Word) (m : Memo), fl (a ++ b) m = fl b (fl a m)
  | [], b, m => rfl
  | w :: a, b, m => fl_append a b (wback w m)
theorem fl_succ {c : List Word} {k : Nat} (h : k < c.length) (m : Memo) : fl (c.take (k + 1)) m = wback (wd c k) (fl (c.take k) m) := by
  rw [take_succ h wd0, fl_append]; rfl
/-- The cache that is stale. -/
theorem load_next (m : Memo) (i x : Int) : load [(0, i, x, false, ())] m (i + 1) = (mget m (i + 1), [(0, i, x, false, ()), (0, i + 1, mget m (i + 1), false, ())], ()) := by
  have h : fW (i + 1) [(0, i, x, false, ())] = -1 := by
    have : decide (i = i + 1) = false := by simp; omega
    simp [fW, findW, cloW, atW, List.findIdx?_cons, this]
  unfold load
  rw [h]
  rfl
theorem load_old (m : Memo) (i x y : Int) : load [(0, i, x, false, ()), (0, i + 1, y, false, ())] m i = (x, [(0, i, x, false, ()), (0, i + 1, y, false, ())], ()) := by
  have h : fW i [(0, i, x, false, ()), (0, i + 1, y, false, ())] = 0 := by
    simp [fW, findW, cloW, atW, List.findIdx?_cons]
  unfold load
  rw [h]
  rfl
theorem store_nil (i v : Int) : store [] i v = [(0, i, v, true, ())] := rfl
theorem fl_word (m : Memo) (i v : Int) : fl [(0, i, v, true, ())] m = setM m i v := rfl
theorem fl_two (m : Memo) (i x j y : Int) : fl [(0, i, x, false, ()), (0, j, y, false, ())] m = m := rfl
theorem evictAt_two (m : Memo) (i x j y : Int) : evictAt [(0, i, x, false, ()), (0, j, y, false, ())] m 0 = ([(0, j, y, false, ())], m, ()) := by
  unfold evictAt
  rw [if_neg (by simp)]
  have : ((0 : Int).tmod (([(0, i, x, false, ()), (0, j, y, false, ())] : List Word).length : Int) + (([(0, i, x, false, ()), (0, j, y, false, ())] : List Word).length : Int)).tmod (([(0, i, x, false, ()), (0, j, y, false, ())] : List Word).length : Int) = 0 := by
    simp only [List.length_cons, List.length_nil]
    decide
  rw [this]
  rfl
theorem load_prev (m : Memo) (i x : Int) : load [(0, i + 1, x, false, ())] m i = (mget m i, [(0, i + 1, x, false, ()), (0, i, mget m i, false, ())], ()) := by
  have h : fW i [(0, i + 1, x, false, ())] = -1 := by
    have : decide (i + 1 = i) = false := by simp; omega
    simp [fW, findW, cloW, atW, List.findIdx?_cons, this]
  unfold load
  rw [h]
  rfl
theorem load_old2 (m : Memo) (i x y : Int) : load [(0, i + 1, x, false, ()), (0, i, y, false, ())] m (i + 1) = (x, [(0, i + 1, x, false, ()), (0, i, y, false, ())], ()) := by
  have h : fW (i + 1) [(0, i + 1, x, false, ()), (0, i, y, false, ())] = 0 := by
    simp [fW, findW, cloW, atW, List.findIdx?_cons]
  unfold load
  rw [h]
  rfl
theorem okV_three {a b c : List Word} {l : List Int} (ha : okC a) (hb : okC b) (hc : okC c) (hl : l.length = 8) (u : Unit) : okV ([a, b, c], [l], u) := by
  refine ⟨⟨l, rfl, hl⟩, rfl, ?_⟩
  intro d hd
  have hd : d ∈ [a, b, c] := hd
  simp only [List.mem_cons, List.not_mem_nil, or_false] at hd
  rcases hd with rfl | rfl | rfl
  · exact ha
  · exact hb
  · exact hc
theorem okC_one {x v : Int} {d : Bool} (hx : 0 ≤ x ∧ x < 8) : okC [(0, x, v, d, ())] := okC_cons okC_nil hx (fun w hw => by cases hw)
theorem okC_two {x v y z : Int} {d e : Bool} (hx : 0 ≤ x ∧ x < 8) (hy : 0 ≤ y ∧ y < 8) (hn : y ≠ x) : okC [(0, x, v, d, ()), (0, y, z, e, ())] := okC_cons (okC_one hy) hx (fun w hw => by
  rw [List.mem_singleton] at hw; rw [hw]; exact hn)
theorem ramp_get {i : Int} (h : 0 ≤ i ∧ i < 8) : mget [ramp 4 8] i = Go.IntKind.wrap .i32 (4 + i) := by
  obtain ⟨k, rfl⟩ : ∃ k : Nat, i = k := ⟨i.toNat, by omega⟩
  have hk : k < 8 := by omega
  match k, hk with
  | 0, _ => decide +kernel
  | 1, _ => decide +kernel
  | 2, _ => decide +kernel
  | 3, _ => decide +kernel
  | 4, _ => decide +kernel
  | 5, _ => decide +kernel
  | 6, _ => decide +kernel
  | 7, _ => decide +kernel
end Sp
namespace Go.User
open Go.Lf Go.Proofs
theorem fnsL : True := trivial
theorem mod_r (a : Int) (n : Int) (h : 0 < n) : 0 ≤ a % n ∧ a % n < n := ⟨Int.emod_nonneg _ (by omega), Int.emod_lt_of_pos _ h⟩
abbrev t1 : Sp.Lit := ([[(2, 0, 1, ()), (2, 1, 1, ())], [(1, 1, 0, ()), (1, 0, 0, ())]], ())
abbrev t2 : Sp.Lit := ([[(2, 0, 1, ()), (4, 0, 0, ()), (2, 1, 1, ())], [(1, 1, 0, ()), (4, 0, 0, ()), (1, 0, 0, ())]], ())
abbrev c1 : List Int := [0, 0, 2, 0, 0]
abbrev c2 : List Int := [0, 0, 0, 1, 0, 0, 0]
theorem e1 : (Sp.gE t1 c1).length = 4 := by decide +kernel
theorem e2 : (Sp.gE t2 c2).length = 6 := by decide +kernel
theorem e3 : (Sp.gM t1 c1).length = 3 := by decide +kernel
theorem e4 : (Sp.gO t2 c2).length = 2 := by decide +kernel
theorem e5 : (Sp.gF t1 c1).length = 4 := by decide +kernel
theorem e6 : (Sp.gF t2 c2).length = 6 := by decide +kernel
theorem e7 : (Sp.gF t1 c1).getD 2 0 = 1 := by decide +kernel
theorem e8 : (Sp.gF t1 c1).getD 3 0 = -1 := by decide +kernel
theorem e9 : (Sp.gF t2 c2).getD 5 0 = 0 := by decide +kernel
theorem okT1 : Sp.okT t1 := by
  refine ⟨by decide, by decide +kernel, ?_⟩
  unfold Sp.opOK; decide
theorem okT2 : Sp.okT t2 := by
  refine ⟨by decide, by decide +kernel, ?_⟩
  unfold Sp.opOK; decide
theorem ok9 : FOk Try.prog 9 S9 := by
  have hC : CtxOK Try.prog C9 := okC (fns_cons ok16 (fns_cons ok19 fns_nil)) rfl rfl rfl rfl rfl rfl
  refine FOk.intro hC (stpR_ok hC) Try.call9 Try.func9 (by kernel_rfl) (by kernel_rfl) L9 (vc9.mpr ?_)
  simp only [z1, z2, z3, z4, z5, z6, z7, z8, z9, z10, z11, z12, z13, z14, z15, z16, z17, z18, z19, z20, z21, z22, z23, z24, z25, z26, z27, z28, z29, z30, z31, z32, z33, z34, z35, z36, z37, z38]
  refine ⟨okT1, okT2, ?_⟩
  have i2 : Int.toNat 2 = 2 := rfl
  have i3 : Int.toNat 3 = 3 := rfl
  have i5 : Int.toNat 5 = 5 := rfl
  simp only [i2, i3, i5, e1, e2, e3, e4, e5, e6, e7, e8, e9]
  refine ⟨by decide, fun _ => ⟨⟨Sp.okS_nil ⟨rfl, by decide⟩, by decide, by decide⟩, ⟨⟨by decide, by decide⟩, ⟨by decide, by decide⟩, ⟨by decide, by decide⟩, ⟨by decide, by decide⟩, ⟨by decide, by decide⟩, ⟨by decide, by decide⟩, ⟨by decide, by decide⟩, by decide, by decide⟩, ?_⟩⟩
  decide
theorem okL {n : Nat} : CtxOK Try.prog (mkL n) := okC (C := mkL n) (fns_cons ok9 (fns_cons ok10 (fns_cons ok11 (fns_cons ok12 (fns_cons ok13 (fns_cons ok14 fns_nil)))))) rfl rfl rfl rfl rfl rfl
theorem ok3 : FOk Try.prog 3 S3 := by
  have hC : CtxOK Try.prog C3 := okL
  refine FOk.intro hC (stpR_ok hC) Try.call3 Try.func3 (by kernel_rfl) (by kernel_rfl) L3 (vc3.mpr ?_)
  simp only [z1, z2, z3, z4, z5, z6, z7, z8, z9, z10, z11, z12, z13, z14, z15, z16, z17, z18, z19, z20, z21, z22, z23, z24, z25, z26, z27, z28, z29, z30, z31, z32, z33, z34, z35, z36, z37, z38]
  rintro ⟨a, u⟩ hx
  have ha : a.length ≤ lim := hx.1
  rw [lim_eq] at ha
  dsimp only
  refine ⟨⟨by decide, fun l hl => ?_⟩, ⟨(0, Sp.begin 0, Sp.ramp 0 8), ⟨Nat.zero_le _, Sp.begin_inv _ _⟩, rfl, rfl, rfl⟩, ?_⟩
  · rw [List.mem_singleton] at hl
    rw [hl, Sp.ramp_len]; decide
  · rintro ⟨i, s, p⟩ ⟨hi, hI⟩ hk
    have hi : i ≤ a.length := hi
    have hI : Sp.InvA Sp.D3 s p := hI
    dsimp only
    generalize he : a.getD i (0, 0, 0, 0, ()) = e
    have hx := mod_r e.2.2.1 8 (by decide)
    generalize e.2.2.1 % 8 = x at *
    generalize e.2.1 % 5 = kd at *
    generalize e.2.2.2.1 = v
    obtain ⟨hS, hL⟩ := hI.step Sp.D3_sep (n := 0) (kind := kd) (x := x) (v := v) ⟨Int.le_refl _, by decide⟩ hx rfl
    have hw := hS.ok.whole
    have hp : p.length = 8 := hI.len
    have nx : i < a.length → ∀ q, q = [Sp.stepP p kd x v] → ∃ y : Nat × Sp.World × List Int, (y.1 ≤ a.length ∧ Sp.InvA Sp.D3 y.2.1 y.2.2) ∧ a.length - y.1 < a.length - i ∧ (i : Int) + 1 = (y.1 : Int) ∧ (Sp.step s 0 kd x v).1 = y.2.1 ∧ q = [y.2.2] :=
      fun h q hq => ⟨(i + 1, (Sp.step s 0 kd x v).1, Sp.stepP p kd x v), ⟨h, hS⟩, by show a.length - (i + 1) < a.length - i; omega, by show (i : Int) + 1 = ((i + 1 : Nat) : Int); omega, rfl, hq⟩
    have hm := hI.ok.mlen
    have hin : inN x ([p].getD (Int.toNat 0) []).length := ⟨hx.1, by show x < (p.length : Int); omega⟩
    refine ⟨fun hlt => ?_, fun hge => ?_⟩
    · have hil : i < a.length := by have := hlt.1; omega
      have hii : inN (i : Int) a.length := inN_of hlt.1
      have hik : inK .i64 ((i : Int) + 1) := by rw [inK]; exact inK_of (by omega) (by omega)
      refine ⟨⟨hii, by decide⟩, ⟨hii, by decide, hii, hI.ok.W, by decide, by decide, hx.1, by rw [hm]; exact hx.2⟩, fun h => (by rw [hw] at h; cases h), fun _ => ⟨⟨hii, by decide⟩, fun h0 => ⟨⟨⟨by decide, by decide⟩, hin⟩, fun h => h (hL h0), fun _ => ⟨hik, nx hil _ ?_⟩⟩, fun h0 => ⟨fun h1 => ⟨⟨⟨by decide, by decide⟩, hii, hin⟩, hik, nx hil _ ?_⟩, fun h1 => ⟨fun h2 => ⟨⟨⟨by decide, by decide⟩, hin, hii, hin⟩, hik, nx hil _ ?_⟩, fun h2 => ⟨hik, nx hil _ ?_⟩⟩⟩⟩⟩
      · unfold Sp.stepP; rw [if_neg (by omega), if_neg (by omega)]
      · unfold Sp.stepP; rw [if_pos h1]; rfl
      · unfold Sp.stepP; rw [if_neg h1, if_pos h2]; rfl
      · unfold Sp.stepP; rw [if_neg h1, if_neg h2]
    · have hF := hI.flush Sp.D3_sep (n := 0) (by decide)
      have he := hF.same (fun n x => inferInstanceAs (Decidable (n = 0))) (fun n hn hx => by
        obtain ⟨x, _, _, hx⟩ := hx
        have hx : n = 0 := hx
        subst hx
        exact Sp.getD_set_self (by rw [hI.ok.2.1]; decide))
      have he : Sp.fl (s.1.getD 0 []) s.2.1 = [p] := he
      have h3 : 0 < s.1.length := by rw [hI.ok.2.1]; decide
      simp only [Int.toNat_zero]
      rw [he, Sp.getD_set_self h3]
      refine ⟨⟨hI.ok.W, by decide, by decide, by decide, by rw [hm]; decide⟩, fun _ => ⟨by decide, by rw [List.length_set]; omega⟩, ?_⟩
      simp [Sp.sameM]
theorem ok5 : FOk Try.prog 5 S5 := by
  have hC : CtxOK Try.prog C5 := okL
  refine FOk.intro hC (stpR_ok hC) Try.call5 Try.func5 (by kernel_rfl) (by kernel_rfl) L5 (vc5.mpr ?_)
  simp only [z1, z2, z3, z4, z5, z6, z7, z8, z9, z10, z11, z12, z13, z14, z15, z16, z17, z18, z19, z20, z21, z22, z23, z24, z25, z26, z27, z28, z29, z30, z31, z32, z33, z34, z35, z36, z37, z38]
  rintro ⟨a, u⟩ hx
  have ha : a.length ≤ lim := hx.1
  rw [lim_eq] at ha
  dsimp only
  refine ⟨⟨by decide, fun l hl => ?_⟩, ⟨(0, Sp.begin 1, Sp.ramp 1 8), ⟨Nat.zero_le _, Sp.begin_inv _ _⟩, rfl, rfl, rfl⟩, ?_⟩
  · rw [List.mem_singleton] at hl
    rw [hl, Sp.ramp_len]; decide
  · rintro ⟨i, s, p⟩ ⟨hi, hI⟩ hk
    have hi : i ≤ a.length := hi
    have hI : Sp.InvA Sp.D5 s p := hI
    dsimp only
    generalize he : a.getD i (0, 0, 0, 0, ()) = e
    have hn := mod_r e.1 3 (by decide)
    have hy := mod_r e.2.2.1 2 (by decide)
    generalize e.1 % 3 = n at *
    generalize e.2.2.1 % 2 = y at *
    generalize e.2.1 % 5 = kd at *
    generalize e.2.2.2.1 = v
    have hx : 0 ≤ 2 * n + y ∧ 2 * n + y < 8 := by omega
    have hD : Sp.D5 n.toNat (2 * n + y) := by unfold Sp.D5; omega
    generalize 2 * n + y = x at *
    obtain ⟨hS, hL⟩ := hI.step Sp.D5_sep (n := n) (kind := kd) (x := x) (v := v) hn hx hD
    have hw := hS.ok.whole
    have hp : p.length = 8 := hI.len
    have nx : i < a.length → ∀ q, q = [Sp.stepP p kd x v] → ∃ y : Nat × Sp.World × List Int, (y.1 ≤ a.length ∧ Sp.InvA Sp.D5 y.2.1 y.2.2) ∧ a.length - y.1 < a.length - i ∧ (i : Int) + 1 = (y.1 : Int) ∧ (Sp.step s n kd x v).1 = y.2.1 ∧ q = [y.2.2] :=
      fun h q hq => ⟨(i + 1, (Sp.step s n kd x v).1, Sp.stepP p kd x v), ⟨h, hS⟩, by show a.length - (i + 1) < a.length - i; omega, by show (i : Int) + 1 = ((i + 1 : Nat) : Int); omega, rfl, hq⟩
    have hm := hI.ok.mlen
    have hin : inN x ([p].getD (Int.toNat 0) []).length := ⟨hx.1, by show x < (p.length : Int); omega⟩
    have hnc : 2 < n.toNat → False := by omega
    have hb : (kd == 0 && (Sp.step s n kd x v).2.1 != ([p].getD (Int.toNat 0) []).getD x.toNat 0) = false := by
      by_cases h0 : kd = 0
      · have h1 : (Sp.step s n kd x v).2.1 = ([p].getD (Int.toNat 0) []).getD x.toNat 0 := hL h0
        rw [h1]; simp
      · simp [h0]
    rw [hw, hb]
    refine ⟨fun hlt => ?_, fun _ => ⟨⟨(0, s, p), ⟨Nat.zero_le _, hI, fun n h1 h2 => by have h2 : 2 < n + 0 := h2; omega⟩, rfl, rfl, rfl⟩, ?_⟩⟩
    · have hil : i < a.length := by have := hlt.1; omega
      have hii : inN (i : Int) a.length := inN_of hlt.1
      have hik : inK .i64 ((i : Int) + 1) := inK_of (by omega) (by omega)
      refine ⟨⟨hii, by decide⟩, ⟨inK_of (by omega) (by omega), hii, by decide, inK_of (by omega) (by omega), hii, by decide⟩, ⟨hii, hI.ok.W, hn.1, hn.2, hx.1, by rw [hm]; exact hx.2⟩, ⟨fun _ => ⟨by decide, by decide⟩, fun _ => hin⟩, fun h => (by cases h), fun _ => ⟨fun h1 => ⟨⟨⟨by decide, by decide⟩, hii, hin⟩, fun h2 => (by omega), fun _ => ⟨hik, nx hil _ ?_⟩⟩, fun h1 => ⟨fun h2 => ⟨⟨⟨by decide, by decide⟩, hin, hii, hin⟩, hik, nx hil _ ?_⟩, fun h2 => ⟨hik, nx hil _ ?_⟩⟩⟩⟩
      · unfold Sp.stepP; rw [if_pos h1]; rfl
      · unfold Sp.stepP; rw [if_neg h1, if_pos h2]; rfl
      · unfold Sp.stepP; rw [if_neg h1, if_neg h2]
    · clear hin hm nx hp hL hw hS hb hI hk
      rintro ⟨j, s, p⟩ ⟨hj, hI, he⟩ hk
      have hj : j ≤ 3 := hj
      have hI : Sp.InvA Sp.D5 s p := hI
      have he : ∀ n, n < 3 → 2 < n + j → s.1.getD n [] = [] := he
      dsimp only
      refine ⟨fun hge => ?_, fun hlt => ?_⟩
      · have hn : (2 - (j : Int)).toNat < 3 := by omega
        have hF := hI.flush Sp.D5_sep hn
        refine ⟨⟨hI.ok.W, hge, by omega, by decide, by rw [hI.ok.mlen]; decide⟩, inK_of (by omega) (by omega), ⟨(j + 1, _, p), ⟨by show j + 1 ≤ 3; omega, hF, fun n h1 h2 => ?_⟩, by show 3 - (j + 1) < 3 - j; omega, by show 2 - (j : Int) - 1 = 2 - ((j + 1 : Nat) : Int); omega, rfl, rfl⟩⟩
        have h2 : 2 < n + (j + 1) := h2
        show (s.1.set (2 - (j : Int)).toNat []).getD n [] = []
        by_cases en : (2 - (j : Int)).toNat = n
        · rw [en]; exact Sp.getD_set_self (by rw [hI.ok.2.1]; omega)
        · rw [Sp.getD_set_ne en]; exact he n h1 (by omega)
      · have := hI.same (fun n x => inferInstanceAs (Decidable (x / 2 = n))) (fun n h1 _ => he n h1 (by omega))
        rw [this]
        simp [Sp.sameM]
theorem ok6 : FOk Try.prog 6 S6 := by
  have hC : CtxOK Try.prog C6 := okL
  refine FOk.intro hC (stpR_ok hC) Try.call6 Try.func6 (by kernel_rfl) (by kernel_rfl) L6 (vc6.mpr ?_)
  simp only [z1, z2, z3, z4, z5, z6, z7, z8, z9, z10, z11, z12, z13, z14, z15, z16, z17, z18, z19, z20, z21, z22, z23, z24, z25, z26, z27, z28, z29, z30, z31, z32, z33, z34, z35, z36, z37, z38]
  rintro ⟨a, u⟩ hx
  have ha : a.length ≤ lim := hx.1
  rw [lim_eq] at ha
  dsimp only
  refine ⟨⟨by decide, fun l hl => ?_⟩, ⟨(0, Sp.begin 2), ⟨Nat.zero_le _, Sp.begin_ok _, Sp.begin_clean _⟩, rfl, rfl, rfl⟩, ?_⟩
  · rw [List.mem_singleton] at hl
    rw [hl, Sp.ramp_len]; decide
  · rintro ⟨i, s⟩ ⟨hi, hV, hcl⟩ hk
    have hi : i ≤ a.length := hi
    have hV : Sp.okV s := hV
    have hcl : Sp.clean s := hcl
    dsimp only
    generalize he : a.getD i (0, 0, 0, 0, ()) = e
    have hn := mod_r e.1 3 (by decide)
    have hx := mod_r e.2.2.1 8 (by decide)
    generalize e.1 % 3 = n at *
    generalize e.2.2.1 % 8 = x at *
    generalize e.2.1 % 5 = kd at *
    generalize e.2.2.2.1 = v
    have key : ∀ kind, kind ≠ 1 → ∀ s' m', s' = (Sp.step s n kind x v).1 → m' = (if kind = 2 then Sp.setM s.2.1 x (IntKind.wrap .i32 (Sp.mget s.2.1 x + v)) else s.2.1) → i < a.length →
        ∃ y : Nat × Sp.World, (y.1 ≤ a.length ∧ Sp.okV y.2 ∧ Sp.clean y.2) ∧ a.length - y.1 < a.length - i ∧ (i : Int) + 1 = (y.1 : Int) ∧ s' = y.2 ∧ m' = y.2.2.1 := by
      intro kind hk s' m' e1 e2 hlt
      obtain ⟨g1, g2⟩ := hcl.step (n := n) (x := x) (v := v) hk
      exact ⟨(i + 1, (Sp.step s n kind x v).1), ⟨hlt, hV.step hn hx, g1⟩, by show a.length - (i + 1) < a.length - i; omega, by show (i : Int) + 1 = ((i + 1 : Nat) : Int); omega, e1, e2.trans g2.symm⟩
    have hw : ∀ kind, Sp.whole (Sp.step s n kind x v).1.2.1 = true := fun kind => (hV.step hn hx).whole
    have hw2 := hw 2
    have hm := hV.mlen
    have hin : inN x (s.2.1.getD (Int.toNat 0) []).length := ⟨hx.1, by show x < ((s.2.1.getD 0 []).length : Int); omega⟩
    have hl1 : inN 0 s.2.1.length := ⟨by decide, by have := hV.W.1.1; omega⟩
    refine ⟨fun hlt => ?_, fun _ => by simp [Sp.sameM]⟩
    have hil : i < a.length := by have := hlt.1; omega
    have hii : inN (i : Int) a.length := inN_of hlt.1
    have hik : inK .i64 ((i : Int) + 1) := inK_of (by omega) (by omega)
    have hx8 : x < ((s.2.1.getD 0 []).length : Int) := by rw [hm]; exact hx.2
    refine ⟨⟨hii, by decide, hii, by decide⟩, fun h1 => ⟨⟨hii, by decide, hii, hV.W, hn.1, hn.2, hx.1, hx8⟩, fun h => absurd (h.symm.trans hw2) (by decide), fun _ => ⟨⟨⟨hl1, hin, hii, hin⟩, hik, key 2 (by decide) _ _ rfl (by rw [if_pos rfl]; rfl) hil⟩, fun h => absurd trivial h⟩⟩, fun h1 => ⟨⟨hii, by decide, hii, hV.W, hn.1, hn.2, hx.1, hx8⟩, fun h => absurd (h.symm.trans (hw kd)) (by decide), fun _ => ⟨fun h2 => ⟨⟨hl1, hin, hii, hin⟩, hik, key kd h1 _ _ rfl (by rw [if_pos h2]; rfl) hil⟩, fun h2 => ⟨hik, key kd h1 _ _ rfl (by rw [if_neg h2]) hil⟩⟩⟩⟩
theorem ok4 : FOk Try.prog 4 S4 := by
  have hC : CtxOK Try.prog C4 := okL
  refine FOk.intro hC (stpR_ok hC) Try.call4 Try.func4 (by kernel_rfl) (by kernel_rfl) L4 (vc4.mpr ?_)
  simp only [z1, z2, z3, z4, z5, z6, z7, z8, z9, z10, z11, z12, z13, z14, z15, z16, z17, z18, z19, z20, z21, z22, z23, z24, z25, z26, z27, z28, z29, z30, z31, z32, z33, z34, z35, z36, z37, z38]
  rintro ⟨a, b, u⟩ hx
  have ha : a.length ≤ lim := hx.1.1
  rw [lim_eq] at ha
  dsimp only
  have hb := mod_r b 3 (by decide)
  generalize b % 3 = n at *
  refine ⟨by decide, ⟨(0, Sp.begin 5), ⟨Nat.zero_le _, Sp.begin_ok _⟩, rfl, rfl⟩, ?_⟩
  rintro ⟨i, s⟩ ⟨hi, hV⟩ hk
  have hi : i ≤ a.length := hi
  have hV : Sp.okV s := hV
  dsimp only
  refine ⟨fun hlt => ?_, fun _ => ?_⟩
  · generalize he : a.getD i (0, 0, 0, 0, ()) = e
    have hn := mod_r e.1 3 (by decide)
    have hx := mod_r e.2.2.1 8 (by decide)
    generalize e.1 % 3 = m at *
    generalize e.2.2.1 % 8 = x at *
    generalize e.2.1 % 5 = kd at *
    generalize e.2.2.2.1 = v
    have hS := hV.step (kind := kd) (v := v) hn hx
    have hil : i < a.length := by have := hlt.1; omega
    have hii : inN (i : Int) a.length := inN_of hlt.1
    have hik : inK .i64 ((i : Int) + 1) := inK_of (by omega) (by omega)
    exact ⟨⟨hii, by decide, hii, by decide, hii, by decide, hii, hV.W, hn.1, hn.2, hx.1, by rw [hV.mlen]; exact hx.2⟩, fun h => absurd (h.symm.trans hS.whole) (by decide), fun _ => ⟨hik, (i + 1, _), ⟨hil, hS⟩, by show a.length - (i + 1) < a.length - i; omega, by show (i : Int) + 1 = ((i + 1 : Nat) : Int); omega, rfl⟩⟩
  · have hM : ∀ {s : Sp.World}, Sp.okV s → s.2.1.length ≤ 1000000 ∧ ∀ l, l ∈ s.2.1 → l.length ≤ 1000000 := by
      rintro s ⟨⟨l, e, hl⟩, _⟩
      rw [e]
      refine ⟨by show 1 ≤ 1000000; decide, fun l' h => ?_⟩
      rw [List.mem_singleton] at h
      rw [h]; omega
    refine ⟨hM hV, ⟨(0, s), ⟨Nat.zero_le _, hV⟩, rfl, rfl, rfl⟩, ?_⟩
    clear hV hi hk
    rintro ⟨j, s⟩ ⟨hj, hV⟩ hk
    have hj : j ≤ (Sp.cAt s n).length := hj
    have hV : Sp.okV s := hV
    have hn3 : n.toNat < 3 := by omega
    have hinn : inN n s.1.length := ⟨hb.1, by rw [hV.2.1]; exact hb.2⟩
    have hc := hV.at n.toNat hn3
    dsimp only
    have ec : s.1.getD n.toNat [] = Sp.cAt s n := rfl
    rw [ec] at hc ⊢
    generalize hcc : Sp.cAt s n = c at *
    obtain ⟨l, em, hl⟩ := hV.1
    rw [em]
    obtain ⟨l', e', hl'⟩ := Sp.fl_one (c.take j) l
    have h8 := Sp.okC_len hc
    refine ⟨hinn, fun hlt => ?_, fun hge => ?_⟩
    · have hjl : j < c.length := by omega
      have hw := hc.2 (c.getD j (0, 0, 0, false, ())) (by rw [Sp.getD_at hjl]; exact List.getElem_mem _)
      have hwd : c.getD j (0, 0, 0, false, ()) = Sp.wd c (j : Int) := rfl
      have hfs := Sp.fl_succ hjl [l]
      rw [hwd] at hw ⊢
      generalize Sp.wd c (j : Int) = w at *
      have nx : ∀ q, q = Sp.wback w (Sp.fl (c.take j) [l]) → ∃ y : Nat × Sp.World, (y.1 ≤ (Sp.cAt y.2 n).length ∧ Sp.okV y.2) ∧ (Sp.cAt y.2 n).length - y.1 < c.length - j ∧ (j : Int) + 1 = (y.1 : Int) ∧ s = y.2 ∧ q = Sp.fl (List.take y.1 (Sp.cAt y.2 n)) y.2.2.1 := by
        intro q hq
        refine ⟨(j + 1, s), ⟨?_, hV⟩, ?_, ?_, rfl, ?_⟩
        · show j + 1 ≤ (Sp.cAt s n).length
          rw [hcc]; omega
        · show (Sp.cAt s n).length - (j + 1) < c.length - j
          rw [hcc]; omega
        · show (j : Int) + 1 = ((j + 1 : Nat) : Int)
          omega
        · show q = Sp.fl (List.take (j + 1) (Sp.cAt s n)) s.2.1
          rw [hcc, em, hfs]; exact hq
      have hik : inK .i64 ((j : Int) + 1) := inK_of (by omega) (by omega)
      refine ⟨⟨hinn, inN_of hlt⟩, fun h => ?_, fun _ => ⟨fun hd => ⟨⟨by rw [e']; exact ⟨by decide, Int.zero_lt_one⟩, by rw [e']; exact ⟨hw.2.1, by show w.2.1 < (l'.length : Int); omega⟩⟩, hik, nx _ ?_⟩, fun hd => ⟨hik, nx _ ?_⟩⟩⟩
      · simp only [Bool.or_eq_true, bne_iff_ne, decide_eq_true_eq] at h
        omega
      · unfold Sp.wback
        rw [if_pos hd]; rfl
      · exact (Sp.wback_clean hd _).symm
    · have et : c.take j = c := List.take_of_length_le (by omega)
      have hj2 : j = c.length := by omega
      have hn3' : n.toNat < s.1.length := by rw [hV.2.1]; omega
      obtain ⟨l2, e2, hl2⟩ := Sp.fl_one c l
      have hV2 : Sp.okV (s.1.set n.toNat [], [l2], ()) := hV.upd _ Sp.okC_nil (by omega) ()
      rw [et, e2, Sp.getD_set_self hn3']
      refine ⟨⟨hV.W, hb.1, hb.2, by decide, by show (0 : Int) < (l.length : Int); omega⟩, fun _ => ⟨hb.1, by rw [List.length_set]; exact hinn.2⟩, fun h => by simp [Sp.sameM] at h, fun _ => ⟨⟨(0, s.1.set n.toNat [], [l2], ()), ⟨Nat.zero_le _, hV2, Sp.getD_set_self hn3'⟩, rfl, rfl, rfl⟩, ?_⟩⟩
      clear hV2 e2 hl2 et e' hl' em hl ec hcc hV hk hinn
      rintro ⟨k, s⟩ ⟨hk, hV, hcn⟩ _ hlt
      have hlt : (k : Int) < 8 := hlt
      have hV : Sp.okV s := hV
      have hcn : s.1.getD n.toNat [] = [] := hcn
      have hm := hV.mlen
      obtain ⟨l, em, hl⟩ := hV.1
      have hik : inK .i64 ((k : Int) + 1) := inK_of (by omega) (by omega)
      dsimp only
      rw [hcn]
      refine ⟨⟨hV.W, hb.1, hb.2, by omega, by rw [hm]; exact hlt⟩, ⟨⟨by decide, by rw [em]; exact Int.zero_lt_one⟩, ⟨by omega, by show (k : Int) < ((s.2.1.getD 0 []).length : Int); omega⟩⟩, fun h => h rfl, fun _ => ⟨hik, (k + 1, s), ⟨by show k + 1 ≤ 8; omega, hV, hcn⟩, by show 8 - (k + 1) < 8 - k; omega, by show (k : Int) + 1 = ((k + 1 : Nat) : Int); omega, rfl, rfl⟩⟩
theorem ok7 : FOk Try.prog 7 S7 := by
  have hC : CtxOK Try.prog C7 := okL
  refine FOk.intro hC (stpR_ok hC) Try.call7 Try.func7 (by kernel_rfl) (by kernel_rfl) L7 (vc7.mpr ?_)
  simp only [z1, z2, z3, z4, z5, z6, z7, z8, z9, z10, z11, z12, z13, z14, z15, z16, z17, z18, z19, z20, z21, z22, z23, z24, z25, z26, z27, z28, z29, z30, z31, z32, z33, z34, z35, z36, z37, z38]
  rintro ⟨a, v, fl, u⟩ hx
  dsimp only
  have hi := mod_r a 7 (by decide)
  generalize a % 7 = i at *
  have i0 : Int.toNat 0 = 0 := rfl
  have i1 : Int.toNat 1 = 1 := rfl
  simp only [i0, i1, List.getD_cons_zero, List.getD_cons_succ, List.set_cons_zero, List.set_cons_succ, List.nil_append, Sp.load_next, Sp.load_old, Sp.store_nil, Sp.fl_word, Sp.fl_two, Sp.evictAt_two, Sp.load_prev, Sp.load_old2]
  have hi8 : 0 ≤ i ∧ i < 8 := by omega
  have hj8 : 0 ≤ i + 1 ∧ i + 1 < 8 := by omega
  have hl : (Sp.ramp 4 8).length = 8 := Sp.ramp_len 4 8
  have r1 := Sp.ramp_get hi8
  have r2 := Sp.ramp_get hj8
  rw [show (4 : Int) + (i + 1) = 5 + i by omega] at r2
  have s1 : Sp.mget (Sp.setM [Sp.ramp 4 8] i v) i = v := Sp.gt_set_self hi8.1 (by show i < ((Sp.ramp 4 8).length : Int); omega)
  have s2 : Sp.mget (Sp.setM [Sp.ramp 4 8] i v) (i + 1) = Sp.mget [Sp.ramp 4 8] (i + 1) := Sp.gt_set_ne hi8.1 hj8.1 (by omega)
  simp only [s1, s2, r1, r2]
  have hl2 : ((Sp.ramp 4 8).set i.toNat v).length = 8 := by rw [List.length_set]; exact hl
  have es : Sp.setM [Sp.ramp 4 8] i v = [(Sp.ramp 4 8).set i.toNat v] := rfl
  rw [es]
  generalize (Sp.ramp 4 8).set i.toNat v = l2 at *
  have hB : Sp.okW (Sp.begin 4) := (Sp.begin_ok 4).W
  generalize hr : Sp.ramp 4 8 = l1 at *
  generalize IntKind.wrap .i32 (4 + i) = y at *
  generalize IntKind.wrap .i32 (5 + i) = z at *
  have k1 := @Sp.okC_one i y false hi8
  have k2 := @Sp.okC_two i y (i + 1) z false false hi8 hj8 (by omega)
  have k3 := @Sp.okC_one i v true hi8
  have k4 := @Sp.okC_one i v false hi8
  have k5 := @Sp.okC_one (i + 1) z false hj8
  have k6 := @Sp.okC_two (i + 1) z i v false false hj8 hi8 (by omega)
  have k0 := Sp.okC_nil
  have w : ∀ {a b c : List Sp.Word} {l : List Int}, Sp.okC a → Sp.okC b → Sp.okC c → l.length = 8 → Sp.okW ([a, b, c], [l], ()) := fun ha hb hc hl => (Sp.okV_three ha hb hc hl ()).W
  have hw : Sp.whole [l2] = true := by simp [Sp.whole, hl2]
  have n0 : (0 : Int) < (l1.length : Int) := by omega
  have n1 : i < (l1.length : Int) := by omega
  have n2 : i + 1 < (l1.length : Int) := by omega
  have m0 : (0 : Int) < (List.length (List.getD [l2] 0 []) : Int) := by show (0 : Int) < (l2.length : Int); omega
  have m1 : i < (List.length (List.getD [l2] 0 []) : Int) := by show i < (l2.length : Int); omega
  have m2 : i + 1 < (List.length (List.getD [l2] 0 []) : Int) := by show i + 1 < (l2.length : Int); omega
  have d0 : (0 : Int) ≤ 0 := Int.le_refl _
  have d1 : (0 : Int) ≤ 1 := by decide
  have d2 : (0 : Int) < 3 := by decide
  have d3 : (1 : Int) < 3 := by decide
  have q1 : inK .i64 (i + 1) := inK_of (by omega) (by omega)
  have q2 : inK .i64 (4 + i) := inK_of (by omega) (by omega)
  have q3 : inK .i64 (5 + i) := inK_of (by omega) (by omega)
  refine ⟨by decide, ⟨hB, d0, d2, hi8.1, n1⟩, ⟨q1, w k1 k0 k0 hl, d0, d2, hj8.1, n2⟩, ⟨w k2 k0 k0 hl, d1, d3, hi8.1, n1⟩, ⟨w k2 k3 k0 hl, d1, d3, d0, n0⟩, ⟨w k2 k0 k0 hl2, d0, d2, hi8.1, m1⟩, ⟨d0, by show (0 : Int) < 3; decide⟩, fun h => ?_, fun _ => ⟨fun _ => ⟨⟨w k2 k0 k0 hl2, d0, d2, d0, m0⟩, ⟨w k0 k0 k0 hl2, d0, d2, hi8.1, m1⟩, ⟨q1, w k4 k0 k0 hl2, d0, d2, hj8.1, m2⟩, ⟨q2, fun _ => q3⟩, ?_⟩, fun _ => ⟨⟨w k2 k0 k0 hl2, d0, d2, d0, m0⟩, ⟨w k5 k0 k0 hl2, d0, d2, hi8.1, m1⟩, ⟨q1, w k6 k0 k0 hl2, d0, d2, hj8.1, m2⟩, ⟨q2, fun _ => q3⟩, ?_⟩⟩⟩
  · rw [hw] at h
    simp at h
  · simp
  · simp
end Go.User
namespace Go.Proofs.Ytohcfjfnmgkadaa
open Go.ChangeShapes Go.WideShapes Go.ChangeAt Go.RowKit Go.Proofs Go.Lf

set_option maxRecDepth 100000 in
theorem cacheStale_lifted (hF : FOk Try.prog 7 Go.User.S7) (os : Os) (started : os.Started) (H : Type) (enc : TypeId × Value → H) :
    ReturnsInHanded {} Try.checked os 7 .any (Rows.cacheStaleSpec.pre6 enc Try.prog Try.f7 Rows.cacheStaleRow.domain false) (Rows.cacheStaleSpec.post enc Try.prog Try.f7 false true false false) := by
  refine returnsInHanded_of_change_sized (C := Try.checked) Try.own started (by kernel_rfl) Try.func7
    (ChangeSpec.witness6 (enc := enc) (C := Try.checked) false ⟨#[], #[.int .u8 0, .int .i32 0, .bool false], []⟩ 8 (by kernel_rfl) (by kernel_rfl) (by kernel_rfl) (by kernel_rfl)) ?_
  intro W base args ds gs before hval0 hW _ hsz0 _
  have hsz : (DataW.weightsEach Try.prog (Try.f7.params.toList ++ Rows.cacheStaleSpec.plain.varTypes Try.prog) (ds ++ gs)).all (· ≤ reachBytes) = true := hsz0
  clear hsz0
  have hval : ∀ (j : Nat) t v, Try.f7.params[j]? = some t → args[j]? = some v → Value.okWide Try.prog W .any base t v := hval0
  have hW' := hW
  obtain ⟨p, q, hA0, hV, rfl, _, _⟩ := hW
  have hA : DataW.TrodAll enc Try.prog W 0 (fun _ => true) true Try.f7.params.toList args.toList ds p := hA0
  rw [Try.params7] at hA hval hsz
  obtain ⟨v0, v1, v2, d0, d1, d2, p0, p1, p2, rfl, rfl, rfl, h0, h1, h2⟩ := trodAll_three hA
  obtain ⟨rfl, rfl⟩ := trodVars_none hV
  clear hA0 hval0
  simp only [List.append_nil, List.append_assoc] at hW'
  have hlt0 : ∀ x ∈ p0, x.block < W.heap.size := fun x hx => hW'.lt x (by simp [hx])
  have hlt1 : ∀ x ∈ p1, x.block < W.heap.size := fun x hx => hW'.lt x (by simp [hx])
  have hlt2 : ∀ x ∈ p2, x.block < W.heap.size := fun x hx => hW'.lt x (by simp [hx])
  obtain ⟨x0, hx0⟩ := arg_num Try.underlying5 (hval 0 5 v0 rfl rfl) (fun b => b < W.heap.size)
  obtain ⟨x1, hx1⟩ := arg_num Try.underlying21 (hval 1 21 v1 rfl rfl) (fun b => b < W.heap.size)
  obtain ⟨x2, hx2⟩ := arg_bool Try.underlying4 (hval 2 4 v2 rfl rfl) (fun b => b < W.heap.size)
  have hcall := hF.2 W (fun b => b < W.heap.size) [v0, v1, v2] (x0, x1, x2, ()) (fun b h => h) ⟨v0, [v1, v2], rfl, hx0, v1, [v2], rfl, hx1, v2, [], rfl, hx2, rfl⟩ trivial
  refine hcall.mono ?_
  rintro e W' ⟨v, F', S', rfl, hb, _, _, _, _, hv⟩
  have hv : OwnV F' W' .bool .shr S' v true := hv
  have := hv.bool_eq
  subst this
  have hargs0 := Below.trod Try.laidOut (by kernel_rfl) (of_decide_eq_true (by kernel_rfl)) h0 hb hlt0
  have hargs1 := Below.trod Try.laidOut (by kernel_rfl) (of_decide_eq_true (by kernel_rfl)) h1 hb hlt1
  have hargs2 := Below.trod Try.laidOut (by kernel_rfl) (of_decide_eq_true (by kernel_rfl)) h2 hb hlt2
  refine ⟨_, rfl, _, _, _, [], p0 ++ (p1 ++ p2), [], hW', ?_, trodAll_mk3 hargs0 hargs1 hargs2, rfl, hb.frame _, fun h => by cases h⟩
  exact trodAll_mk1 (shut_bool Try.underlying4 true)

theorem cacheStale_holds : Rows.CacheStaleSaid :=
  OpenClaim.holds_of_wide 7 Try.f7 rfl rfl rfl rfl rfl rfl rfl ⟨rfl, rfl, rfl, rfl, rfl⟩ rfl rfl rfl rfl rfl (by kernel_rfl) Try.func7 (by kernel_rfl)
    (of_decide_eq_true (by kernel_rfl)) (by unfold Func.isWrapper; first | (rw [if_pos (by decide +kernel)]; kernel_rfl) | (rw [if_neg (by decide +kernel)]; exact ⟨rfl, rfl⟩))
    (fun os started H enc _ => cacheStale_lifted Go.User.ok7 os started H enc)
end Go.Proofs.Ytohcfjfnmgkadaa
