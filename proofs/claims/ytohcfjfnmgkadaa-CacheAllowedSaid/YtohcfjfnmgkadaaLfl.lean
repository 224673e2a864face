/- The laws of the caches: plain facts. Caches: the machine does what is said of caches without coherence. Caches: the operations of a core do what is said of caches without coherence. Caches: the graph of a run is right, and allowed. Written by gen.py: what is left to show of each function. The laws of the caches: proved. Litmus tests of bytes; the law that caches are allowed: proved. The law CacheAllowed. -/
import Derived.Test.YtohcfjfnmgkadaaLfk
set_option linter.unusedVariables false
set_option linter.unusedSimpArgs false
namespace Sp
theorem gt_set_self {l : List Int} {x v : Int} (h0 : 0 ≤ x) (h1 : x < l.length) : gt (l.set x.toNat v) x = v := getD_set_self (by omega)
theorem gt_set_ne {l : List Int} {x y v : Int} (hx : 0 ≤ x) (hy : 0 ≤ y) (h : y ≠ x) : gt (l.set x.toNat v) y = gt l y := getD_set_ne (by omega)
theorem okC_nil : okC [] := ⟨List.nodup_nil, fun w h => by cases h⟩
theorem okC_len {c : List Word} (h : okC c) : c.length ≤ 8 := by
  have := nodup_lt 8 h.1 (by
    intro x hx
    obtain ⟨w, hw, rfl⟩ := List.mem_map.1 hx
    have := h.2 w hw
    exact ⟨this.2.1, this.2.2⟩)
  simpa using this
theorem okC_perm {c c' : List Word} (hp : c.Perm c') (h : okC c) : okC c' :=
  ⟨((hp.map _).nodup_iff).1 h.1, fun w hw => h.2 w (hp.mem_iff.2 hw)⟩
theorem okC_tail {w : Word} {c : List Word} (h : okC (w :: c)) : okC c ∧ ∀ e ∈ c, e.2.1 ≠ w.2.1 := by
  have h1 := h.1
  rw [List.map_cons, List.nodup_cons] at h1
  exact ⟨⟨h1.2, fun e he => h.2 e (List.mem_cons_of_mem _ he)⟩, fun e he e2 => h1.1 (List.mem_map.2 ⟨e, he, e2⟩)⟩
theorem okC_cons {c : List Word} {x v : Int} {d : Bool} (h : okC c) (hx : 0 ≤ x ∧ x < 8) (hn : ∀ w ∈ c, w.2.1 ≠ x) : okC ((0, x, v, d, ()) :: c) := by
  refine ⟨?_, ?_⟩
  · rw [List.map_cons, List.nodup_cons]
    refine ⟨fun hm => ?_, h.1⟩
    obtain ⟨w, hw, e⟩ := List.mem_map.1 hm
    exact hn w hw e
  · intro w hw
    rcases List.mem_cons.1 hw with rfl | hw
    · exact ⟨rfl, hx.1, hx.2⟩
    · exact h.2 w hw
theorem own_perm {D : Int → Prop} {c c' : List Word} {l p : List Int} (hp : c.Perm c') (h : own D c l p) : own D c' l p :=
  ⟨fun w hw => h.1 w (hp.mem_iff.2 hw), fun x h0 h1 hD hn => h.2 x h0 h1 hD (fun w hw => hn w (hp.mem_iff.1 hw))⟩
def wb (w : Word) (l : List Int) : List Int := if w.2.2.2.1 = true then l.set w.2.1.toNat w.2.2.1 else l
theorem wback_one (w : Word) (l : List Int) : wback w [l] = [wb w l] := by
  unfold wback wb
  split
  · rfl
  · rfl
theorem wb_len (w : Word) (l : List Int) : (wb w l).length = l.length := by
  unfold wb
  split
  · exact List.length_set
  · rfl
theorem wb_ne {w : Word} {l : List Int} {y : Int} (h0 : 0 ≤ w.2.1) (hy : 0 ≤ y) (h : y ≠ w.2.1) : gt (wb w l) y = gt l y := by
  unfold wb
  split
  · exact gt_set_ne h0 hy h
  · rfl
structure Op1 (D : Int → Prop) (l p : List Int) (c' : List Word) (l' p' : List Int) : Prop where
  ok : okC c'
  len : l'.length = 8
  lenp : p'.length = 8
  own : Sp.own D c' l' p'
  frame : ∀ y, 0 ≤ y → y < 8 → ¬ D y → gt l' y = gt l y ∧ gt p' y = gt p y
theorem own_out {D : Int → Prop} {w : Word} {c : List Word} {l p : List Int} (hc : okC (w :: c)) (hl : l.length = 8) (hp : p.length = 8) (h : own D (w :: c) l p) : Op1 D l p c (wb w l) p := by
  obtain ⟨h1, h2⟩ := okC_tail hc
  have hw := hc.2 w (List.mem_cons_self ..)
  obtain ⟨g1, g2, g3⟩ := h.1 w (List.mem_cons_self ..)
  refine ⟨h1, (wb_len _ _).trans hl, hp, ⟨?_, ?_⟩, ?_⟩
  · intro e he
    obtain ⟨k1, k2, k3⟩ := h.1 e (List.mem_cons_of_mem _ he)
    refine ⟨k1, k2, fun hd => ?_⟩
    rw [wb_ne hw.2.1 (h1.2 e he).2.1 (h2 e he)]
    exact k3 hd
  · intro x hx0 hx1 hD hn
    by_cases e : x = w.2.1
    · subst e
      unfold wb
      split
      · rw [gt_set_self hw.2.1 (by rw [hl]; exact hx1)]; exact g2
      · rename_i hd
        exact g3 (by cases hb : w.2.2.2.1 with
          | true => exact absurd hb hd
          | false => rfl)
    · rw [wb_ne hw.2.1 hx0 e]
      exact h.2 x hx0 hx1 hD (fun e' he' => by
        rcases List.mem_cons.1 he' with rfl | he'
        · exact fun e2 => e e2.symm
        · exact hn e' he')
  · intro y hy0 hy1 hD
    exact ⟨wb_ne hw.2.1 hy0 (fun e => hD (e ▸ g1)), rfl⟩
/-- A word is put in the place of another, or of none. -/
theorem own_in {D : Int → Prop} {c : List Word} {l p : List Int} {x v : Int} (hc : okC c) (hl : l.length = 8) (hp : p.length = 8) (hx : 0 ≤ x ∧ x < 8) (hD : D x) (hn : ∀ w ∈ c, w.2.1 ≠ x)
    (hA : ∀ w ∈ c, D w.2.1 ∧ w.2.2.1 = gt p w.2.1 ∧ (w.2.2.2.1 = false → gt l w.2.1 = gt p w.2.1))
    (hB : ∀ y, 0 ≤ y → y < 8 → D y → y ≠ x → (∀ w ∈ c, w.2.1 ≠ y) → gt l y = gt p y) : Op1 D l p ((0, x, v, true, ()) :: c) l (p.set x.toNat v) := by
  refine ⟨okC_cons hc hx hn, hl, by rw [List.length_set]; exact hp, ⟨?_, ?_⟩, ?_⟩
  · intro w hw
    rcases List.mem_cons.1 hw with rfl | hw
    · exact ⟨hD, (gt_set_self hx.1 (by rw [hp]; exact hx.2)).symm, fun h => by cases h⟩
    · obtain ⟨k1, k2, k3⟩ := hA w hw
      rw [gt_set_ne hx.1 (hc.2 w hw).2.1 (hn w hw)]
      exact ⟨k1, k2, k3⟩
  · intro y h0 h1 hDy hny
    have hyx : y ≠ x := fun e => hny _ (List.mem_cons_self ..) e.symm
    rw [gt_set_ne hx.1 h0 hyx]
    exact hB y h0 h1 hDy hyx (fun w hw => hny w (List.mem_cons_of_mem _ hw))
  · intro y h0 h1 hDy
    exact ⟨rfl, gt_set_ne hx.1 h0 (fun e => hDy (e ▸ hD))⟩
theorem own_read {D : Int → Prop} {c : List Word} {l p : List Int} {x : Int} (hc : okC c) (hl : l.length = 8) (hp : p.length = 8) (hx : 0 ≤ x ∧ x < 8) (hD : D x) (hn : ∀ w ∈ c, w.2.1 ≠ x) (h : own D c l p) :
    Op1 D l p ((0, x, gt l x, false, ()) :: c) l p ∧ gt l x = gt p x := by
  have hx' : gt l x = gt p x := h.2 x hx.1 hx.2 hD hn
  refine ⟨⟨okC_cons hc hx hn, hl, hp, ⟨?_, ?_⟩, fun _ _ _ _ => ⟨rfl, rfl⟩⟩, hx'⟩
  · intro w hw
    rcases List.mem_cons.1 hw with rfl | hw
    · exact ⟨hD, hx', fun _ => hx'⟩
    · exact h.1 w hw
  · intro y h0 h1 hDy hny
    exact h.2 y h0 h1 hDy (fun w hw => hny w (List.mem_cons_of_mem _ hw))
theorem own_put {D : Int → Prop} {c : List Word} {l p : List Int} {x v : Int} (hc : okC c) (hl : l.length = 8) (hp : p.length = 8) (hx : 0 ≤ x ∧ x < 8) (hD : D x) (hn : ∀ w ∈ c, w.2.1 ≠ x) (h : own D c l p) :
    Op1 D l p c (l.set x.toNat v) (p.set x.toNat v) := by
  refine ⟨hc, by rw [List.length_set]; exact hl, by rw [List.length_set]; exact hp, ⟨?_, ?_⟩, ?_⟩
  · intro w hw
    obtain ⟨k1, k2, k3⟩ := h.1 w hw
    have hy := (hc.2 w hw).2.1
    rw [gt_set_ne hx.1 hy (hn w hw), gt_set_ne hx.1 hy (hn w hw)]
    exact ⟨k1, k2, k3⟩
  · intro y h0 h1 hDy hny
    by_cases e : y = x
    · subst e
      rw [gt_set_self h0 (by rw [hl]; exact h1), gt_set_self h0 (by rw [hp]; exact h1)]
    · rw [gt_set_ne hx.1 h0 e, gt_set_ne hx.1 h0 e]
      exact h.2 y h0 h1 hDy hny
  · intro y h0 h1 hDy
    have e : y ≠ x := fun e => hDy (e ▸ hD)
    exact ⟨gt_set_ne hx.1 h0 e, gt_set_ne hx.1 h0 e⟩
theorem Op1.perm {D : Int → Prop} {l p : List Int} {c c' : List Word} {l' p' : List Int} (hp : c.Perm c') (h : Op1 D l p c l' p') : Op1 D l p c' l' p' :=
  ⟨okC_perm hp h.ok, h.len, h.lenp, own_perm hp h.own, h.frame⟩
theorem Op1.trans {D : Int → Prop} {l p : List Int} {c c' : List Word} {l' p' l'' p'' : List Int} (h : Op1 D l p c l' p') (h2 : Op1 D l' p' c' l'' p'') : Op1 D l p c' l'' p'' :=
  ⟨h2.ok, h2.len, h2.lenp, h2.own, fun y h0 h1 hD => ⟨(h2.frame y h0 h1 hD).1.trans (h.frame y h0 h1 hD).1, (h2.frame y h0 h1 hD).2.trans (h.frame y h0 h1 hD).2⟩⟩
/-- A place of a list: what stands ahead and behind. -/
theorem split_at {c : List Word} {k : Int} (h0 : 0 ≤ k) (h1 : k < c.length) : ∃ a b, c = a ++ wd c k :: b ∧ (∀ e, c.set k.toNat e = a ++ e :: b) ∧ c.take k.toNat ++ c.drop (k + 1).toNat = a ++ b := by
  have hk : k.toNat < c.length := by omega
  have e1 : (k + 1).toNat = k.toNat + 1 := by omega
  refine ⟨c.take k.toNat, c.drop (k.toNat + 1), ?_, ?_, by rw [e1]⟩
  · unfold wd
    rw [getD_at hk]
    have := List.drop_eq_getElem_cons hk
    rw [← this, List.take_append_drop]
  · intro e
    rw [List.set_eq_take_append_cons_drop, if_pos hk]
theorem op_evict {D : Int → Prop} {c : List Word} {l p : List Int} {k : Int} (hc : okC c) (hl : l.length = 8) (hp : p.length = 8) (h : own D c l p) (h0 : 0 ≤ k) (h1 : k < c.length) :
    (evict c [l] k).2.1 = [wb (wd c k) l] ∧ Op1 D l p (evict c [l] k).1 (wb (wd c k) l) p ∧ ∀ e ∈ (evict c [l] k).1, e.2.1 ≠ (wd c k).2.1 := by
  obtain ⟨a, b, e1, e2, e3⟩ := split_at h0 h1
  have hpm : c.Perm (wd c k :: (a ++ b)) := by
    have := List.perm_middle (a := wd c k) (l₁ := a) (l₂ := b)
    rw [← e1] at this
    exact this
  have hc' := okC_perm hpm hc
  refine ⟨wback_one _ _, ?_, ?_⟩
  · show Op1 D l p (c.take k.toNat ++ c.drop (k + 1).toNat) (wb (wd c k) l) p
    rw [e3]
    exact own_out hc' hl hp (own_perm hpm h)
  · show ∀ e ∈ c.take k.toNat ++ c.drop (k + 1).toNat, _
    rw [e3]
    exact (okC_tail hc').2
theorem okC_zero {c : List Word} (h : okC c) : ∀ w ∈ c, w.1 = 0 := fun w hw => (h.2 w hw).1
theorem op_load {D : Int → Prop} {c : List Word} {l p : List Int} {x : Int} (hc : okC c) (hl : l.length = 8) (hp : p.length = 8) (h : own D c l p) (hx : 0 ≤ x ∧ x < 8) (hD : D x) :
    Op1 D l p (load c [l] x).2.1 l p ∧ (load c [l] x).1 = gt p x := by
  unfold load
  split
  · rename_i hf
    obtain ⟨k1, k2, k3⟩ := fW_some hf
    have := (h.1 _ (wd_mem hf k1)).2.1
    rw [k3] at this
    exact ⟨⟨hc, hl, hp, h, fun _ _ _ _ => ⟨rfl, rfl⟩⟩, this⟩
  · rename_i hf
    obtain ⟨g1, g2⟩ := own_read hc hl hp hx hD (fW_none hf (okC_zero hc)) h
    exact ⟨g1.perm (List.perm_append_singleton _ _).symm, g2⟩
theorem op_store {D : Int → Prop} {c : List Word} {l p : List Int} {x v : Int} (hc : okC c) (hl : l.length = 8) (hp : p.length = 8) (h : own D c l p) (hx : 0 ≤ x ∧ x < 8) (hD : D x) :
    Op1 D l p (store c x v) l (p.set x.toNat v) := by
  unfold store
  split
  · rename_i hf
    obtain ⟨k1, k2, k3⟩ := fW_some hf
    obtain ⟨a, b, e1, e2, e3⟩ := split_at hf k1
    have hpm : c.Perm (wd c (fW x c) :: (a ++ b)) := by
      have := List.perm_middle (a := wd c (fW x c)) (l₁ := a) (l₂ := b)
      rw [← e1] at this
      exact this
    have hc' := okC_perm hpm hc
    have h' := own_perm hpm h
    obtain ⟨g1, g2⟩ := okC_tail hc'
    rw [e2]
    refine Op1.perm List.perm_middle.symm (own_in g1 hl hp hx hD (by rw [k3] at g2; exact g2) (fun w hw => h'.1 w (List.mem_cons_of_mem _ hw)) ?_)
    intro y h0 h1 hDy hyx hny
    exact h'.2 y h0 h1 hDy (fun w hw => by
      rcases List.mem_cons.1 hw with rfl | hw
      · rw [k3]; exact fun e => hyx e.symm
      · exact hny w hw)
  · rename_i hf
    refine Op1.perm (List.perm_append_singleton _ _).symm (own_in hc hl hp hx hD (fW_none hf (okC_zero hc)) h.1 ?_)
    intro y h0 h1 hDy _ hny
    exact h.2 y h0 h1 hDy hny
theorem op_atom {D : Int → Prop} {c : List Word} {l p : List Int} {x v : Int} (hc : okC c) (hl : l.length = 8) (hp : p.length = 8) (h : own D c l p) (hx : 0 ≤ x ∧ x < 8) (hD : D x) :
    ∃ l', (atom c [l] x v).2.1 = [l'] ∧ Op1 D l p (atom c [l] x v).1 l' (p.set x.toNat (Go.IntKind.wrap .i32 (gt p x + v))) := by
  have key : ∃ l1, (atom0 c [l] x).2.1 = [l1] ∧ Op1 D l p (atom0 c [l] x).1 l1 p ∧ ∀ e ∈ (atom0 c [l] x).1, e.2.1 ≠ x := by
    unfold atom0
    split
    · rename_i hf
      obtain ⟨k1, k2, k3⟩ := fW_some hf
      obtain ⟨g1, g2, g3⟩ := op_evict hc hl hp h hf k1
      rw [k3] at g3
      exact ⟨_, g1, g2, g3⟩
    · rename_i hf
      exact ⟨l, rfl, ⟨hc, hl, hp, h, fun _ _ _ _ => ⟨rfl, rfl⟩⟩, fW_none hf (okC_zero hc)⟩
  obtain ⟨l1, e1, g1, g2⟩ := key
  have hg : mget (atom0 c [l] x).2.1 x = gt p x := by
    rw [e1]
    exact g1.own.2 x hx.1 hx.2 hD g2
  refine ⟨l1.set x.toNat (Go.IntKind.wrap .i32 (gt p x + v)), ?_, ?_⟩
  · show setM (atom0 c [l] x).2.1 x (Go.IntKind.wrap .i32 (mget (atom0 c [l] x).2.1 x + v)) = _
    rw [hg, e1]; rfl
  · exact g1.trans (own_put g1.ok g1.len g1.lenp hx hD g2 g1.own)
theorem op_evictAt {D : Int → Prop} {c : List Word} {l p : List Int} {k : Int} (hc : okC c) (hl : l.length = 8) (hp : p.length = 8) (h : own D c l p) (hk : 0 ≤ k ∧ k < 8) :
    ∃ l', (evictAt c [l] k).2.1 = [l'] ∧ Op1 D l p (evictAt c [l] k).1 l' p := by
  unfold evictAt
  split
  · exact ⟨l, rfl, ⟨hc, hl, hp, h, fun _ _ _ _ => ⟨rfl, rfl⟩⟩⟩
  · rename_i hn
    have hle := okC_len hc
    obtain ⟨m1, m2, _⟩ := mod_in k c.length (by omega) ⟨by omega, by omega⟩ (by omega)
    obtain ⟨g1, g2, _⟩ := op_evict hc hl hp h m1 m2
    exact ⟨_, g1, g2⟩
theorem op_fl {D : Int → Prop} : ∀ {c : List Word} {l p : List Int}, okC c → l.length = 8 → p.length = 8 → own D c l p → ∃ l', fl c [l] = [l'] ∧ Op1 D l p [] l' p
  | [], l, p, hc, hl, hp, h => ⟨l, rfl, ⟨hc, hl, hp, h, fun _ _ _ _ => ⟨rfl, rfl⟩⟩⟩
  | w :: c, l, p, hc, hl, hp, h => by
    have g := own_out hc hl hp h
    obtain ⟨l', e, g'⟩ := op_fl g.ok g.len g.lenp g.own
    refine ⟨l', ?_, g.trans g'⟩
    show fl c (wback w [l]) = [l']
    rw [wback_one]; exact e
theorem okV.W {s : World} (h : okV s) : okW s := by
  obtain ⟨⟨l, e, hl⟩, h3, hc⟩ := h
  have hM : okM s.2.1 := by rw [e]; exact ⟨rfl, by show l.length ≤ 1000; omega⟩
  refine ⟨hM, h3, fun c hc' => ⟨hM, by have := okC_len (hc c hc'); omega, fun w hw => ?_⟩⟩
  have := (hc c hc').2 w hw
  rw [e]
  exact ⟨this.1, this.2.1, by show _ < (l.length : Int); rw [hl]; exact this.2.2⟩
theorem okV.whole {s : World} (h : okV s) : whole s.2.1 = true := by
  obtain ⟨⟨l, e, hl⟩, _⟩ := h
  rw [e]
  simp [Sp.whole, hl]
theorem okV.at {s : World} (h : okV s) (n : Nat) (hn : n < 3) : okC (s.1.getD n []) := by
  have : n < s.1.length := by have := h.2.1; omega
  rw [getD_at this]
  exact h.2.2 _ (List.getElem_mem _)
/-- One core moves, and the memory. -/
theorem InvA.upd {D : Nat → Int → Prop} {s : World} {p : List Int} (hD : ∀ a b y, a < 3 → b < 3 → a ≠ b → D a y → ¬ D b y) (h : InvA D s p) {n : Nat} (hn : n < 3) {l l' p' : List Int} {c' : List Word} (e : s.2.1 = [l]) (h' : Op1 (D n) l p c' l' p') (u : Unit) :
    InvA D (s.1.set n c', [l'], u) p' := by
  have hlen := h.ok.2.1
  refine ⟨⟨⟨l', rfl, h'.len⟩, by show (s.1.set n c').length = 3; rw [List.length_set]; exact hlen, ?_⟩, h'.lenp, ?_, ?_⟩
  · intro c hc
    rcases List.mem_or_eq_of_mem_set hc with hc | hc
    · exact h.ok.2.2 c hc
    · rw [hc]; exact h'.ok
  · intro m hm
    show Sp.own (D m) ((s.1.set n c').getD m []) l' p'
    by_cases emn : n = m
    · subst emn
      rw [getD_set_self (by omega)]; exact h'.own
    · rw [getD_set_ne emn]
      have ho := h.own m hm
      rw [e] at ho
      have hok := h.ok.at m hm
      have fr : ∀ y, 0 ≤ y → y < 8 → D m y → gt l' y = gt l y ∧ gt p' y = gt p y := fun y h0 h1 hd => h'.frame y h0 h1 (hD m n y hm hn (fun e => emn e.symm) hd)
      refine ⟨fun w hw => ?_, fun x h0 h1 hd hnx => ?_⟩
      · obtain ⟨k1, k2, k3⟩ := ho.1 w hw
        have hr := (hok.2 w hw).2
        obtain ⟨f1, f2⟩ := fr _ hr.1 hr.2 k1
        rw [f1, f2]
        exact ⟨k1, k2, k3⟩
      · obtain ⟨f1, f2⟩ := fr x h0 h1 hd
        rw [f1, f2]
        exact ho.2 x h0 h1 hd hnx
  · intro x h0 h1 hx
    obtain ⟨f1, f2⟩ := h'.frame x h0 h1 (hx n hn)
    show gt l' x = gt p' x
    rw [f1, f2]
    have := h.rest x h0 h1 hx
    rw [e] at this
    exact this
def stepP (p : List Int) (kind x v : Int) : List Int := if kind = 1 then p.set x.toNat v else if kind = 2 then p.set x.toNat (Go.IntKind.wrap .i32 (gt p x + v)) else p
theorem InvA.step {D : Nat → Int → Prop} {s : World} {p : List Int} (hD : ∀ a b y, a < 3 → b < 3 → a ≠ b → D a y → ¬ D b y) (h : InvA D s p) {n kind x v : Int} (hn : 0 ≤ n ∧ n < 3) (hx : 0 ≤ x ∧ x < 8) (hDx : D n.toNat x) :
    InvA D (step s n kind x v).1 (stepP p kind x v) ∧ (kind = 0 → (step s n kind x v).2.1 = gt p x) := by
  have hn' : n.toNat < 3 := by omega
  obtain ⟨l, e, hl⟩ := h.ok.1
  have ho := h.own n.toNat hn'
  have hc := h.ok.at n.toNat hn'
  rw [e] at ho
  have ho : Sp.own (D n.toNat) (s.1.getD n.toNat []) l p := ho
  unfold Sp.step stepP
  rw [e]
  by_cases h0 : kind = 0
  · subst h0
    obtain ⟨g1, g2⟩ := op_load hc hl h.len ho hx hDx
    exact ⟨h.upd hD hn' e g1 (), fun _ => g2⟩
  · rw [if_neg h0]
    by_cases h1 : kind = 1
    · subst h1
      exact ⟨h.upd hD hn' e (op_store hc hl h.len ho hx hDx) (), fun e => by cases e⟩
    · rw [if_neg h1, if_neg h1]
      by_cases h2 : kind = 2
      · subst h2
        obtain ⟨l', e', g⟩ := op_atom (v := v) hc hl h.len ho hx hDx
        rw [if_pos rfl, if_pos rfl, e']
        exact ⟨h.upd hD hn' e g (), fun e => by cases e⟩
      · rw [if_neg h2, if_neg h2]
        by_cases h3 : kind = 3
        · subst h3
          obtain ⟨l', e', g⟩ := op_evictAt hc hl h.len ho hx
          rw [if_pos rfl, e']
          exact ⟨h.upd hD hn' e g (), fun e => by cases e⟩
        · rw [if_neg h3]
          obtain ⟨l', e', g⟩ := op_fl hc hl h.len ho
          rw [e']
          exact ⟨h.upd hD hn' e g (), fun e => absurd e h0⟩
theorem InvA.flush {D : Nat → Int → Prop} {s : World} {p : List Int} (hD : ∀ a b y, a < 3 → b < 3 → a ≠ b → D a y → ¬ D b y) (h : InvA D s p) {n : Nat} (hn : n < 3) :
    InvA D (s.1.set n [], fl (s.1.getD n []) s.2.1, ()) p := by
  obtain ⟨l, e, hl⟩ := h.ok.1
  have ho := h.own n hn
  rw [e] at ho
  obtain ⟨l', e', g⟩ := op_fl (h.ok.at n hn) hl h.len ho
  rw [e, e']
  exact h.upd hD hn e g ()
/-- With all caches empty the memory is the single one. -/
theorem InvA.same {D : Nat → Int → Prop} {s : World} {p : List Int} (h : InvA D s p) (hd : ∀ n x, Decidable (D n x)) (he : ∀ n, n < 3 → (∃ x, 0 ≤ x ∧ x < 8 ∧ D n x) → s.1.getD n [] = []) : s.2.1 = [p] := by
  obtain ⟨l, e, hl⟩ := h.ok.1
  rw [e]
  congr 1
  refine List.ext_getElem (hl.trans h.len.symm) (fun i h1 h2 => ?_)
  have h1' : i < 8 := by omega
  have : gt l (i : Int) = gt p (i : Int) := by
    by_cases hx : ∃ n, n < 3 ∧ D n (i : Int)
    · obtain ⟨n, hn, hDn⟩ := hx
      have ho := h.own n hn
      rw [e, he n hn ⟨(i : Int), by omega, by omega, hDn⟩] at ho
      exact ho.2 (i : Int) (by omega) (by omega) hDn (fun w hw => by cases hw)
    · have := h.rest (i : Int) (by omega) (by omega) (fun n hn hDn => hx ⟨n, hn, hDn⟩)
      rw [e] at this
      exact this
  unfold gt at this
  rw [Int.toNat_natCast, getD_at h1, getD_at h2] at this
  exact this
/-- Steps alone. -/
theorem okV.upd {s : World} (h : okV s) (n : Nat) {l : List Int} {c : List Word} (hc : okC c) (hl : l.length = 8) (u : Unit) : okV (s.1.set n c, [l], u) := by
  refine ⟨⟨l, rfl, hl⟩, by show (s.1.set n c).length = 3; rw [List.length_set]; exact h.2.1, ?_⟩
  intro c' hc'
  rcases List.mem_or_eq_of_mem_set hc' with hc' | hc'
  · exact h.2.2 c' hc'
  · rw [hc']; exact hc
theorem okC_del {c : List Word} (h : okC c) (k : Int) : okC (c.take k.toNat ++ c.drop (k + 1).toNat) := ⟨nodup_del h.1, fun w hw => h.2 w (mem_del hw)⟩
theorem okC_load {c : List Word} (h : okC c) (m : Memo) {x : Int} (hx : 0 ≤ x ∧ x < 8) : okC (load c m x).2.1 := by
  unfold load
  split
  · exact h
  · rename_i hf
    exact okC_perm (List.perm_append_singleton _ _).symm (okC_cons h hx (fW_none hf (okC_zero h)))
theorem okC_store {c : List Word} (h : okC c) {x v : Int} (hx : 0 ≤ x ∧ x < 8) : okC (store c x v) := by
  unfold store
  split
  · rename_i hf
    obtain ⟨k1, k2, k3⟩ := fW_some hf
    obtain ⟨a, b, e1, e2, e3⟩ := split_at hf k1
    have hpm : c.Perm (wd c (fW x c) :: (a ++ b)) := by
      have := List.perm_middle (a := wd c (fW x c)) (l₁ := a) (l₂ := b)
      rw [← e1] at this
      exact this
    obtain ⟨g1, g2⟩ := okC_tail (okC_perm hpm h)
    rw [e2]
    exact okC_perm List.perm_middle.symm (okC_cons g1 hx (by rw [k3] at g2; exact g2))
  · rename_i hf
    exact okC_perm (List.perm_append_singleton _ _).symm (okC_cons h hx (fW_none hf (okC_zero h)))
theorem evict_one (c : List Word) (l : List Int) (k : Int) : (evict c [l] k).2.1 = [wb (wd c k) l] := wback_one _ _
theorem atom0_one {c : List Word} (h : okC c) (l : List Int) (x : Int) : ∃ l', (atom0 c [l] x).2.1 = [l'] ∧ l'.length = l.length ∧ okC (atom0 c [l] x).1 := by
  unfold atom0
  split
  · exact ⟨_, evict_one _ _ _, wb_len _ _, okC_del h _⟩
  · exact ⟨l, rfl, rfl, h⟩
theorem evictAt_one {c : List Word} (h : okC c) (l : List Int) (x : Int) : ∃ l', (evictAt c [l] x).2.1 = [l'] ∧ l'.length = l.length ∧ okC (evictAt c [l] x).1 := by
  unfold evictAt
  split
  · exact ⟨l, rfl, rfl, h⟩
  · exact ⟨_, evict_one _ _ _, wb_len _ _, okC_del h _⟩
theorem fl_one : ∀ (c : List Word) (l : List Int), ∃ l', fl c [l] = [l'] ∧ l'.length = l.length
  | [], l => ⟨l, rfl, rfl⟩
  | w :: c, l => by
    obtain ⟨l', e, h⟩ := fl_one c (wb w l)
    refine ⟨l', ?_, h.trans (wb_len _ _)⟩
    show fl c (wback w [l]) = _
    rw [wback_one]; exact e
theorem okV.step {s : World} (h : okV s) {n kind x v : Int} (hn : 0 ≤ n ∧ n < 3) (hx : 0 ≤ x ∧ x < 8) : okV (step s n kind x v).1 := by
  have hn' : n.toNat < 3 := by omega
  have hc := h.at n.toNat hn'
  obtain ⟨l, e, hl⟩ := h.1
  unfold Sp.step
  rw [e]
  split
  · exact h.upd _ (okC_load hc _ hx) hl ()
  split
  · exact h.upd _ (okC_store hc hx) hl ()
  split
  · obtain ⟨l', e', h1, h2⟩ := atom0_one hc l x
    show okV (s.1.set n.toNat (atom0 (s.1.getD n.toNat []) [l] x).1, setM (atom0 (s.1.getD n.toNat []) [l] x).2.1 x _, ())
    rw [e']
    exact h.upd _ h2 (by show (l'.set _ _).length = 8; rw [List.length_set]; omega) ()
  split
  · obtain ⟨l', e', h1, h2⟩ := evictAt_one hc l x
    show okV (s.1.set n.toNat (evictAt (s.1.getD n.toNat []) [l] x).1, (evictAt (s.1.getD n.toNat []) [l] x).2.1, ())
    rw [e']
    exact h.upd _ h2 (by omega) ()
  · obtain ⟨l', e', h1⟩ := fl_one (s.1.getD n.toNat []) l
    show okV (s.1.set n.toNat [], fl (s.1.getD n.toNat []) [l], ())
    rw [e']
    exact h.upd _ okC_nil (by omega) ()
/-- Clean caches: nothing is written back. -/
def cleanC (c : List Word) : Prop := ∀ w ∈ c, w.2.2.2.1 = false
theorem clean.at {s : World} (h : clean s) (n : Nat) : cleanC (s.1.getD n []) := by
  by_cases hn : n < s.1.length
  · rw [getD_at hn]; exact h _ (List.getElem_mem _)
  · have : s.1.getD n [] = [] := by
      rw [List.getD_eq_getElem?_getD, List.getElem?_eq_none (by omega)]; rfl
    rw [this]; intro w hw; cases hw
theorem wback_clean {w : Word} (h : w.2.2.2.1 = false) (m : Memo) : wback w m = m := by
  unfold wback; rw [if_neg (by rw [h]; decide)]
theorem evict_clean {c : List Word} (h : cleanC c) (m : Memo) (k : Int) : (evict c m k).2.1 = m ∧ cleanC (evict c m k).1 := by
  refine ⟨?_, fun w hw => h w (mem_del hw)⟩
  refine wback_clean ?_ m
  unfold wd
  by_cases hk : k.toNat < c.length
  · rw [getD_at hk]; exact h _ (List.getElem_mem _)
  · have : c.getD k.toNat wd0 = wd0 := by
      rw [List.getD_eq_getElem?_getD, List.getElem?_eq_none (by omega)]; rfl
    rw [this]; rfl
theorem atom0_clean {c : List Word} (h : cleanC c) (m : Memo) (x : Int) : (atom0 c m x).2.1 = m ∧ cleanC (atom0 c m x).1 := by
  unfold atom0
  split
  · exact evict_clean h m _
  · exact ⟨rfl, h⟩
theorem evictAt_clean {c : List Word} (h : cleanC c) (m : Memo) (x : Int) : (evictAt c m x).2.1 = m ∧ cleanC (evictAt c m x).1 := by
  unfold evictAt
  split
  · exact ⟨rfl, h⟩
  · exact evict_clean h m _
theorem fl_clean : ∀ {c : List Word}, cleanC c → ∀ (m : Memo), fl c m = m
  | [], _, _ => rfl
  | w :: c, h, m => by
    show fl c (wback w m) = m
    rw [wback_clean (h w (List.mem_cons_self ..)) m]
    exact fl_clean (fun e he => h e (List.mem_cons_of_mem _ he)) m
theorem load_clean {c : List Word} (h : cleanC c) (m : Memo) (x : Int) : cleanC (load c m x).2.1 := by
  unfold load
  split
  · exact h
  · intro w hw
    rcases List.mem_append.1 hw with hw | hw
    · exact h w hw
    · rw [List.mem_singleton] at hw; rw [hw]
theorem clean.set {s : World} (h : clean s) (n : Nat) {c : List Word} (hc : cleanC c) (m : Memo) (u : Unit) : clean (s.1.set n c, m, u) := by
  intro c' hc'
  rcases List.mem_or_eq_of_mem_set hc' with hc' | hc'
  · exact h c' hc'
  · rw [hc']; exact hc
theorem clean.step {s : World} (h : clean s) {n kind x v : Int} (hk : kind ≠ 1) : clean (step s n kind x v).1 ∧ (step s n kind x v).1.2.1 = if kind = 2 then setM s.2.1 x (Go.IntKind.wrap .i32 (mget s.2.1 x + v)) else s.2.1 := by
  have hc := h.at n.toNat
  unfold Sp.step
  by_cases h0 : kind = 0
  · rw [if_pos h0, if_neg (by omega)]
    exact ⟨h.set _ (load_clean hc _ _) _ _, rfl⟩
  rw [if_neg h0, if_neg hk]
  by_cases h2 : kind = 2
  · obtain ⟨g1, g2⟩ := atom0_clean hc s.2.1 x
    rw [if_pos h2, if_pos h2]
    refine ⟨h.set _ g2 _ _, ?_⟩
    show setM (atom0 _ s.2.1 x).2.1 x (Go.IntKind.wrap .i32 (mget (atom0 _ s.2.1 x).2.1 x + v)) = _
    rw [g1]
  rw [if_neg h2, if_neg h2]
  by_cases h3 : kind = 3
  · obtain ⟨g1, g2⟩ := evictAt_clean hc s.2.1 x
    rw [if_pos h3]
    exact ⟨h.set _ g2 _ _, g1⟩
  · rw [if_neg h3]
    exact ⟨h.set _ (fun w hw => by cases hw) _ _, fl_clean hc _⟩
end Sp
namespace Sp
open Cx (up1 up2 upI lst)
def kOf (c : List Word) (x : Nat) : Option Int := (c.find? fun w => decide (w.2.1 = (x : Int))).map fun w => w.2.2.1 - 1
def cst (s : Mach) : Cx.St :=
  { Mo := fun x => s.2.2.2.1.2.2.1.getD x [], P := fun c x => (s.2.1.getD c co0).2.2.2.1.getD x [], K := fun c x => kOf (s.2.1.getD c co0).2.2.1 x, Fr := fun e => if 0 ≤ e then s.2.2.2.1.2.1.getD e.toNat (-1) else -1 }
theorem kOf_app (a b : List Word) (x : Nat) : kOf (a ++ b) x = (kOf a x).or (kOf b x) := by
  unfold kOf
  rw [List.find?_append]
  cases a.find? _ <;> rfl
theorem kOf_cons (w : Word) (b : List Word) (x : Nat) : kOf (w :: b) x = if w.2.1 = (x : Int) then some (w.2.2.1 - 1) else kOf b x := by
  unfold kOf
  rw [List.find?_cons]
  by_cases h : w.2.1 = (x : Int)
  · rw [decide_eq_true h, if_pos h]; rfl
  · rw [decide_eq_false h, if_neg h]
theorem kOf_nil (x : Nat) : kOf [] x = none := rfl
theorem kOf_none {c : List Word} {x : Nat} (h : ∀ w ∈ c, w.2.1 ≠ (x : Int)) : kOf c x = none := by
  unfold kOf
  rw [List.find?_eq_none.2 (fun w hw => by rw [decide_eq_false (h w hw)]; decide)]
  rfl
/-- The words of a cache have places of their own. -/
def okc (c : List Word) : Prop := (c.map fun w => w.2.1).Nodup ∧ ∀ w ∈ c, w.1 = 0 ∧ 0 ≤ w.2.1 ∧ w.2.1 < 3
theorem okc_mid {a b : List Word} {w : Word} (h : okc (a ++ w :: b)) : (∀ v ∈ a, v.2.1 ≠ w.2.1) ∧ (∀ v ∈ b, v.2.1 ≠ w.2.1) := by
  have := h.1
  rw [List.map_append, List.map_cons, List.nodup_append, List.nodup_cons] at this
  obtain ⟨_, ⟨h2, _⟩, h3⟩ := this
  exact ⟨fun v hv e => h3 _ (List.mem_map_of_mem (f := fun w : Word => w.2.1) hv) _ List.mem_cons_self e, fun v hv e => h2 (by rw [← e]; exact List.mem_map_of_mem (f := fun w : Word => w.2.1) hv)⟩
theorem nat_ne {z : Int} {x : Nat} (h0 : 0 ≤ z) (h : x ≠ z.toNat) : z ≠ (x : Int) := by omega
theorem kOf_mid {a b : List Word} {w : Word} (h : okc (a ++ w :: b)) (x : Nat) :
    (x = w.2.1.toNat → kOf (a ++ w :: b) x = some (w.2.2.1 - 1) ∧ kOf (a ++ b) x = none) ∧ (x ≠ w.2.1.toNat → kOf (a ++ b) x = kOf (a ++ w :: b) x) := by
  have h0 := h.2 w (by simp)
  obtain ⟨h1, h2⟩ := okc_mid h
  constructor
  · rintro rfl
    have e : ((w.2.1.toNat : Nat) : Int) = w.2.1 := by omega
    rw [kOf_app, kOf_app, kOf_cons, if_pos e.symm, kOf_none (c := a) (by rw [e]; exact h1), kOf_none (c := b) (by rw [e]; exact h2)]
    exact ⟨rfl, rfl⟩
  · intro hx
    rw [kOf_app, kOf_app, kOf_cons, if_neg (nat_ne h0.2.1 hx)]
theorem OkM.okc {s : Mach} (h : OkM s) {n : Int} (hn : inC s n) : Sp.okc (co s.2.1 n).2.2.1 := by
  obtain ⟨_, _, _, _, h5, h6, _⟩ := h.at hn
  refine ⟨h6, fun w hw => ?_⟩
  have := h5.2.2 w hw
  have h3 := h.okM.2
  exact ⟨this.1, this.2.1, by omega⟩
/-- A word is found, or not. -/
theorem kOf_fW {c : List Word} (h : Sp.okc c) {i : Int} (hi : 0 ≤ i) : if 0 ≤ fW i c then kOf c i.toNat = some ((wd c (fW i c)).2.2.1 - 1) ∧ (wd c (fW i c)).2.1 = i ∧ wd c (fW i c) ∈ c else kOf c i.toNat = none := by
  split
  · rename_i hf
    obtain ⟨h1, h2, h3⟩ := fW_some hf
    obtain ⟨a, b, e1, _, _⟩ := split_at hf h1
    have hk := (kOf_mid (a := a) (b := b) (w := wd c (fW i c)) (by rw [← e1]; exact h) i.toNat).1 (by rw [h3])
    rw [← e1] at hk
    exact ⟨hk.1, h3, wd_mem hf h1⟩
  · rename_i hf
    refine kOf_none (fun w hw => ?_)
    rw [Int.toNat_of_nonneg hi]
    exact fW_none hf (fun w hw => (h.2 w hw).1) w hw

section
variable (E0 : List LEv)
def opE (e : Int) : LOp := (Ax.ev E0 e).2.1
def coreE (e : Int) : Nat := (Ax.ev E0 e).1.toNat
structure CI (X : List Int) (s : Mach) : Prop where
  inv : Cx.Inv (opE E0) (coreE E0) X (cst s)
  mem : ∀ x, 0 ≤ x → x < 3 → mget s.2.2.1 x = lst ((cst s).Mo x.toNat) + 1
  dirty : ∀ n, inC s n → ∀ w ∈ (co s.2.1 n).2.2.1, (w.2.2.2.1 = true ↔ (cst s).P n.toNat w.2.1.toNat ≠ [])
  lenE : s.2.2.2.1.1.length = E0.length
  same : ∀ e, (Ax.ev s.2.2.2.1.1 e).1 = (Ax.ev E0 e).1 ∧ (Ax.ev s.2.2.2.1.1 e).2.1 = (Ax.ev E0 e).2.1
  got : ∀ e ∈ X, Ax.reads (opE E0 e) = true → (Ax.ev s.2.2.2.1.1 e).2.2.1 = Ax.value s.2.2.2.1.1 ((cst s).Fr e)
  no : ∀ e : Int, 0 ≤ e → e < (E0.length : Int) → ¬ (e ∈ X ∧ Ax.reads (opE E0 e) = true) → (cst s).Fr e = -1 ∧ (Ax.ev s.2.2.2.1.1 e).2.2.1 = 0
  fo : s.2.2.2.1.2.2.2.1 = X.filter fun e => decide ((opE E0 e).1 = 4)
  rng : ∀ e ∈ X, e < E0.length
end
theorem St_ext {a b : Cx.St} (h1 : ∀ x, a.Mo x = b.Mo x) (h2 : ∀ c x, a.P c x = b.P c x) (h3 : ∀ c x, a.K c x = b.K c x) (h4 : ∀ e, a.Fr e = b.Fr e) : a = b := by
  cases a; cases b
  congr 1
  · exact funext h1
  · exact funext fun c => funext (h2 c)
  · exact funext fun c => funext (h3 c)
  · exact funext h4
theorem co_nat (l : List Core) (n : Int) : l.getD n.toNat co0 = co l n := rfl
theorem coset {l : List Core} {n : Nat} {a : Core} (c : Nat) (h : n < l.length) : (l.set n a).getD c co0 = if c = n then a else l.getD c co0 := by
  by_cases e : c = n
  · rw [if_pos e, e]; exact getD_set_self h
  · rw [if_neg e]; exact getD_set_ne (fun h => e h.symm)
theorem liset {α : Type} {l : List α} {n : Nat} {a d : α} (c : Nat) (h : n < l.length) : (l.set n a).getD c d = if c = n then a else l.getD c d := by
  by_cases e : c = n
  · rw [if_pos e, e]; exact getD_set_self h
  · rw [if_neg e]; exact getD_set_ne (fun h => e h.symm)
theorem mget_set {l : List Int} {y x v : Int} (hy : 0 ≤ y ∧ y < l.length) (hx : 0 ≤ x) : mget (setM [l] y v) x = if x = y then v else mget [l] x := by
  show (l.set y.toNat v).getD x.toNat 0 = if x = y then v else l.getD x.toNat 0
  rw [liset _ (by omega)]
  by_cases e : x = y
  · rw [if_pos e, if_pos (by rw [e])]
  · rw [if_neg e, if_neg (by omega)]
section
variable {E0 : List LEv} {X : List Int} {s : Mach}
theorem OkM.pend3 (h : OkM s) {n : Int} (hn : inC s n) : (co s.2.1 n).2.2.2.1.length = 3 := (h.at hn).2.2.2.2.2.2.2
theorem cst_evict (hM : OkM s) (h : CI E0 X s) {n k : Int} (hn : inC s n) (h0 : 0 ≤ k) (h1 : k < (co s.2.1 n).2.2.1.length) :
    cst (evictM s n k) = Cx.evS (cst s) n.toNat (wd (co s.2.1 n).2.2.1 k).2.1.toNat ∧ (cst s).K n.toNat (wd (co s.2.1 n).2.2.1 k).2.1.toNat = some ((wd (co s.2.1 n).2.2.1 k).2.2.1 - 1) := by
  have hlt := inC_lt hn
  have hc := hM.okc hn
  have hp3 := hM.pend3 hn
  have hw := wd_mem h0 h1
  have hd := h.dirty n hn _ hw
  have hw3 := hc.2 _ hw
  obtain ⟨a, b, e1, _, e2⟩ := split_at h0 h1
  have hP : (cst s).P n.toNat (wd (co s.2.1 n).2.2.1 k).2.1.toNat = (co s.2.1 n).2.2.2.1.getD (wd (co s.2.1 n).2.2.1 k).2.1.toNat [] := rfl
  have hK : ∀ x, (cst s).K n.toNat x = kOf (co s.2.1 n).2.2.1 x := fun x => rfl
  have hmo := hM.mo
  generalize hwd : wd (co s.2.1 n).2.2.1 k = w at *
  have hmid := kOf_mid (a := a) (b := b) (w := w) (by rw [← e1]; exact hc)
  refine ⟨St_ext (fun x => ?_) (fun c x => ?_) (fun c x => ?_) (fun e => rfl), by rw [hK, e1]; exact ((hmid _).1 rfl).1⟩
  · show (eMo s.2.2.2.1.2.2.1 (co s.2.1 n) k).getD x [] = up1 (cst s).Mo _ ((cst s).Mo _ ++ (cst s).P _ _) x
    unfold eMo
    rw [hwd, hP]
    by_cases hdr : w.2.2.2.1 = true
    · rw [if_pos hdr, liset _ (by omega)]
      rfl
    · rw [if_neg hdr]
      have : (cst s).P n.toNat w.2.1.toNat = [] := Classical.byContradiction fun hh => hdr (hd.2 hh)
      rw [← hP, this, List.append_nil]
      unfold up1
      split
      · rename_i e; rw [e]; rfl
      · rfl
  · show ((s.2.1.set n.toNat (eC (co s.2.1 n) s.2.2.1 k)).getD c co0).2.2.2.1.getD x [] = up2 (cst s).P _ _ [] c x
    rw [coset c hlt]
    unfold up2
    by_cases hcn : c = n.toNat
    · rw [if_pos hcn]
      subst hcn
      show (eC (co s.2.1 n) s.2.2.1 k).2.2.2.1.getD x [] = _
      show (if _ then _ else _ : List (List Int)).getD x [] = _
      rw [hwd]
      by_cases hdr : w.2.2.2.1 = true
      · rw [if_pos hdr, liset _ (by omega)]
        by_cases hx : x = w.2.1.toNat
        · rw [if_pos hx, if_pos ⟨rfl, hx⟩]
        · rw [if_neg hx, if_neg (fun h => hx h.2)]; rfl
      · rw [if_neg hdr]
        by_cases hx : x = w.2.1.toNat
        · rw [if_pos ⟨rfl, hx⟩, hx, ← hP]
          exact Classical.byContradiction fun hh => hdr (hd.2 hh)
        · rw [if_neg (fun h => hx h.2)]; rfl
    · rw [if_neg hcn, if_neg (fun h => hcn h.1)]; rfl
  · show kOf ((s.2.1.set n.toNat (eC (co s.2.1 n) s.2.2.1 k)).getD c co0).2.2.1 x = up2 (cst s).K _ _ none c x
    rw [coset c hlt]
    unfold up2
    by_cases hcn : c = n.toNat
    · rw [if_pos hcn]
      subst hcn
      show kOf ((co s.2.1 n).2.2.1.take k.toNat ++ (co s.2.1 n).2.2.1.drop (k + 1).toNat) x = _
      rw [e2, hK, e1]
      by_cases hx : x = w.2.1.toNat
      · rw [if_pos ⟨rfl, hx⟩]; exact ((hmid x).1 hx).2
      · rw [if_neg (fun h => hx h.2)]; exact (hmid x).2 hx
    · rw [if_neg hcn, if_neg (fun h => hcn h.1)]; rfl
theorem CI.evict (hM : OkM s) (h : CI E0 X s) {n k : Int} (hn : inC s n) (h0 : 0 ≤ k) (h1 : k < (co s.2.1 n).2.2.1.length) : CI E0 X (evictM s n k) := by
  obtain ⟨e1, e2⟩ := cst_evict hM h hn h0 h1
  have hlt := inC_lt hn
  have hc := hM.okc hn
  have hw := wd_mem h0 h1
  have hd := h.dirty n hn _ hw
  have hw3 := hc.2 _ hw
  obtain ⟨a, b, e3, _, e4⟩ := split_at h0 h1
  obtain ⟨l, m1, m2, _⟩ := hM.mem
  generalize hwd : wd (co s.2.1 n).2.2.1 k = w at *
  have hI := h.inv.evict (n := n.toNat) (x := w.2.1.toNat) (by rw [e2]; intro hh; cases hh)
  rw [← e1] at hI
  refine ⟨hI, fun x hx0 hx3 => ?_, fun j hj v hv => ?_, h.lenE, h.same, fun e he hr => ?_, fun e he0 he1 hn' => ?_, h.fo, h.rng⟩
  · rw [e1]
    show mget (wback (wd (co s.2.1 n).2.2.1 k) s.2.2.1) x = lst (up1 (cst s).Mo _ _ x.toNat) + 1
    have hmx := h.mem x hx0 hx3
    rw [hwd]
    rw [m1] at hmx ⊢
    unfold wback up1
    by_cases hdr : w.2.2.2.1 = true
    · rw [if_pos hdr, mget_set ⟨hw3.2.1, by omega⟩ hx0]
      by_cases hxw : x = w.2.1
      · rw [if_pos hxw, if_pos (by rw [hxw]), Cx.lst_app _ _ (hd.1 hdr)]
        have := (h.inv.ks _ _ _ e2).resolve_left (fun hh => hd.1 hdr hh.1)
        have := this.2
        omega
      · rw [if_neg hxw, if_neg (by omega)]; exact hmx
    · rw [if_neg hdr]
      have hPe : (cst s).P n.toNat w.2.1.toNat = [] := Classical.byContradiction fun hh => hdr (hd.2 hh)
      rw [hPe, List.append_nil, hmx]
      split
      · rename_i e; rw [e]
      · rfl
  · have hj : inC s j := ⟨hj.1, by have := hj.2; have h2 : j < ((s.2.1.set n.toNat (eC (co s.2.1 n) s.2.2.1 k)).length : Int) := this; rwa [List.length_set] at h2⟩
    rw [e1]
    have hv : v ∈ ((s.2.1.set n.toNat (eC (co s.2.1 n) s.2.2.1 k)).getD j.toNat co0).2.2.1 := hv
    rw [coset _ hlt] at hv
    show _ ↔ up2 (cst s).P _ _ [] _ _ ≠ []
    by_cases hjn : j.toNat = n.toNat
    · rw [if_pos hjn] at hv
      have hv : v ∈ (co s.2.1 n).2.2.1.take k.toNat ++ (co s.2.1 n).2.2.1.drop (k + 1).toNat := hv
      rw [e4] at hv
      obtain ⟨g1, g2⟩ := okc_mid (a := a) (b := b) (w := w) (by rw [← e3]; exact hc)
      have hvw : v.2.1 ≠ w.2.1 := (List.mem_append.1 hv).elim (g1 v) (g2 v)
      have hvc : v ∈ (co s.2.1 n).2.2.1 := by
        rw [e3]
        rcases List.mem_append.1 hv with h | h <;> simp [h]
      have hv3 := hc.2 v hvc
      rw [Cx.up2_ne (by rintro ⟨_, h⟩; omega)]
      have := h.dirty n hn v hvc
      rw [hjn]; exact this
    · rw [if_neg hjn] at hv
      rw [Cx.up2_ne (fun h => hjn h.1)]
      exact h.dirty j hj v hv
  · rw [e1]; exact h.got e he hr
  · rw [e1]; exact h.no e he0 he1 hn'
end
end Sp
namespace Sp
open Cx (up1 up2 upI lst)
theorem ev_setR (E : List LEv) (b r e : Int) (hb : 0 ≤ b ∧ b < E.length) : Ax.ev (setR E b r) e = if e.toNat = b.toNat then ((Ax.ev E b).1, (Ax.ev E b).2.1, r, ()) else Ax.ev E e := by
  show (E.set b.toNat ((ev E b).1, (ev E b).2.1, r, ())).getD e.toNat ev0 = _
  rw [liset _ (by omega)]
  rfl
structure RdOK (E : List LEv) (b v : Int) (E' : List LEv) : Prop where
  len : E'.length = E.length
  same : ∀ e, (Ax.ev E' e).1 = (Ax.ev E e).1 ∧ (Ax.ev E' e).2.1 = (Ax.ev E e).2.1
  else_ : ∀ e, e.toNat ≠ b.toNat → Ax.ev E' e = Ax.ev E e
  val : ∀ f, f < 0 ∨ f.toNat ≠ b.toNat → Ax.value E' f = Ax.value E f
  got : (Ax.ev E' b).2.2.1 = Ax.value E v
theorem value_of {E E' : List LEv} {f : Int} (h : 0 ≤ f → Ax.ev E' f = Ax.ev E f) : Ax.value E' f = Ax.value E f := by
  unfold Ax.value
  by_cases hf : f < 0
  · rw [if_pos hf, if_pos hf]
  · rw [if_neg hf, if_neg hf, h (by omega)]
theorem read_ok {E : List LEv} {b v : Int} (hb : 0 ≤ b ∧ b < E.length) (hv : v < 0 ∨ v.toNat ≠ b.toNat) (h0 : (Ax.ev E b).2.2.1 = 0) : RdOK E b v (readE E b v) := by
  have fin : ∀ E', E'.length = E.length → (∀ e, e.toNat ≠ b.toNat → Ax.ev E' e = Ax.ev E e) → ((Ax.ev E' b).1 = (Ax.ev E b).1 ∧ (Ax.ev E' b).2.1 = (Ax.ev E b).2.1) → (Ax.ev E' b).2.2.1 = Ax.value E v → RdOK E b v E' := by
    intro E' hl h1 h2 h3
    refine ⟨hl, fun e => ?_, h1, fun f hf => value_of (fun h => h1 f (hf.resolve_left (by omega))), h3⟩
    by_cases he : e.toNat = b.toNat
    · have e1 : Ax.ev E' e = Ax.ev E' b := by unfold Ax.ev; rw [he]
      have e2 : Ax.ev E e = Ax.ev E b := by unfold Ax.ev; rw [he]
      rw [e1, e2]; exact h2
    · rw [h1 e he]; exact ⟨rfl, rfl⟩
  refine fin _ (readE_len _ _ _) ?_ ?_ ?_
  · intro e he
    unfold readE
    split
    · rfl
    · split
      · rw [ev_setR _ _ _ _ (by show 0 ≤ b ∧ b < (((E.set _ _).length : Nat) : Int); rw [List.length_set]; exact hb), if_neg he, ev_setR _ _ _ _ hb, if_neg he]
      · rw [ev_setR _ _ _ _ hb, if_neg he]
  · unfold readE
    split
    · exact ⟨rfl, rfl⟩
    · split
      · rw [ev_setR _ _ _ _ (by show 0 ≤ b ∧ b < (((E.set _ _).length : Nat) : Int); rw [List.length_set]; exact hb), if_pos rfl, ev_setR _ _ _ _ hb, if_pos rfl]
        exact ⟨rfl, rfl⟩
      · rw [ev_setR _ _ _ _ hb, if_pos rfl]
        exact ⟨rfl, rfl⟩
  · unfold readE Ax.value
    by_cases hv0 : v < 0
    · rw [if_pos hv0, if_pos hv0]; exact h0
    · rw [if_neg hv0, if_neg hv0]
      have hk : (ev E v).2.1.1 = (Ax.ev E v).2.1.1 := rfl
      by_cases h3 : (Ax.ev E v).2.1.1 = 3
      · rw [if_pos (by rw [hk]; exact h3), if_pos h3]
        rw [ev_setR _ _ _ _ (by show 0 ≤ b ∧ b < (((E.set _ _).length : Nat) : Int); rw [List.length_set]; exact hb), if_pos rfl]
        show Go.IntKind.wrap .i64 ((Ax.ev (setR E b (Ax.ev E v).2.1.2.2.1) b).2.2.1 + (Ax.ev E v).2.2.1) = _
        rw [ev_setR _ _ _ _ hb, if_pos rfl, Int.add_comm]
      · rw [if_neg (by rw [hk]; exact h3), if_neg h3]
        rw [ev_setR _ _ _ _ hb, if_pos rfl]
        rfl
section
variable {E0 : List LEv} {X : List Int} {s : Mach}
/-- What is new of an event. -/
structure New (E0 : List LEv) (X : List Int) (n b i k : Int) : Prop where
  out : b ∉ X
  pos : 0 ≤ b
  lt : b < (E0.length : Int)
  core : coreE E0 b = n.toNat
  kind : (opE E0 b).1 = k
  at_ : (opE E0 b).2.1 = i
  place : 0 ≤ i ∧ i < 3
theorem New.x {n b i k : Int} (h : New E0 X n b i k) : Cx.xof (opE E0) b = i.toNat := by show (opE E0 b).2.1.toNat = _; rw [h.at_]
theorem CI.vX (h : CI E0 X s) (c x : Nat) : (cst s).V c x = -1 ∨ (cst s).V c x ∈ X := (h.inv.vonto c x).imp id fun h1 => (h.inv.einX h1).1
theorem CI.bne (h : CI E0 X s) {b v : Int} (hb : b ∉ X) (h0 : 0 ≤ b) (hv : v = -1 ∨ v ∈ X) : v < 0 ∨ v.toNat ≠ b.toNat := by
  rcases hv with hv | hv
  · omega
  · right
    intro e
    have := h.inv.pos v hv
    exact hb (by rw [show b = v from by omega]; exact hv)
theorem CI.fr (h : CI E0 X s) {e : Int} (he : e ∈ X) (hr : Ax.reads (opE E0 e) = true) : (cst s).Fr e = -1 ∨ (cst s).Fr e ∈ X :=
  (h.inv.fr e he hr).imp id fun h1 => h1.1.subset (by simp)
/-- What has been read is said. -/
theorem CI.dRead {s' : Mach} (h : CI E0 X s) {n b i k v : Int} (hN : New E0 X n b i k) (hr : Ax.reads (opE E0 b) = true) (hI : Cx.Inv (opE E0) (coreE E0) (X ++ [b]) (cst s')) (hv : v = -1 ∨ v ∈ X)
    (hE : s'.2.2.2.1.1 = readE s.2.2.2.1.1 b v) (hF : (cst s').Fr = upI (cst s).Fr b v) (hFo : s'.2.2.2.1.2.2.2.1 = s.2.2.2.1.2.2.2.1)
    (hm : ∀ x, 0 ≤ x → x < 3 → mget s'.2.2.1 x = lst ((cst s').Mo x.toNat) + 1) (hd : ∀ n, inC s' n → ∀ w ∈ (co s'.2.1 n).2.2.1, (w.2.2.2.1 = true ↔ (cst s').P n.toNat w.2.1.toNat ≠ [])) : CI E0 (X ++ [b]) s' := by
  have h0 := (h.no b hN.pos hN.lt (fun hh => hN.out hh.1)).2
  have hb := h.bne hN.out hN.pos hv
  obtain ⟨r1, r2, r3, r4, r5⟩ := read_ok (E := s.2.2.2.1.1) (b := b) (v := v) ⟨hN.pos, by rw [h.lenE]; exact hN.lt⟩ hb h0
  rw [← hE] at r1 r2 r3 r4 r5
  have hk4 : ¬ (opE E0 b).1 = 4 := by
    intro e; simp [Ax.reads, e] at hr
  refine ⟨hI, hm, hd, r1.trans h.lenE, fun e => ⟨(r2 e).1.trans (h.same e).1, (r2 e).2.trans (h.same e).2⟩, fun e he hre => ?_, fun e he0 he1 hne => ?_, ?_, ?_⟩
  · rcases List.mem_append.1 he with he | he
    · have hne : e ≠ b := fun e' => hN.out (e' ▸ he)
      have hp := h.inv.pos e he
      have hpb := hN.pos
      rw [r3 e (by omega), hF, Cx.upI_ne hne, r4 _ (h.bne hN.out hN.pos (h.fr he hre))]
      exact h.got e he hre
    · have he := List.mem_singleton.1 he
      rw [he, r5, hF, Cx.upI_same, r4 v hb]
  · have hne' : e ≠ b := fun e' => hne ⟨by rw [e']; simp, by rw [e']; exact hr⟩
    have hpb := hN.pos
    rw [r3 e (by omega), hF, Cx.upI_ne hne']
    exact h.no e he0 he1 (fun hh => hne ⟨List.mem_append_left _ hh.1, hh.2⟩)
  · rw [hFo, h.fo, List.filter_append, List.filter_cons_of_neg (by rw [decide_eq_false hk4]; decide), List.filter_nil, List.append_nil]
  · intro e he
    rcases List.mem_append.1 he with he | he
    · exact h.rng e he
    · rw [List.mem_singleton.1 he]; exact hN.lt
theorem fr_set {l : List Int} {b v : Int} (hb : 0 ≤ b ∧ b < l.length) (f : Int → Int) (hf : ∀ e, f e = if 0 ≤ e then l.getD e.toNat (-1) else -1) :
    (fun e : Int => if 0 ≤ e then (l.set b.toNat v).getD e.toNat (-1) else -1) = upI f b v := by
  funext e
  show (if 0 ≤ e then (l.set b.toNat v).getD e.toNat (-1) else -1) = if e = b then v else f e
  rw [liset _ (by omega), hf]
  by_cases he : e = b
  · rw [if_pos he, if_pos (by omega), if_pos (by rw [he])]
  · rw [if_neg he]
    by_cases h0 : 0 ≤ e
    · rw [if_pos h0, if_pos h0, if_neg (by omega)]
    · rw [if_neg h0, if_neg h0]
theorem CI.dLoad (hM : OkM s) (h : CI E0 X s) {n b i : Int} (hn : inC s n) (hN : New E0 X n b i 1) : CI E0 (X ++ [b]) (doLoad s n b i) := by
  have hlt := inC_lt hn
  have hc := hM.okc hn
  have hi := hN.place
  have hfw := kOf_fW hc hi.1
  have hmem := h.mem i hi.1 hi.2
  have hK : (cst s).K n.toNat i.toNat = kOf (co s.2.1 n).2.2.1 i.toNat := rfl
  have hV : (load (co s.2.1 n).2.2.1 s.2.2.1 i).1 - 1 = (cst s).V n.toNat i.toNat := by
    unfold Cx.St.V
    rw [hK]
    unfold Sp.load
    split at hfw
    · rename_i hf
      rw [if_pos hf, hfw.1]; rfl
    · rename_i hf
      rw [if_neg hf, hfw]
      show mget s.2.2.1 i - 1 = lst _
      omega
  have hK' : ∀ x, kOf (load (co s.2.1 n).2.2.1 s.2.2.1 i).2.1 x = if x = i.toNat then some ((load (co s.2.1 n).2.2.1 s.2.2.1 i).1 - 1) else kOf (co s.2.1 n).2.2.1 x := by
    intro x
    unfold Sp.load
    split at hfw
    · rename_i hf
      rw [if_pos hf]
      split
      · rename_i e; rw [e]; exact hfw.1
      · rfl
    · rename_i hf
      rw [if_neg hf]
      show kOf ((co s.2.1 n).2.2.1 ++ [(0, i, mget s.2.2.1 i, false, ())]) x = _
      rw [kOf_app, kOf_cons]
      split
      · rename_i e
        rw [if_pos (by have e : i = (x : Int) := e; omega), show x = i.toNat from by have e : i = (x : Int) := e; omega, hfw]
        rfl
      · rename_i e
        have e : ¬ i = (x : Int) := e
        rw [if_neg (by omega), kOf_nil]
        cases kOf (co s.2.1 n).2.2.1 x <;> rfl
  have hFr : (cst (doLoad s n b i)).Fr = upI (cst s).Fr b ((load (co s.2.1 n).2.2.1 s.2.2.1 i).1 - 1) :=
    fr_set (l := s.2.2.2.1.2.1) ⟨hN.pos, by rw [hM.from_, h.lenE]; exact hN.lt⟩ _ (fun e => rfl)
  have e1 : cst (doLoad s n b i) = Cx.ldS (cst s) n.toNat i.toNat b := by
    refine St_ext (fun x => rfl) (fun c x => ?_) (fun c x => ?_) (fun e => ?_)
    · show ((s.2.1.set n.toNat ((co s.2.1 n).1, (co s.2.1 n).2.1, (load (co s.2.1 n).2.2.1 s.2.2.1 i).2.1, (co s.2.1 n).2.2.2)).getD c co0).2.2.2.1.getD x [] = (s.2.1.getD c co0).2.2.2.1.getD x []
      rw [coset _ hlt]
      split
      · rename_i e; rw [e]; rfl
      · rfl
    · show kOf ((s.2.1.set n.toNat ((co s.2.1 n).1, (co s.2.1 n).2.1, (load (co s.2.1 n).2.2.1 s.2.2.1 i).2.1, (co s.2.1 n).2.2.2)).getD c co0).2.2.1 x = up2 (cst s).K n.toNat i.toNat (some ((cst s).V n.toNat i.toNat)) c x
      rw [coset _ hlt]
      unfold up2
      by_cases hcn : c = n.toNat
      · rw [if_pos hcn]
        show kOf (load (co s.2.1 n).2.2.1 s.2.2.1 i).2.1 x = _
        rw [hK', hV]
        by_cases hx : x = i.toNat
        · rw [if_pos hx, if_pos ⟨hcn, hx⟩]
        · rw [if_neg hx, if_neg (fun h => hx h.2), hcn]; rfl
      · rw [if_neg hcn, if_neg (fun h => hcn h.1)]; rfl
    · rw [hFr, hV]; rfl
  have hI := h.inv.load (n := n.toNat) (x := i.toNat) hN.out hN.pos hN.kind hN.core hN.x
  rw [← e1] at hI
  refine h.dRead (v := (load (co s.2.1 n).2.2.1 s.2.2.1 i).1 - 1) hN (by simp [Ax.reads, hN.kind]) hI (by rw [hV]; exact h.vX _ _) rfl hFr rfl (fun x h0 h3 => h.mem x h0 h3) ?_
  intro j hj v hv
  have hj : inC s j := ⟨hj.1, by have := hj.2; have h2 : j < ((s.2.1.set n.toNat _).length : Int) := this; rwa [List.length_set] at h2⟩
  have hv : v ∈ ((s.2.1.set n.toNat ((co s.2.1 n).1, (co s.2.1 n).2.1, (load (co s.2.1 n).2.2.1 s.2.2.1 i).2.1, (co s.2.1 n).2.2.2)).getD j.toNat co0).2.2.1 := hv
  have hPs : ∀ y, (cst (doLoad s n b i)).P j.toNat y = (cst s).P j.toNat y := fun y => by rw [e1]; rfl
  rw [hPs]
  rw [coset _ hlt] at hv
  by_cases hjn : j.toNat = n.toNat
  · rw [if_pos hjn] at hv
    have hv : v ∈ (load (co s.2.1 n).2.2.1 s.2.2.1 i).2.1 := hv
    rw [hjn]
    unfold Sp.load at hv
    split at hfw
    · rename_i hf
      rw [if_pos hf] at hv
      exact h.dirty n hn v hv
    · rename_i hf
      rw [if_neg hf] at hv
      rcases List.mem_append.1 hv with hv | hv
      · exact h.dirty n hn v hv
      · rw [List.mem_singleton.1 hv]
        show false = true ↔ (cst s).P n.toNat i.toNat ≠ []
        rw [h.inv.kn _ _ (hK.trans hfw)]
        simp
  · rw [if_neg hjn] at hv
    exact h.dirty j hj v hv
/-- An event that has read nothing is done. -/
theorem CI.quiet {s' : Mach} (h : CI E0 X s) {n b i k : Int} (hN : New E0 X n b i k) (hr : Ax.reads (opE E0 b) = false) (hI : Cx.Inv (opE E0) (coreE E0) (X ++ [b]) (cst s'))
    (hE : s'.2.2.2.1.1 = s.2.2.2.1.1) (hF : (cst s').Fr = (cst s).Fr) (hFo : s'.2.2.2.1.2.2.2.1 = s.2.2.2.1.2.2.2.1 ++ (if k = 4 then [b] else []))
    (hm : ∀ x, 0 ≤ x → x < 3 → mget s'.2.2.1 x = lst ((cst s').Mo x.toNat) + 1) (hd : ∀ n, inC s' n → ∀ w ∈ (co s'.2.1 n).2.2.1, (w.2.2.2.1 = true ↔ (cst s').P n.toNat w.2.1.toNat ≠ [])) : CI E0 (X ++ [b]) s' := by
  refine ⟨hI, hm, hd, by rw [hE]; exact h.lenE, by rw [hE]; exact h.same, fun e he hre => ?_, fun e he0 he1 hne => ?_, ?_, ?_⟩
  · rw [hE, hF]
    rcases List.mem_append.1 he with he | he
    · exact h.got e he hre
    · rw [List.mem_singleton.1 he, hr] at hre; cases hre
  · rw [hE, hF]
    exact h.no e he0 he1 (fun hh => hne ⟨List.mem_append_left _ hh.1, hh.2⟩)
  · rw [hFo, h.fo, List.filter_append]
    congr 1
    by_cases hk : k = 4
    · rw [if_pos hk, List.filter_cons_of_pos (by rw [hN.kind]; exact decide_eq_true hk), List.filter_nil]
    · rw [if_neg hk, List.filter_cons_of_neg (by rw [hN.kind, decide_eq_false hk]; decide), List.filter_nil]
  · intro e he
    rcases List.mem_append.1 he with he | he
    · exact h.rng e he
    · rw [List.mem_singleton.1 he]; exact hN.lt
theorem CI.dStore (hM : OkM s) (h : CI E0 X s) {n b i : Int} (hn : inC s n) (hN : New E0 X n b i 2) : CI E0 (X ++ [b]) (doStore s n b i) := by
  have hlt := inC_lt hn
  have hc := hM.okc hn
  have hi := hN.place
  have hp3 := hM.pend3 hn
  have hfw := kOf_fW hc hi.1
  have hw : Go.IntKind.wrap .i32 (b + 1) = b + 1 := wrap_small (by have := hN.pos; omega) (by have := hN.lt; have := h.lenE; have := hM.ev; omega)
  have hset : ∀ (a : Core), (s.2.1.set n.toNat a).set n.toNat ((co (s.2.1.set n.toNat a) n).1, (co (s.2.1.set n.toNat a) n).2.1, (co (s.2.1.set n.toNat a) n).2.2.1, (co (s.2.1.set n.toNat a) n).2.2.2.1.set i.toNat ((co (s.2.1.set n.toNat a) n).2.2.2.1.getD i.toNat [] ++ [b]), ()) =
      s.2.1.set n.toNat (a.1, a.2.1, a.2.2.1, a.2.2.2.1.set i.toNat (a.2.2.2.1.getD i.toNat [] ++ [b]), ()) := by
    intro a
    rw [co_set hlt, List.set_set]
  have hco : (doStore s n b i).2.1 = s.2.1.set n.toNat ((co s.2.1 n).1, (co s.2.1 n).2.1, store (co s.2.1 n).2.2.1 i (b + 1), (co s.2.1 n).2.2.2.1.set i.toNat ((co s.2.1 n).2.2.2.1.getD i.toNat [] ++ [b]), ()) := by
    unfold doStore
    rw [hw]
    exact hset _
  have hK' : ∀ x, kOf (store (co s.2.1 n).2.2.1 i (b + 1)) x = if x = i.toNat then some b else kOf (co s.2.1 n).2.2.1 x := by
    intro x
    unfold Sp.store
    by_cases hf : 0 ≤ fW i (co s.2.1 n).2.2.1
    · rw [if_pos hf] at hfw ⊢
      obtain ⟨g1, g2, g3⟩ := fW_some hf
      obtain ⟨a, d, e1, e2, _⟩ := split_at hf g1
      rw [e2]
      rw [e1] at hc
      obtain ⟨k1, k2⟩ := okc_mid hc
      have k3 := kOf_mid hc x
      have hii : ((i.toNat : Nat) : Int) = i := by omega
      rw [kOf_app, kOf_cons]
      by_cases hx : x = i.toNat
      · rw [if_pos hx, if_pos (by show i = (x : Int); omega), kOf_none (c := a) (by rw [hx, hii, ← g3]; exact k1)]
        show some (b + 1 - 1) = _
        congr 1; omega
      · rw [if_neg hx, if_neg (by show ¬ i = (x : Int); omega), ← kOf_app, k3.2 (by rw [g3]; exact hx)]
        exact congrArg (fun c => kOf c x) e1.symm
    · rw [if_neg hf] at hfw ⊢
      rw [kOf_app, kOf_cons]
      by_cases hx : x = i.toNat
      · rw [if_pos hx, if_pos (by show i = (x : Int); omega), hx, hfw]
        show some (b + 1 - 1) = _
        congr 1; omega
      · rw [if_neg hx, if_neg (by show ¬ i = (x : Int); omega), kOf_nil]
        cases kOf (co s.2.1 n).2.2.1 x <;> rfl
  have e1 : cst (doStore s n b i) = Cx.stS (cst s) n.toNat i.toNat b := by
    refine St_ext (fun x => rfl) (fun c x => ?_) (fun c x => ?_) (fun e => rfl)
    · show ((doStore s n b i).2.1.getD c co0).2.2.2.1.getD x [] = up2 (cst s).P n.toNat i.toNat ((cst s).P n.toNat i.toNat ++ [b]) c x
      rw [hco, coset _ hlt]
      unfold up2
      by_cases hcn : c = n.toNat
      · rw [if_pos hcn]
        show ((co s.2.1 n).2.2.2.1.set i.toNat ((co s.2.1 n).2.2.2.1.getD i.toNat [] ++ [b])).getD x [] = _
        rw [liset _ (by omega)]
        by_cases hx : x = i.toNat
        · rw [if_pos hx, if_pos ⟨hcn, hx⟩]; rfl
        · rw [if_neg hx, if_neg (fun h => hx h.2), hcn]; rfl
      · rw [if_neg hcn, if_neg (fun h => hcn h.1)]; rfl
    · show kOf ((doStore s n b i).2.1.getD c co0).2.2.1 x = up2 (cst s).K n.toNat i.toNat (some b) c x
      rw [hco, coset _ hlt]
      unfold up2
      by_cases hcn : c = n.toNat
      · rw [if_pos hcn]
        show kOf (store (co s.2.1 n).2.2.1 i (b + 1)) x = _
        rw [hK']
        by_cases hx : x = i.toNat
        · rw [if_pos hx, if_pos ⟨hcn, hx⟩]
        · rw [if_neg hx, if_neg (fun h => hx h.2), hcn]; rfl
      · rw [if_neg hcn, if_neg (fun h => hcn h.1)]; rfl
  have hI := h.inv.store (n := n.toNat) (x := i.toNat) hN.out hN.pos hN.kind hN.core hN.x
  rw [← e1] at hI
  refine h.quiet hN (by simp [Ax.reads, hN.kind]) hI rfl rfl (by rw [if_neg (by decide), List.append_nil]; rfl) (fun x h0 h3 => h.mem x h0 h3) ?_
  intro j hj v hv
  have hj : inC s j := ⟨hj.1, by have := hj.2; rw [hco, List.length_set] at this; exact this⟩
  rw [e1]
  have hv : v ∈ ((doStore s n b i).2.1.getD j.toNat co0).2.2.1 := hv
  rw [hco, coset _ hlt] at hv
  show _ ↔ up2 (cst s).P n.toNat i.toNat _ _ _ ≠ []
  by_cases hjn : j.toNat = n.toNat
  · rw [if_pos hjn] at hv
    have hv : v ∈ store (co s.2.1 n).2.2.1 i (b + 1) := hv
    have hcase : v = (0, i, b + 1, true, ()) ∨ (v ∈ (co s.2.1 n).2.2.1 ∧ v.2.1 ≠ i) := by
      unfold Sp.store at hv
      by_cases hf : 0 ≤ fW i (co s.2.1 n).2.2.1
      · rw [if_pos hf] at hv
        obtain ⟨g1, g2, g3⟩ := fW_some hf
        obtain ⟨a, d, e1, e2, _⟩ := split_at hf g1
        rw [e2] at hv
        rw [e1] at hc
        obtain ⟨k1, k2⟩ := okc_mid hc
        rcases List.mem_append.1 hv with hv | hv
        · exact .inr ⟨by rw [e1]; exact List.mem_append_left _ hv, by rw [← g3]; exact k1 v hv⟩
        · rcases List.mem_cons.1 hv with hv | hv
          · exact .inl hv
          · exact .inr ⟨by rw [e1]; exact List.mem_append_right _ (List.mem_cons_of_mem _ hv), by rw [← g3]; exact k2 v hv⟩
      · rw [if_neg hf] at hv
        rcases List.mem_append.1 hv with hv | hv
        · exact .inr ⟨hv, fW_none hf (fun w hw => (hc.2 w hw).1) v hv⟩
        · exact .inl (List.mem_singleton.1 hv)
    rcases hcase with rfl | ⟨h1, h2⟩
    · rw [hjn, Cx.up2_same]; simp
    · have := (hc.2 v h1).2.1
      rw [hjn, Cx.up2_ne (by rintro ⟨_, h⟩; omega)]
      exact h.dirty n hn v h1
  · rw [if_neg hjn] at hv
    rw [Cx.up2_ne (fun h => hjn h.1)]
    exact h.dirty j hj v hv
theorem CI.dEvX (hM : OkM s) (h : CI E0 X s) {n i : Int} (hn : inC s n) (hi : 0 ≤ i ∧ i < 3) : CI E0 X (evX s n i) ∧ OkM (evX s n i) ∧ inC (evX s n i) n ∧ (cst (evX s n i)).K n.toNat i.toNat = none := by
  have hc := hM.okc hn
  have hfw := kOf_fW hc hi.1
  unfold Sp.evX
  by_cases hf : 0 ≤ fW i (co s.2.1 n).2.2.1
  · rw [if_pos hf] at hfw ⊢
    obtain ⟨g1, g2, g3⟩ := fW_some hf
    refine ⟨h.evict hM hn hf g1, hM.evict hn hf g1, evictM_inC hn, ?_⟩
    rw [(cst_evict hM h hn hf g1).1, g3]
    exact Cx.up2_same
  · rw [if_neg hf] at hfw ⊢
    exact ⟨h, hM, hn, hfw⟩
theorem CI.add (hM : OkM s) (h : CI E0 X s) {n b i : Int} (hn : inC s n) (hN : New E0 X n b i 3) : CI E0 (X ++ [b]) (doAdd s n b i) := by
  have hi := hN.place
  obtain ⟨h2, hM2, hn2, hK⟩ := h.dEvX hM hn hi
  unfold doAdd
  generalize Sp.evX s n i = u at *
  have hmem := h2.mem i hi.1 hi.2
  obtain ⟨l, m1, m2, _⟩ := hM2.mem
  have hw : Go.IntKind.wrap .i32 (b + 1) = b + 1 := wrap_small (by have := hN.pos; omega) (by have := hN.lt; have := h2.lenE; have := hM2.ev; omega)
  have hFr : (cst (putM (readM u b (mget u.2.2.1 i)) b i)).Fr = upI (cst u).Fr b (mget u.2.2.1 i - 1) :=
    fr_set (l := u.2.2.2.1.2.1) ⟨hN.pos, by rw [hM2.from_, h2.lenE]; exact hN.lt⟩ _ (fun e => rfl)
  have hV : mget u.2.2.1 i - 1 = lst ((cst u).Mo i.toNat) := by omega
  have e1 : cst (putM (readM u b (mget u.2.2.1 i)) b i) = Cx.adS (cst u) n.toNat i.toNat b := by
    refine St_ext (fun x => ?_) (fun c x => rfl) (fun c x => rfl) (fun e => by rw [hFr, hV]; rfl)
    show (u.2.2.2.1.2.2.1.set i.toNat (u.2.2.2.1.2.2.1.getD i.toNat [] ++ [b])).getD x [] = up1 (cst u).Mo i.toNat _ x
    rw [liset _ (by rw [hM2.mo]; omega)]
    rfl
  have hI := h2.inv.add' (n := n.toNat) (x := i.toNat) hN.out hN.pos hN.kind hN.core hN.x hK
  rw [← e1] at hI
  have hvX : mget u.2.2.1 i - 1 = -1 ∨ mget u.2.2.1 i - 1 ∈ X := by
    rw [hV]
    exact (Cx.lst_onto _).imp id fun h1 => (h2.inv.mo _ _ h1).1
  refine h2.dRead (v := mget u.2.2.1 i - 1) hN (by simp [Ax.reads, hN.kind]) hI hvX rfl hFr rfl (fun x h0 h3 => ?_) ?_
  · rw [e1]
    show mget (setM u.2.2.1 i (Go.IntKind.wrap .i32 (b + 1))) x = lst (up1 (cst u).Mo i.toNat _ x.toNat) + 1
    have hmx := h2.mem x h0 h3
    rw [m1] at hmx ⊢
    rw [hw, mget_set ⟨hi.1, by omega⟩ h0]
    unfold up1
    by_cases hx : x = i
    · rw [if_pos hx, if_pos (by rw [hx]), Cx.lst_snoc]
    · rw [if_neg hx, if_neg (by omega)]; exact hmx
  · intro j hj v hv
    exact h2.dirty j hj v hv
theorem CI.dFlush (hM : OkM s) (h : CI E0 X s) {n : Int} (hn : inC s n) : CI E0 X (flushM s n) ∧ OkM (flushM s n) ∧ inC (flushM s n) n ∧ (co (flushM s n).2.1 n).2.2.1 = [] :=
  flush_ind (p := fun s => CI E0 X s) _ hM hn rfl h fun s h1 h2 h3 h4 => h4.evict h1 h2 (by decide) (by omega)
theorem CI.dFence (hM : OkM s) (h : CI E0 X s) {n b i : Int} (hn : inC s n) (hN : New E0 X n b i 4) : CI E0 (X ++ [b]) (doFence s n b) := by
  obtain ⟨h2, hM2, hn2, hK⟩ := h.dFlush hM hn
  unfold doFence
  generalize flushM s n = u at *
  have hI := h2.inv.fence (n := n.toNat) hN.out hN.pos hN.kind hN.core (fun x => by
    show kOf (co u.2.1 n).2.2.1 x = none
    rw [hK]; rfl)
  refine h2.quiet (s' := addFo u b) hN (by simp [Ax.reads, hN.kind]) hI rfl rfl (by rw [if_pos rfl]; rfl) (fun x h0 h3 => h2.mem x h0 h3) h2.dirty
theorem CI.inc (h : CI E0 X s) (n : Int) (hn : inC s n) : CI E0 X (incD s n) := by
  have hlt := inC_lt hn
  have hco : ∀ c, ((incD s n).2.1.getD c co0).2.2 = (s.2.1.getD c co0).2.2 := by
    intro c
    show ((s.2.1.set n.toNat _).getD c co0).2.2 = _
    rw [coset _ hlt]
    split
    · rename_i e; rw [e]; rfl
    · rfl
  have e1 : cst (incD s n) = cst s := St_ext (fun x => rfl) (fun c x => by show ((incD s n).2.1.getD c co0).2.2.2.1.getD x [] = _; rw [hco]; rfl) (fun c x => by show kOf ((incD s n).2.1.getD c co0).2.2.1 x = _; rw [hco]; rfl) (fun e => rfl)
  refine ⟨by rw [e1]; exact h.inv, fun x h0 h3 => by rw [e1]; exact h.mem x h0 h3, fun j hj w hw => ?_, h.lenE, h.same, fun e he hr => by rw [e1]; exact h.got e he hr, fun e h0 h1 h2 => by rw [e1]; exact h.no e h0 h1 h2, h.fo, h.rng⟩
  rw [e1]
  have hw : w ∈ ((incD s n).2.1.getD j.toNat co0).2.2.1 := hw
  rw [hco] at hw
  exact h.dirty j ⟨hj.1, by have := hj.2; have h2 : j < ((s.2.1.set n.toNat _).length : Int) := this; rwa [List.length_set] at h2⟩ w hw
end
end Sp
namespace Sp
open Relation
open Cx (up1 up2 upI lst)
theorem evs_ax : ∀ (p : List (List LOp)) (c : Int), Ax.evs c p = evs c p
  | [], c => rfl
  | l :: p, c => by
    show l.map (Ax.mkEv c) ++ Ax.evs (c + 1) p = l.map (mkEv c) ++ evs (c + 1) p
    rw [evs_ax p]; rfl
theorem ev_op {p : List (List LOp)} {c i : Nat} (hc : c < p.length) (h1 : Ax.st p c ≤ i) (h2 : i < Ax.st p (c + 1)) : (Ax.ev (Ax.evs 0 p) (i : Int)).2.1 = (p.getD c []).getD (i - Ax.st p c) op0 := by
  have e : Ax.evs 0 p = Ax.evs 0 (p.take (c + 1)) ++ Ax.evs (0 + ((p.take (c + 1)).length : Int)) (p.drop (c + 1)) := by rw [← Ax.evs_append, List.take_append_drop]
  have h3 := Ax.st_succ hc
  unfold Ax.st at h1 h2 h3 ⊢
  unfold Ax.ev
  rw [Int.toNat_natCast, e, List.getD_eq_getElem?_getD, List.getElem?_append_left h2, Ax.evs_succ hc, List.getElem?_append_right h1, List.getElem?_map, List.getElem?_eq_getElem (by omega), List.getD_eq_getElem?_getD (l := p.getD c []), List.getElem?_eq_getElem (by omega)]
  rfl
/-- Where the cores are stays. -/
structure Pc (s s' : Mach) : Prop where
  t : s'.1 = s.1
  len : s'.2.1.length = s.2.1.length
  pc : ∀ c, (s'.2.1.getD c co0).1 = (s.2.1.getD c co0).1 ∧ (s'.2.1.getD c co0).2.1 = (s.2.1.getD c co0).2.1
theorem Pc.refl (s : Mach) : Pc s s := ⟨rfl, rfl, fun _ => ⟨rfl, rfl⟩⟩
theorem Pc.trans {a b c : Mach} (h : Pc a b) (h2 : Pc b c) : Pc a c := ⟨h2.t.trans h.t, h2.len.trans h.len, fun k => ⟨(h2.pc k).1.trans (h.pc k).1, (h2.pc k).2.trans (h.pc k).2⟩⟩
theorem Pc.set {s s' : Mach} {n : Int} (hn : inC s n) {a : Core} (h1 : s'.1 = s.1) (h2 : s'.2.1 = s.2.1.set n.toNat a) (h3 : a.1 = (co s.2.1 n).1) (h4 : a.2.1 = (co s.2.1 n).2.1) : Pc s s' := by
  refine ⟨h1, by rw [h2, List.length_set], fun c => ?_⟩
  rw [h2, coset _ (inC_lt hn)]
  split
  · rename_i e; rw [e]; exact ⟨h3, h4⟩
  · exact ⟨rfl, rfl⟩
theorem pc_evict {s : Mach} {n k : Int} (hn : inC s n) : Pc s (evictM s n k) := Pc.set hn rfl rfl rfl rfl
theorem pc_evX {s : Mach} {n k : Int} (hn : inC s n) : Pc s (evX s n k) := by
  unfold evX
  split
  · exact pc_evict hn
  · exact .refl s
theorem pc_flush {s : Mach} (hM : OkM s) {n : Int} (hn : inC s n) : Pc s (flushM s n) :=
  (flush_ind (p := fun s' => Pc s s') _ hM hn rfl (.refl s) fun s' h1 h2 h3 h4 => h4.trans (pc_evict h2)).1
theorem pc_load {s : Mach} {n e x : Int} (hn : inC s n) : Pc s (doLoad s n e x) := Pc.set hn rfl rfl rfl rfl
theorem pc_store {s : Mach} {n e x : Int} (hn : inC s n) : Pc s (doStore s n e x) := by
  have h1 : Pc s (setCache s n (store (co s.2.1 n).2.2.1 x (Go.IntKind.wrap .i32 (e + 1)))) := Pc.set hn rfl rfl rfl rfl
  have hn' : inC (setCache s n (store (co s.2.1 n).2.2.1 x (Go.IntKind.wrap .i32 (e + 1)))) n := ⟨hn.1, by rw [h1.len]; exact hn.2⟩
  exact h1.trans (Pc.set hn' rfl rfl rfl rfl)
theorem pc_add {s : Mach} {n e x : Int} (hn : inC s n) : Pc s (doAdd s n e x) := by
  have h1 := pc_evX (k := x) hn
  exact h1.trans ⟨rfl, rfl, fun _ => ⟨rfl, rfl⟩⟩
theorem pc_fence {s : Mach} (hM : OkM s) {n e : Int} (hn : inC s n) : Pc s (doFence s n e) := (pc_flush hM hn).trans ⟨rfl, rfl, fun _ => ⟨rfl, rfl⟩⟩
abbrev E0 (t : Lit) : List LEv := Ax.evs 0 t.1
structure RI (t : Lit) (X : List Int) (s : Mach) : Prop where
  ci : CI (E0 t) X s
  te : s.1 = t
  first : ∀ n, n < t.1.length → (s.2.1.getD n co0).1 = (Ax.st t.1 n : Int)
  xs : ∀ n, n < t.1.length → ∀ e : Int, (e ∈ X ∧ coreE (E0 t) e = n) ↔ ((Ax.st t.1 n : Int) ≤ e ∧ e < Ax.st t.1 n + (s.2.1.getD n co0).2.1)
  po : ∀ a b : Int, 0 ≤ a → a < b → b ∈ X → coreE (E0 t) a = coreE (E0 t) b → [a, b].Sublist X
section
variable {t : Lit} {X : List Int} {s : Mach}
theorem RI.keep {s' : Mach} (h : RI t X s) (hp : Pc s s') (hc : CI (E0 t) X s') : RI t X s' := by
  refine ⟨hc, hp.t.trans h.te, fun n hn => (hp.pc n).1.trans (h.first n hn), fun n hn e => ?_, h.po⟩
  rw [(hp.pc n).2]; exact h.xs n hn e
theorem core_lt {e : Int} (h0 : 0 ≤ e) (h1 : e < (E0 t).length) : ∃ c : Nat, c < t.1.length ∧ (Ax.st t.1 c : Int) ≤ e ∧ e < Ax.st t.1 (c + 1) ∧ coreE (E0 t) e = c := by
  obtain ⟨c, g1, g2, g3⟩ := Ax.core_ex (p := t.1) (i := e.toNat) (by show e.toNat < (E0 t).length; omega)
  have := Ax.ev_core g1 g2 g3
  rw [show ((e.toNat : Nat) : Int) = e from by omega] at this
  refine ⟨c, g1, by omega, by omega, ?_⟩
  show (Ax.ev (Ax.evs 0 t.1) e).1.toNat = c
  rw [this]; rfl
theorem RI.do_ (hu : ∀ x ∈ E0 t, Ax.usual x.2.1 = true) (hM : OkM s) (h : RI t X s) {n : Int} (hn : inC s n) (hd : (co s.2.1 n).2.1 < (s.1.1.getD n.toNat []).length) : ∃ b, RI t (X ++ [b]) (doM s n) := by
  have hlt := inC_lt hn
  have hlen : s.2.1.length = t.1.length := by rw [hM.len, h.te]
  have hnt : n.toNat < t.1.length := by omega
  have hf := h.first _ hnt
  rw [co_nat] at hf
  have hd0 := (hM.at hn).2.1
  rw [h.te] at hd
  have hst := Ax.st_succ hnt
  have hE := (ev_lt hM hn (by rw [h.te]; exact hd)).2
  rw [h.ci.lenE] at hE
  have hb : ∃ b : Int, b = (co s.2.1 n).1 + (co s.2.1 n).2.1 := ⟨_, rfl⟩
  obtain ⟨b, hb⟩ := hb
  rw [← hb] at hE
  have hev := ev_op (p := t.1) (c := n.toNat) (i := b.toNat) hnt (by omega) (by omega)
  have hcr := Ax.ev_core (p := t.1) (c := n.toNat) (i := b.toNat) hnt (by omega) (by omega)
  rw [show ((b.toNat : Nat) : Int) = b from by omega] at hev hcr
  have hcore : coreE (E0 t) b = n.toNat := by
    show (Ax.ev (Ax.evs 0 t.1) b).1.toNat = _
    rw [hcr]; rfl
  have hop : opE (E0 t) b = opAt s n := by
    show (Ax.ev (Ax.evs 0 t.1) b).2.1 = _
    rw [hev]
    unfold opAt
    rw [h.te]
    congr 1
    omega
  have hout : b ∉ X := by
    intro hm
    have := ((h.xs _ hnt b).1 ⟨hm, hcore⟩).2
    rw [co_nat] at this
    omega
  have hpl := op_ok hM hn (by rw [h.te]; exact hd)
  have hM1 := hM.inc hn (by rw [h.te]; exact hd)
  have hn1 : inC (incD s n) n := incD_inC hn
  have hci := h.ci.inc n hn
  have hN : ∀ k, (opAt s n).1 = k → New (E0 t) X n b (opAt s n).2.1 k := fun k hk => ⟨hout, by omega, hE, hcore, by rw [hop]; exact hk, by rw [hop], hpl⟩
  have hus := hu (Ax.ev (E0 t) b) (by
    have := Ax.ev_mem (e := E0 t) (n := b.toNat) (by omega)
    rwa [show ((b.toNat : Nat) : Int) = b from by omega] at this)
  have hk4 : (opAt s n).1 = 1 ∨ (opAt s n).1 = 2 ∨ (opAt s n).1 = 3 ∨ (opAt s n).1 = 4 := by
    have hus : Ax.usual (opE (E0 t) b) = true := hus
    rw [hop] at hus
    unfold Ax.usual at hus
    by_cases h4 : (opAt s n).1 = 4
    · exact .inr (.inr (.inr h4))
    · rw [if_neg h4] at hus
      by_cases h1 : (opAt s n).1 = 1
      · exact .inl h1
      · rw [if_neg h1] at hus
        by_cases h2 : (opAt s n).1 = 2 ∨ (opAt s n).1 = 3
        · rcases h2 with h2 | h2
          · exact .inr (.inl h2)
          · exact .inr (.inr (.inl h2))
        · rw [if_neg h2] at hus; cases hus
  refine ⟨b, ?_⟩
  have fin : ∀ s', Pc (incD s n) s' → CI (E0 t) (X ++ [b]) s' → RI t (X ++ [b]) s' := by
    intro s' hp hc
    have hpc : ∀ c, (s'.2.1.getD c co0).1 = (s.2.1.getD c co0).1 ∧ (s'.2.1.getD c co0).2.1 = if c = n.toNat then (s.2.1.getD c co0).2.1 + 1 else (s.2.1.getD c co0).2.1 := by
      intro c
      rw [(hp.pc c).1, (hp.pc c).2]
      show ((s.2.1.set n.toNat ((co s.2.1 n).1, (co s.2.1 n).2.1 + 1, (co s.2.1 n).2.2)).getD c co0).1 = _ ∧ ((s.2.1.set n.toNat ((co s.2.1 n).1, (co s.2.1 n).2.1 + 1, (co s.2.1 n).2.2)).getD c co0).2.1 = _
      rw [coset _ hlt]
      by_cases hc : c = n.toNat
      · rw [if_pos hc, if_pos hc, hc]; exact ⟨rfl, rfl⟩
      · rw [if_neg hc, if_neg hc]; exact ⟨rfl, rfl⟩
    refine ⟨hc, hp.t.trans h.te, fun c hc => (hpc c).1.trans (h.first c hc), fun c hc e => ?_, fun a d ha had hd hcd => ?_⟩
    · rw [(hpc c).2]
      have hx := h.xs c hc e
      by_cases hcn : c = n.toNat
      · rw [if_pos hcn]
        subst hcn
        rw [co_nat] at hx ⊢
        constructor
        · rintro ⟨h1, h2⟩
          rcases List.mem_append.1 h1 with h1 | h1
          · have := hx.1 ⟨h1, h2⟩; omega
          · rw [List.mem_singleton.1 h1]; omega
        · intro h1
          by_cases he : e = b
          · rw [he]; exact ⟨by simp, hcore⟩
          · have := hx.2 ⟨h1.1, by omega⟩
            exact ⟨List.mem_append_left _ this.1, this.2⟩
      · rw [if_neg hcn]
        constructor
        · rintro ⟨h1, h2⟩
          rcases List.mem_append.1 h1 with h1 | h1
          · exact hx.1 ⟨h1, h2⟩
          · rw [List.mem_singleton.1 h1, hcore] at h2; exact absurd h2.symm hcn
        · intro h1
          have := hx.2 h1
          exact ⟨List.mem_append_left _ this.1, this.2⟩
    · rcases List.mem_append.1 hd with hd | hd
      · exact (h.po a d ha had hd hcd).trans (List.sublist_append_left _ _)
      · have hdb := List.mem_singleton.1 hd
        subst hdb
        refine (Cx.sub_snoc hout).2 (.inr ⟨rfl, ?_⟩)
        obtain ⟨c, g1, g2, g3, g4⟩ := core_lt (t := t) (e := a) ha (by omega)
        rw [g4, hcore] at hcd
        subst hcd
        refine ((h.xs _ hnt a).2 ⟨g2, ?_⟩).1
        rw [co_nat]; omega
  unfold doM
  rw [← hb]
  rcases hk4 with hk | hk | hk | hk
  · rw [if_pos hk]
    exact fin _ (pc_load hn1) (hci.dLoad hM1 hn1 (hN 1 hk))
  · rw [if_neg (by omega), if_pos hk]
    exact fin _ (pc_store hn1) (hci.dStore hM1 hn1 (hN 2 hk))
  · rw [if_neg (by omega), if_neg (by omega), if_pos hk]
    exact fin _ (pc_add hn1) (hci.add hM1 hn1 (hN 3 hk))
  · rw [if_neg (by omega), if_neg (by omega), if_neg (by omega), if_pos hk]
    exact fin _ (pc_fence hM1 hn1) (hci.dFence hM1 hn1 (hN 4 hk))
theorem RI.step (hu : ∀ x ∈ E0 t, Ax.usual x.2.1 = true) {z : Th} (hM : OkM s) (hz : z ∈ things s) (h : RI t X s) : ∃ X', RI t X' (runT z s) := by
  obtain ⟨_, hn, hc⟩ := things_pre hM hz
  unfold runT
  rcases hc with ⟨h1, h2, h3⟩ | ⟨h1, h2, h3, h4⟩
  · rw [if_pos h1]
    obtain ⟨b, hb⟩ := h.do_ hu hM hn h3
    exact ⟨_, hb⟩
  · rw [if_neg (by rw [h1]; decide)]
    exact ⟨X, h.keep (pc_evict hn) (h.ci.evict hM hn h3 h4)⟩
end
theorem inv0 (op : Int → LOp) (core : Int → Nat) (fr : Int → Int) : Cx.Inv op core [] ⟨fun _ => [], fun _ _ => [], fun _ _ => none, fr⟩ := by
  have h0 : ∀ a b, ¬ Cx.HB op core [] a b := fun a b hab => by cases hab.mem.1
  refine ⟨List.nodup_nil, fun e h => (by cases h), fun _ _ h => (by cases h), fun _ _ _ h => (by cases h), fun _ h => (by cases h), fun _ _ => List.nodup_nil, fun _ _ _ => rfl, fun _ _ _ h => (by cases h), fun _ h => (by cases h), fun _ h => (by cases h),
    fun a b h => absurd h (h0 a b), fun a c h => ?_, fun a b h => absurd h (h0 a b)⟩
  obtain ⟨d, h1, _⟩ := h
  cases h1
theorem RI.init {t : Lit} (h : okT t) : RI t [] (Sp.init t) := by
  have he : evN t.1 t.1.length 0 = E0 t := by rw [evN_zero, List.take_length]; exact (evs_ax _ _).symm
  have hE : (Sp.init t).2.2.2.1.1 = E0 t := he
  have hcr : ∀ c, ((Sp.init t).2.1.getD c co0).2 = (0, [], [[], [], []], ()) := by
    intro c
    show ((coresN t.1 t.1.length).getD c co0).2 = _
    rcases Nat.lt_or_ge c t.1.length with hc | hc
    · rw [coresN_get t.1 hc]
    · rw [List.getD_eq_getElem?_getD, List.getElem?_eq_none (by simp [coresN]; exact hc)]; rfl
  have h3 : ∀ x, ([[], [], []] : List (List Int)).getD x [] = [] := by
    intro x
    match x with
    | 0 => rfl
    | 1 => rfl
    | 2 => rfl
    | x + 3 => rfl
  have hFr : ∀ e, (cst (Sp.init t)).Fr e = -1 := by
    intro e
    show (if 0 ≤ e then (List.replicate (evN t.1 t.1.length 0).length (-1 : Int)).getD e.toNat (-1) else -1) = -1
    split
    · rw [List.getD_eq_getElem?_getD, List.getElem?_replicate]; split <;> rfl
    · rfl
  have e1 : cst (Sp.init t) = ⟨fun _ => [], fun _ _ => [], fun _ _ => none, (cst (Sp.init t)).Fr⟩ :=
    St_ext (fun x => h3 x) (fun c x => by show ((Sp.init t).2.1.getD c co0).2.2.2.1.getD x [] = []; rw [hcr]; exact h3 x) (fun c x => by show kOf ((Sp.init t).2.1.getD c co0).2.2.1 x = none; rw [hcr]; rfl) (fun e => rfl)
  refine ⟨⟨by rw [e1]; exact inv0 _ _ _, fun x h0 h3' => ?_, fun n hn w hw => ?_, by rw [hE], fun e => by rw [hE]; exact ⟨rfl, rfl⟩, fun e he => (by cases he), fun e h0 h1 _ => ⟨hFr e, ?_⟩, rfl, fun e he => (by cases he)⟩, rfl, fun n hn => ?_, fun n hn e => ?_, fun a b _ _ hb => (by cases hb)⟩
  · rw [e1]
    show ([0, 0, 0] : List Int).getD x.toNat 0 = lst [] + 1
    have : x = 0 ∨ x = 1 ∨ x = 2 := by omega
    rcases this with rfl | rfl | rfl <;> rfl
  · have hw : w ∈ ((Sp.init t).2.1.getD n.toNat co0).2.2.1 := hw
    rw [hcr] at hw; cases hw
  · rw [hE]
    exact Ax.ev_evs_R t.1 0 e.toNat
  · show ((coresN t.1 t.1.length).getD n co0).1 = _
    rw [coresN_get t.1 hn]
    show ((evs 0 (t.1.take n)).length : Int) = ((Ax.evs 0 (t.1.take n)).length : Int)
    rw [evs_ax]
  · rw [hcr]
    constructor
    · rintro ⟨h1, _⟩; cases h1
    · intro h1
      have h2 : e < (Ax.st t.1 n : Int) + 0 := h1.2
      omega
/-- All that is left in the caches at the end. -/
theorem RI.flAll {t : Lit} {X : List Int} {s : Mach} (hM : OkM s) (h : RI t X s) : ∀ k, k ≤ s.2.1.length → OkM (flAll k s) ∧ Same s (flAll k s) ∧ Pc s (flAll k s) ∧ CI (E0 t) X (flAll k s) ∧ ∀ j, j < k → ((flAll k s).2.1.getD j co0).2.2.1 = []
  | 0, _ => ⟨hM, .refl _, .refl _, h.ci, fun j hj => by omega⟩
  | k + 1, hk => by
    obtain ⟨g1, g2, g5, g3, g4⟩ := RI.flAll hM h k (by omega)
    have hn : inC (Sp.flAll k s) (k : Int) := ⟨by omega, by rw [g2.len]; omega⟩
    have hf := flush_mu g1 hn
    obtain ⟨f1, f2⟩ := flush_ind (p := fun s' => CI (E0 t) X s' ∧ ∀ j, j < k → (s'.2.1.getD j co0).2.2.1 = []) (n := (k : Int)) _ g1 hn rfl ⟨g3, g4⟩ (fun s' h1 h2 h3 h4 => by
      refine ⟨h4.1.evict h1 h2 (by decide) (by omega), fun j hj => ?_⟩
      show ((s'.2.1.set (k : Int).toNat (eC (co s'.2.1 (k : Int)) s'.2.2.1 0)).getD j co0).2.2.1 = []
      rw [coset _ (inC_lt h2), if_neg (by simp; omega)]
      exact h4.2 j hj)
    refine ⟨f2.1, g2.trans hf.1, g5.trans (pc_flush g1 hn), f1.1, fun j hj => ?_⟩
    by_cases e : j = k
    · rw [e]; exact f2.2.2
    · exact f1.2 j (by omega)
theorem idxc (x : Int) (X : List Int) (a : Int) : (x :: X).idxOf a = if x = a then 0 else X.idxOf a + 1 := by
  rw [List.idxOf_cons]
  by_cases h : x = a
  · rw [if_pos h, h]; simp
  · rw [if_neg h]
    have : (x == a) = false := by simpa using h
    rw [this]; rfl
theorem sub_idx {X : List Int} (hn : X.Nodup) {a b : Int} (h : [a, b].Sublist X) : X.idxOf a < X.idxOf b := by
  induction X with
  | nil => cases h
  | cons x X ih =>
    rw [List.nodup_cons] at hn
    rcases List.sublist_cons_iff.1 h with h1 | ⟨r, h1, h2⟩
    · have := ih hn.2 h1
      have ha : x ≠ a := fun e => hn.1 (e ▸ h1.subset (by simp))
      have hb : x ≠ b := fun e => hn.1 (e ▸ h1.subset (by simp))
      rw [idxc, idxc, if_neg ha, if_neg hb]
      omega
    · simp only [List.cons.injEq] at h1
      obtain ⟨e1, e2⟩ := h1
      subst e2
      have hb : b ∈ X := List.singleton_sublist.1 h2
      have hxb : x ≠ b := fun e => hn.1 (e ▸ hb)
      rw [idxc, idxc, if_pos e1.symm, if_neg hxb]
      omega
theorem run_allowed {t : Lit} (hv : Ax.valid t = true) (hT : okT t) (ch : List Int) : Ax.allowed t (run t ch) = true := by
  have hu : ∀ x ∈ E0 t, Ax.usual x.2.1 = true := (Ax.valid_ev hv).2
  obtain ⟨l1, ⟨X, l2⟩, l3⟩ := loop_ind (p := fun s => ∃ X, RI t X s) (mu (init t)) (s := init t) (ch := ch) (init_ok hT) ⟨[], RI.init hT⟩ (Nat.le_refl _) (fun s z h1 h2 ⟨X, h3⟩ => h3.step hu h1 h2)
  have hrun : run t ch = (flAll t.1.length (loopN (mu (init t)) (init t) ch)).2.2.2.1 := rfl
  rw [hrun]
  generalize loopN (mu (init t)) (init t) ch = s at *
  have hlen : s.2.1.length = t.1.length := by rw [l1.len, l2.te]
  obtain ⟨f1, f2, f5, f3, f4⟩ := l2.flAll l1 t.1.length (by omega)
  have hdone : ∀ n, n < t.1.length → ((s.2.1.getD n co0).2.1 : Int) = ((t.1.getD n []).length : Int) := by
    intro n hn
    have h1 : th1 s s.2.1.length = [] := by
      unfold things at l3
      split at l3
      · assumption
      · exact (List.append_eq_nil_iff.1 l3).1
    unfold th1 at h1
    rw [List.map_eq_nil_iff, List.filter_eq_nil_iff] at h1
    have h2 := h1 n (List.mem_range.2 (by omega))
    rw [decide_eq_true_eq, l2.te] at h2
    have h3 := (l1.core n (by omega)).2.2.1
    rw [l2.te] at h3
    have h2 : ¬ (s.2.1.getD n co0).2.1 < ((t.1.getD n []).length : Int) := h2
    omega
  have hall : ∀ e : Int, 0 ≤ e → e < (E0 t).length → e ∈ X := by
    intro e h0 h1
    obtain ⟨c, g1, g2, g3, g4⟩ := core_lt (t := t) h0 h1
    have := Ax.st_succ g1
    exact ((l2.xs c g1 e).2 ⟨g2, by rw [hdone c g1]; omega⟩).1
  have hpo := l2.po
  generalize flAll t.1.length s = u at *
  have hulen : u.2.1.length = t.1.length := by rw [f2.len, hlen]
  have hK : ∀ c x, (cst u).K c x = none := by
    intro c x
    show kOf (u.2.1.getD c co0).2.2.1 x = none
    rcases Nat.lt_or_ge c t.1.length with hc | hc
    · rw [f4 c hc]; rfl
    · rw [List.getD_eq_getElem?_getD, List.getElem?_eq_none (by omega)]; rfl
  have hP : ∀ c x, (cst u).P c x = [] := fun c x => f3.inv.kn c x (hK c x)
  have hext : ∀ c x, (cst u).ext c x = (cst u).Mo x := fun c x => by show _ ++ _ = _; rw [hP, List.append_nil]
  have hMo : ∀ x, (cst u).Mo x = u.2.2.2.1.2.2.1.getD x [] := fun x => rfl
  have hlenE := f3.lenE
  have hlenF : u.2.2.2.1.2.1.length = (E0 t).length := by rw [f1.from_, hlenE]
  have hFr : ∀ n : Nat, n < (E0 t).length → u.2.2.2.1.2.1.getD n 0 = (cst u).Fr (n : Int) := by
    intro n hn
    show _ = if 0 ≤ (n : Int) then u.2.2.2.1.2.1.getD (n : Int).toNat (-1) else -1
    rw [if_pos (by omega), Int.toNat_natCast, getD_at (by omega), getD_at (by omega)]
  have hX3 : ∀ e : Int, 0 ≤ e → e < (E0 t).length → 0 ≤ (opE (E0 t) e).2.1 ∧ (opE (E0 t) e).2.1 < 3 := by
    intro e h0 h1
    have hm := Ax.ev_mem (e := E0 t) (n := e.toNat) (by omega)
    rw [show ((e.toNat : Nat) : Int) = e from by omega] at hm
    exact Ax.usual_X (hu _ hm)
  have hXin : ∀ e ∈ X, 0 ≤ e ∧ e < (E0 t).length := fun e he => ⟨f3.inv.pos e he, f3.rng e he⟩
  have hxof : ∀ a b : Int, a ∈ X → b ∈ X → Cx.xof (opE (E0 t)) a = Cx.xof (opE (E0 t)) b → (opE (E0 t) a).2.1 = (opE (E0 t) b).2.1 := by
    intro a b ha hb h
    have h1 := hX3 a (hXin a ha).1 (hXin a ha).2
    have h2 := hX3 b (hXin b hb).1 (hXin b hb).2
    have h : (opE (E0 t) a).2.1.toNat = (opE (E0 t) b).2.1.toNat := h
    omega
  have hsame := f3.same
  have hR : Ax.RightP t u.2.2.2.1 := by
    refine ⟨hv, hlenE, hlenF, f1.mo, fun n hn => ?_, fun n hn => ?_, fun p hp => ?_, ?_⟩
    · have hn : n < (E0 t).length := hn
      have hnX : (n : Int) ∈ X := hall n (by omega) (by omega)
      refine ⟨(hsame n).1, (hsame n).2, ?_⟩
      rw [hFr n hn]
      by_cases hr : Ax.reads (opE (E0 t) (n : Int)) = true
      · rcases f3.inv.fr _ hnX hr with h1 | ⟨h1, h2, h3⟩
        · rw [h1]; exact ⟨by omega, by omega, fun h => by omega⟩
        · have hm : (cst u).Fr (n : Int) ∈ X := h1.subset (by simp)
          have := hXin _ hm
          exact ⟨by omega, this.2, fun _ => ⟨hr, h2, hxof _ _ hm hnX h3⟩⟩
      · rw [(f3.no (n : Int) (by omega) (by omega) (fun h => hr h.2)).1]
        exact ⟨by omega, by omega, fun h => by omega⟩
    · have hn : n < (E0 t).length := by rw [← hlenE]; exact hn
      have hnX : (n : Int) ∈ X := hall n (by omega) (by omega)
      unfold Ax.got
      rw [hFr n hn]
      have e1 : (Ax.ev u.2.2.2.1.1 (n : Int)).2.1 = opE (E0 t) (n : Int) := (hsame n).2
      rw [e1]
      by_cases hr : Ax.reads (opE (E0 t) (n : Int)) = true
      · rw [if_pos hr]; exact f3.got _ hnX hr
      · rw [if_neg hr]; exact (f3.no (n : Int) (by omega) (by omega) (fun h => hr h.2)).2
    · unfold Ax.isList
      simp only [Bool.and_eq_true, decide_eq_true_eq]
      refine ⟨⟨f3.inv.mnd p, fun e he => ?_⟩, fun e he hw => ?_⟩
      · obtain ⟨h1, h2, h3⟩ := f3.inv.mo p e he
        have h4 := hXin e h1
        have h5 := hX3 e h4.1 h4.2
        have h3 : (opE (E0 t) e).2.1.toNat = p := h3
        exact ⟨h4.1, h4.2, h2, by show (opE (E0 t) e).2.1 = _; omega⟩
      · have h1 := f3.inv.all (e : Int) (hall e (by omega) (by exact_mod_cast he)) hw.1
        rw [hext] at h1
        have h2 : (opE (E0 t) (e : Int)).2.1 = (p : Int) := hw.2
        have h3 : Cx.xof (opE (E0 t)) (e : Int) = p := by show (opE (E0 t) (e : Int)).2.1.toNat = p; rw [h2]; rfl
        rw [h3] at h1
        exact h1
    · rw [f3.fo]
      unfold Ax.isList
      simp only [Bool.and_eq_true, decide_eq_true_eq]
      refine ⟨⟨f3.inv.nod.filter _, fun e he => ?_⟩, fun e he hw => List.mem_filter.2 ⟨hall e (by omega) (by exact_mod_cast he), decide_eq_true hw⟩⟩
      have := List.mem_filter.1 he
      have h2 := hXin e this.1
      exact ⟨h2.1, h2.2, of_decide_eq_true this.2⟩
  have hcor : ∀ e : Int, 0 ≤ e → e < (E0 t).length → (Ax.ev (E0 t) e).1 = (coreE (E0 t) e : Int) := by
    intro e h0 h1
    obtain ⟨c, g1, g2, g3⟩ := Ax.core_ex (p := t.1) (i := e.toNat) (by show e.toNat < (E0 t).length; omega)
    have := Ax.ev_core g1 g2 g3
    rw [show ((e.toNat : Nat) : Int) = e from by omega] at this
    show (Ax.ev (Ax.evs 0 t.1) e).1 = ((Ax.ev (Ax.evs 0 t.1) e).1.toNat : Int)
    rw [this]; rfl
  have hord : ∀ a b : Nat, Ax.Ord u.2.2.2.1 a b → Cx.R (opE (E0 t)) (coreE (E0 t)) X a b := by
    intro a b hab
    rcases hab with ⟨h1, h2, h3⟩ | h1
    · have h2 : b < (E0 t).length := by rw [← hlenE]; exact h2
      rw [(hsame a).1, (hsame b).1, hcor a (by omega) (by omega), hcor b (by omega) (by omega)] at h3
      have h4 : coreE (E0 t) (a : Int) = coreE (E0 t) (b : Int) := by omega
      exact ⟨hpo a b (by omega) (by omega) (hall b (by omega) (by omega)) h4, .inl h4⟩
    · rw [f3.fo] at h1
      have ha := List.mem_filter.1 (h1.subset (by simp) : (a : Int) ∈ _)
      have hb := List.mem_filter.1 (h1.subset (by simp) : (b : Int) ∈ _)
      exact ⟨h1.trans List.filter_sublist, .inr ⟨of_decide_eq_true (p := (opE (E0 t) (a : Int)).1 = 4) ha.2, of_decide_eq_true (p := (opE (E0 t) (b : Int)).1 = 4) hb.2⟩⟩
  have hflow : ∀ a b : Nat, Ax.Flow u.2.2.2.1 a b → X.idxOf (a : Int) < X.idxOf (b : Int) := by
    intro a b hab
    rcases hab with h1 | ⟨h1, h2⟩
    · exact sub_idx f3.inv.nod (hord a b h1).1
    · have h1 : b < (E0 t).length := by rw [← hlenF]; exact h1
      rw [hFr b h1] at h2
      have hbX : (b : Int) ∈ X := hall b (by omega) (by omega)
      by_cases hr : Ax.reads (opE (E0 t) (b : Int)) = true
      · rcases f3.inv.fr _ hbX hr with h3 | ⟨h3, _⟩
        · omega
        · rw [h2] at h3; exact sub_idx f3.inv.nod h3
      · have := (f3.no (b : Int) (by omega) (by omega) (fun h => hr h.2)).1
        omega
  have hplc : ∀ a : Nat, a < (E0 t).length → Ax.plc u.2.2.2.1 (a : Int) = (Ax.idx ((cst u).Mo (Cx.xof (opE (E0 t)) (a : Int))) (a : Int), Ax.idx ((cst u).Mo (Cx.xof (opE (E0 t)) (a : Int))) ((cst u).Fr (a : Int)), ()) := by
    intro a ha
    unfold Ax.plc
    rw [(hsame a).2]
    show (Ax.idx _ _, Ax.idx _ (u.2.2.2.1.2.1.getD (a : Int).toNat 0), ()) = _
    rw [Int.toNat_natCast, hFr a ha]
    rfl
  rw [Ax.allowed_iff]
  refine ⟨hR, fun a ha => ?_, fun a ha h3 => ?_, fun a ha b hb h4 h5 hab hx => ?_⟩
  · have hlt : ∀ {x y : Nat}, TransGen (Ax.Flow u.2.2.2.1) x y → X.idxOf (x : Int) < X.idxOf (y : Int) := by
      intro x y h
      induction h with
      | single h => exact hflow _ _ h
      | tail h1 h2 ih => have := hflow _ _ h2; omega
    have := hlt ha
    omega
  · have ha : a < (E0 t).length := by rw [← hlenE]; exact ha
    rw [hplc a ha]
    rw [(hsame a).2] at h3
    exact (f3.inv.add (a : Int) (hall a (by omega) (by omega)) h3).2.2
  · have ha : a < (E0 t).length := by rw [← hlenE]; exact ha
    have hb : b < (E0 t).length := by rw [← hlenE]; exact hb
    rw [(hsame a).2] at h4 hx
    rw [(hsame b).2] at h5 hx
    have hHB : ∀ {x y : Nat}, TransGen (Ax.Ord u.2.2.2.1) x y → Cx.HB (opE (E0 t)) (coreE (E0 t)) X x y := by
      intro x y h
      unfold Cx.HB
      induction h with
      | single h => exact .single (hord _ _ h)
      | tail h1 h2 ih => exact .tail ih (hord _ _ h2)
    have hxo : Cx.xof (opE (E0 t)) (a : Int) = Cx.xof (opE (E0 t)) (b : Int) := congrArg Int.toNat hx
    obtain ⟨c1, c2, c3⟩ := f3.inv.coh a b (hHB hab) h4 h5 hxo
    rw [hext] at c2 c3
    unfold Ax.coh
    rw [hplc a ha, hplc b hb, (hsame a).2, (hsame b).2, hxo]
    show (!(Ax.reads (opE (E0 t) (b : Int)) && _) && !(Ax.writes (opE (E0 t) (b : Int)) && _)) = true
    have hlow : (if Ax.writes (Ax.ev (E0 t) (a : Int)).2.1 = true then Ax.idx ((cst u).Mo (Cx.xof (opE (E0 t)) (b : Int))) (a : Int) else Ax.idx ((cst u).Mo (Cx.xof (opE (E0 t)) (b : Int))) ((cst u).Fr (a : Int))) =
        Ax.idx ((cst u).Mo (Cx.xof (opE (E0 t)) (b : Int))) (Cx.low (opE (E0 t)) (cst u).Fr (a : Int)) := by
      unfold Cx.low
      show (if Ax.writes (opE (E0 t) (a : Int)) = true then _ else _) = _
      by_cases hw : Ax.writes (opE (E0 t) (a : Int)) = true
      · rw [if_pos hw, if_pos hw]
      · rw [if_neg hw, if_neg hw]
    simp only [hlow]
    rw [Bool.and_eq_true]
    refine ⟨?_, ?_⟩
    · cases hr : Ax.reads (opE (E0 t) (b : Int)) with
      | false => rfl
      | true =>
        rw [decide_eq_false (by have := (c2 hr).2; omega)]; rfl
    · cases hr : Ax.writes (opE (E0 t) (b : Int)) with
      | false => rfl
      | true =>
        rw [decide_eq_false (by have := (c3 hr).2; omega)]; rfl
end Sp
namespace Go.User
open Go.Proofs Go.Lf
set_option maxRecDepth 100000
theorem vc9 : (funI C9 (stpR C9) S9 L9 Try.f9) = (
let q0 : Prop := (True ∧ True) ∧ True;
let q1 : Prop := True ∧ True ∧ True;
let q2 : Prop := True ∧ q1;
let q3 : Prop := True ∧ q2;
let q4 : Prop := True ∧ q3;
let q5 : Prop := True ∧ q4;
let q6 : Prop := (True ∧ True) ∧ True ∧ True;
let q7 : Prop := True ∧ True ∧ True ∧ q5;
let q8 : Int := (2 : Int);
let q9 : Int := (0 : Int);
let q10 : Int := (1 : Int);
let q11 : Int × Unit := (q10, ());
let q12 : Int × Int × Int × Unit := (q8, q9, q11);
let q13 : List (Int × Int × Int × Unit) := (q8, q10, q11) :: ([] : List tLOp.den);
let q14 : Int × Unit := (q9, ());
let q15 : Int × Int × Int × Unit := (q10, q10, q14);
let q16 : Int × Int × Unit := (q9, q14);
let q17 : List (Int × Int × Int × Unit) := (q10, q16) :: ([] : List tLOp.den);
let q18 : List (List (Int × Int × Int × Unit)) := ([] : List tLOp.slice.den);
let q19 : List (List (Int × Int × Int × Unit)) × Unit := ((q12 :: q13) :: (q15 :: q17) :: q18, ());
let q20 : Int := (4 : Int);
let q21 : Int × Int × Int × Unit := (q20, q16);
let q22 : List (List (Int × Int × Int × Unit)) × Unit := ((q12 :: q21 :: q13) :: (q15 :: q21 :: q17) :: q18, ());
let q23 : Prop := (true && true) = true;
let q24 : Prop := q23 → True;
let q25 : List Int := q9 :: q9 :: ([] : List tI.den);
let q26 : List Int := q9 :: q9 :: q8 :: q25;
let q27 : Nat := (Sp.gE q19 q26).length;
let q28 : List Int := q9 :: q9 :: q9 :: q10 :: q9 :: q25;
let q29 : Nat := (Sp.gE q22 q28).length;
let q30 : Int := (3 : Int);
let q31 : Bool := bif bif bif (↑q27 : Int) != q20 then true else (↑q29 : Int) != (6 : Int) then true else (↑(Sp.gM q19 q26).length : Int) != q30 then true else (↑(Sp.gO q22 q28).length : Int) != q8;
let q32 : Int := (7 : Int);
let q33 : List Int := ([] : List (Ty.int IntKind.i32).den);
let q34 : List (List Int) := (q32 :: q33) :: ([] : List (Ty.int IntKind.i32).slice.den);
let q35 : Int := (0 : (AK.val tI).den);
let q36 : List Int := Sp.gF q19 q26;
let q37 : Nat := q36.length;
let q38 : Int := (5 : Int);
let q39 : List Int := Sp.gF q22 q28;
let q40 : Int := Sp.mget q34 q9;
let q41 : Nat := ((q9, q9, q40, false, ()) :: ([] : List (Int × Int × Int × Bool × Unit))).length;
let q42 : Bool := q10 == q10;
∀ (x : Unit), True → True → q0 ∧ (q5 ∧ q2) ∧ q3 ∧ q6 ∧ q6 ∧ (q7 ∧ True ∧ True) ∧ ((True ∧ True ∧ Sp.okT q19 ∧ True ∧ True) ∧ True ∧ True) ∧ ((True ∧ True ∧ q7) ∧ True ∧ True) ∧ ((True ∧ True ∧ Sp.okT q22 ∧ True ∧ True) ∧ True ∧ True) ∧ ((True ∧ True ∧ True ∧ True ∧ True ∧ q24 ∧ q24 ∧ q24 ∧ q24 ∧ True ∧ True ∧ q24 ∧ q24 ∧ q24 ∧ q24 ∧ True ∧ True ∧ q24 ∧ q24 ∧ q24 ∧ q24 ∧ True ∧ True) ∧ True) ∧ (q31 = true → q0 ∧ false = true) ∧ (q31 = false → ((True ∧ True ∧ (Sp.okS (([] : List tW.den)) q34 ∧ q9 = q35 ∧ q35 ≤ q9 ∧ q9 < (↑(List.length (q34.getD (0 : Nat) q33)) : Int)) ∧ q4) ∧ True) ∧ ((True ∧ True ∧ inN q8 q27 ∧ True ∧ True ∧ True ∧ True ∧ q24 ∧ q24 ∧ (q23 → inN q30 q27) ∧ q24 ∧ q24 ∧ q24 ∧ True ∧ True ∧ q24 ∧ q24 ∧ (q23 → inN q8 q37) ∧ q24 ∧ q24 ∧ True ∧ True ∧ q24 ∧ q24 ∧ (q23 → inN q30 q37) ∧ q24 ∧ q24 ∧ True ∧ True ∧ q24 ∧ q24 ∧ (q23 → inN q30 q29) ∧ q24 ∧ q24 ∧ q24 ∧ True ∧ True ∧ q24 ∧ q24 ∧ (q23 → inN q38 q29) ∧ q24 ∧ q24 ∧ q24 ∧ True ∧ True ∧ q24 ∧ q24 ∧ (q23 → inN q38 q39.length) ∧ q24 ∧ q24 ∧ True ∧ True ∧ q24 ∧ q24 ∧ True ∧ True ∧ q24 ∧ q24 ∧ q24 ∧ True ∧ True ∧ q24 ∧ (q23 → inN q9 q41) ∧ q24 ∧ q24 ∧ q24 ∧ q1) ∧ True) ∧ (bif bif bif bif bif bif bif bif bif q42 then q9 == q9 else false then q36.getD q8.toNat q9 == q10 else false then q36.getD q30.toNat q9 == -q10 else false then q42 else false then q42 else false then q39.getD q38.toNat q9 == q9 else false then q40 == q32 else false then (↑q41 : Int) == q10 else false then !false else false) = true)) := by kernel_rfl
end Go.User
namespace Go.User
open Go.Lf Go.Proofs
abbrev t1 : Sp.Lit := ([[(2, 0, 1, ()), (2, 1, 1, ())], [(1, 1, 0, ()), (1, 0, 0, ())]], ())
abbrev t2 : Sp.Lit := ([[(2, 0, 1, ()), (4, 0, 0, ()), (2, 1, 1, ())], [(1, 1, 0, ()), (4, 0, 0, ()), (1, 0, 0, ())]], ())
abbrev c1 : List Int := [0, 0, 2, 0, 0]
abbrev c2 : List Int := [0, 0, 0, 1, 0, 0, 0]
theorem e1 : (Sp.gE t1 c1).length = 4 := by decide +kernel
theorem e2 : (Sp.gE t2 c2).length = 6 := by decide +kernel
theorem e3 : (Sp.gM t1 c1).length = 3 := by decide +kernel
theorem e4 : (Sp.gO t2 c2).length = 2 := by decide +kernel
theorem e5 : (Sp.gF t1 c1).length = 4 := by decide +kernel
theorem e6 : (Sp.gF t2 c2).length = 6 := by decide +kernel
theorem e7 : (Sp.gF t1 c1).getD 2 0 = 1 := by decide +kernel
theorem e8 : (Sp.gF t1 c1).getD 3 0 = -1 := by decide +kernel
theorem e9 : (Sp.gF t2 c2).getD 5 0 = 0 := by decide +kernel
theorem okT1 : Sp.okT t1 := by
  refine ⟨by decide, by decide +kernel, ?_⟩
  unfold Sp.opOK; decide
theorem okT2 : Sp.okT t2 := by
  refine ⟨by decide, by decide +kernel, ?_⟩
  unfold Sp.opOK; decide
theorem ok9 : FOk Try.prog 9 S9 := by
  have hC : CtxOK Try.prog C9 := okC (fns_cons ok16 (fns_cons ok19 fns_nil)) rfl rfl rfl rfl rfl rfl
  refine FOk.intro hC (stpR_ok hC) Try.call9 Try.func9 (by kernel_rfl) (by kernel_rfl) L9 (vc9.mpr ?_)
  simp only [z1, z2, z3, z4, z5, z6, z7, z8, z9, z10, z11, z12, z13, z14, z15, z16, z17, z18, z19, z20, z21, z22, z23, z24, z25, z26, z27, z28, z29, z30, z31, z32, z33, z34, z35, z36, z37, z38]
  refine ⟨okT1, okT2, ?_⟩
  have i2 : Int.toNat 2 = 2 := rfl
  have i3 : Int.toNat 3 = 3 := rfl
  have i5 : Int.toNat 5 = 5 := rfl
  simp only [i2, i3, i5, e1, e2, e3, e4, e5, e6, e7, e8, e9]
  refine ⟨by decide, fun _ => ⟨⟨Sp.okS_nil ⟨rfl, by decide⟩, by decide, by decide⟩, ⟨⟨by decide, by decide⟩, ⟨by decide, by decide⟩, ⟨by decide, by decide⟩, ⟨by decide, by decide⟩, ⟨by decide, by decide⟩, ⟨by decide, by decide⟩, ⟨by decide, by decide⟩, by decide, by decide⟩, ?_⟩⟩
  decide
end Go.User
namespace Sp
theorem byte_get {b : List Int} (h : ∀ x ∈ b, Go.Lf.inK .u8 x) (i : Nat) : 0 ≤ b.getD i 0 ∧ b.getD i 0 ≤ 255 := by
  rcases Nat.lt_or_ge i b.length with h2 | h2
  · rw [getD_at h2]
    have := h _ (List.getElem_mem h2)
    exact ⟨this.1, this.2⟩
  · rw [List.getD_eq_getElem?_getD, List.getElem?_eq_none h2]; simp
theorem testN_len (b : List Int) : ∀ k, (testN b k).length = 3
  | 0 => rfl
  | k + 1 => by show ((testN b k).set _ _).length = 3; rw [List.length_set]; exact testN_len b k
theorem testN_evs {b : List Int} (h : ∀ x ∈ b, Go.Lf.inK .u8 x) : ∀ k, (Ax.evs 0 (testN b k)).length = k
  | 0 => rfl
  | k + 1 => by
    show (Ax.evs 0 ((testN b k).set _ ((testN b k).getD _ [] ++ [_]))).length = k + 1
    rw [Ax.evs_set _ _ _ _ (by rw [testN_len]; omega), testN_evs h k]
theorem tOp_usual {b : List Int} (h : ∀ x ∈ b, Go.Lf.inK .u8 x) (i : Nat) : Ax.usual (tOp b i) = true := by
  have h1 := byte_get h (i + 1)
  have h2 := byte_get h (i + 2)
  unfold tOp Ax.usual
  have hk : tK b i = 1 ∨ tK b i = 2 ∨ tK b i = 3 ∨ tK b i = 4 := by unfold tK; omega
  rcases hk with hk | hk | hk | hk <;> rw [hk] <;> simp <;> omega
theorem testN_usual {b : List Int} (h : ∀ x ∈ b, Go.Lf.inK .u8 x) : ∀ k, ∀ l ∈ testN b k, ∀ o ∈ l, Ax.usual o = true
  | 0, l, hl, o, ho => by
    simp only [testN, List.mem_cons, List.not_mem_nil, or_false, or_self] at hl
    rw [hl] at ho; cases ho
  | k + 1, l, hl, o, ho => by
    have ih := testN_usual h k
    rcases List.mem_or_eq_of_mem_set hl with h1 | h1
    · exact ih l h1 o ho
    · rw [h1] at ho
      rcases List.mem_append.1 ho with h2 | h2
      · refine ih _ ?_ o h2
        rw [getD_at (by rw [testN_len]; omega)]
        exact List.getElem_mem _
      · rw [List.mem_singleton.1 h2]; exact tOp_usual h _
theorem testN_each (b : List Int) : ∀ k, ∀ l ∈ testN b k, l.length ≤ k
  | 0, l, hl => by
    simp only [testN, List.mem_cons, List.not_mem_nil, or_false, or_self] at hl
    rw [hl]; exact Nat.zero_le _
  | k + 1, l, hl => by
    have ih := testN_each b k
    rcases List.mem_or_eq_of_mem_set hl with h1 | h1
    · have := ih l h1; omega
    · rw [h1, List.length_append, List.length_singleton]
      have := ih ((testN b k).getD (b.getD (3 * k) 0 % 3).toNat []) (by
        rw [getD_at (by rw [testN_len]; omega)]
        exact List.getElem_mem _)
      omega
theorem nT_le (b : List Int) : nT b ≤ 6 := Nat.min_le_left _ _
theorem test_ok {b : List Int} (h : ∀ x ∈ b, Go.Lf.inK .u8 x) : okT (test b) := by
  refine ⟨by show (testN b (nT b)).length ≤ 1000; rw [testN_len]; omega, ?_, fun l hl o ho => Ax.usual_X (testN_usual h _ l hl o ho)⟩
  rw [← evs_ax]
  show (Ax.evs 0 (testN b (nT b))).length ≤ 1000
  rw [testN_evs h]; have := nT_le b; omega
theorem test_sum {b : List Int} (h : ∀ x ∈ b, Go.Lf.inK .u8 x) : ((testN b (nT b)).getD 0 []).length + ((testN b (nT b)).getD 1 []).length + ((testN b (nT b)).getD 2 []).length = nT b := by
  have h1 := testN_evs h (nT b)
  have h2 := testN_len b (nT b)
  generalize testN b (nT b) = P at *
  match P, h2 with
  | [x, y, z], _ =>
    simp only [Ax.evs, List.length_append, List.length_map, List.length_nil] at h1
    simp only [List.getD_cons_zero, List.getD_cons_succ]
    omega
theorem test_valid {b : List Int} (h : ∀ x ∈ b, Go.Lf.inK .u8 x) (h0 : nT b ≠ 0) : Ax.valid (test b) = true := by
  have h1 := testN_evs h (nT b)
  have h2 := testN_len b (nT b)
  have h3 := nT_le b
  unfold Ax.valid
  simp only [Bool.and_eq_true, decide_eq_true_eq, List.all_eq_true]
  refine ⟨⟨⟨⟨?_, ?_⟩, ?_⟩, ?_⟩, fun x hx => ?_⟩
  · show 1 ≤ (testN b (nT b)).length; omega
  · show (testN b (nT b)).length ≤ 4; omega
  · show 1 ≤ (Ax.evs 0 (testN b (nT b))).length; omega
  · show (Ax.evs 0 (testN b (nT b))).length ≤ 6; omega
  · obtain ⟨l, hl, ho⟩ := Ax.mem_evs _ _ _ hx
    exact testN_usual h _ l hl _ ho
end Sp
namespace Go.User
open Go.Lf Go.Proofs
theorem ok15 : FOk Try.prog 15 S15 := by
  have hC : CtxOK Try.prog C15 := okC fns_nil rfl rfl rfl rfl rfl rfl
  refine FOk.intro hC (stpR_ok hC) Try.call15 Try.func15 (by kernel_rfl) (by kernel_rfl) L15 (vc15.mpr ?_)
  simp only [z1, z2, z3, z4, z5, z6, z7, z8, z9, z10, z11, z12, z13, z14, z15, z16, z17, z18, z19, z20, z21, z22, z23, z24, z25, z26, z27, z28, z29, z30, z31, z32, z33, z34, z35, z36, z37, z38, dFact]
  rintro ⟨b, u⟩ hx
  have hb : ∀ x ∈ b, inK .u8 x := hx.2
  refine ⟨⟨0, Nat.zero_le _, rfl, rfl⟩, fun k hk hf => ?_⟩
  have hk : k ≤ Sp.nT b := hk
  have h6 := Sp.nT_le b
  have hk2 : ∀ z : Int, -1000000 ≤ z → z ≤ 1000000 → inK .i64 z := fun z h0 h1 => inK_of (by omega) (by omega)
  have hn : Sp.nT b = min 6 (b.length / 3) := rfl
  refine ⟨hk2 _ (by omega) (by omega), fun ⟨hlt, h18⟩ => ?_, fun hge => ?_⟩
  · have hlt : ((3 * k : Nat) : Int) + 2 < (b.length : Int) := hlt
    have e1 : (((3 * k : Nat) : Int) + 1).toNat = 3 * k + 1 := by omega
    have e2 : (((3 * k : Nat) : Int) + 2).toNat = 3 * k + 2 := by omega
    rw [e1, e2]
    have b0 := Sp.byte_get hb (3 * k)
    have b1 := Sp.byte_get hb (3 * k + 1)
    have b2 := Sp.byte_get hb (3 * k + 2)
    have hl3 := Sp.testN_len b k
    have hle := Sp.testN_each b k ((Sp.testN b k).getD (b.getD (3 * k) 0 % 3).toNat []) (by
        rw [Sp.getD_at (by rw [hl3]; omega)]
        exact List.getElem_mem _)
    have fin : ∀ o, o = Sp.tOp b (3 * k) → (inN ((3 * k : Nat) : Int) b.length ∧ ¬ (3 : Int) = 0) ∧ (inN (b.getD (3 * k) 0 % 3) (Sp.testN b k).length ∧ ((((Sp.testN b k).getD (b.getD (3 * k) 0 % 3).toNat []).length + 1 : Nat) : Int) ≤ maxNew ∧ inN (b.getD (3 * k) 0 % 3) (Sp.testN b k).length) ∧
        inK .i64 (((3 * k : Nat) : Int) + 3) ∧ ∃ y : Nat, y ≤ Sp.nT b ∧ Sp.nT b - y < Sp.nT b - k ∧ ((3 * k : Nat) : Int) + 3 = ((3 * y : Nat) : Int) ∧
          (((Sp.testN b k).set (b.getD (3 * k) 0 % 3).toNat ((Sp.testN b k).getD (b.getD (3 * k) 0 % 3).toNat [] ++ [o]), ()) : List (List Sp.LOp) × Unit) = (Sp.testN b y, ()) := by
      intro o ho
      have hin : inN (b.getD (3 * k) 0 % 3) (Sp.testN b k).length := ⟨by omega, by rw [hl3]; omega⟩
      refine ⟨⟨⟨by omega, by omega⟩, by decide⟩, ⟨hin, by rw [maxNew_eq]; omega, hin⟩, hk2 _ (by omega) (by omega), k + 1, by omega, by omega, by omega, ?_⟩
      rw [ho]; rfl
    refine ⟨⟨hk2 _ (by omega) (by omega), ⟨by omega, by omega⟩, by decide, hk2 _ (by omega) (by omega), hk2 _ (by omega) (by omega), ⟨by omega, by omega⟩, by decide, hk2 _ (by omega) (by omega), ⟨by omega, by omega⟩, by decide, by decide, hk2 _ (by omega) (by omega)⟩, fun h1 => ⟨fun h4 => fin _ ?_, fun h4 => fin _ ?_⟩, fun h1 => ⟨fun h4 => fin _ ?_, fun h4 => fin _ ?_⟩⟩
    · unfold Sp.tOp Sp.tK
      rw [if_pos h4, if_pos (.inr h4)]
    · unfold Sp.tOp Sp.tK
      rw [if_neg h4, if_pos (by simpa using h1)]
    · exact absurd h4 h1.2
    · unfold Sp.tOp Sp.tK
      rw [if_neg h4, if_neg (fun h => h.elim h1.1 h1.2)]
  · have e : k = Sp.nT b := by
      have hge : (decide (((3 * k : Nat) : Int) + 2 < (b.length : Int)) && decide (((3 * k : Nat) : Int) < 18)) = false := hge
      rw [Bool.and_eq_false_iff, decide_eq_false_iff_not, decide_eq_false_iff_not] at hge
      omega
    subst e
    rfl
theorem ok8 : FOk Try.prog 8 S8 := by
  have hC : CtxOK Try.prog C8 := okC (fns_cons ok9 (fns_cons ok15 (fns_cons ok16 (fns_cons Ax.ok17 (fns_cons Ax.ok18 fns_nil))))) rfl rfl rfl rfl rfl rfl
  refine FOk.intro hC (stpR_ok hC) Try.call8 Try.func8 (by kernel_rfl) (by kernel_rfl) L8 (vc8.mpr ?_)
  simp only [z1, z2, z3, z4, z5, z6, z7, z8, z9, z10, z11, z12, z13, z14, z15, z16, z17, z18, z19, z20, z21, z22, z23, z24, z25, z26, z27, z28, z29, z30, z31, z32, z33, z34, z35, z36, z37, z38, dFact]
  rintro ⟨b, ch, u⟩ hx
  have hb : ∀ x ∈ b, inK .u8 x := hx.1.2
  have h6 := Sp.nT_le b
  have hs := Sp.test_sum hb
  have hl3 := Sp.testN_len b (Sp.nT b)
  have hk2 : ∀ z : Int, -1000000 ≤ z → z ≤ 1000000 → inK .i64 z := fun z h0 h1 => inK_of (by omega) (by omega)
  have hin : ∀ n : Int, 0 ≤ n → n < 3 → inN n (Sp.testN b (Sp.nT b)).length := fun n h0 h1 => ⟨h0, by rw [hl3]; omega⟩
  refine fun hc => ⟨⟨hin _ (by decide) (by decide), hin _ (by decide) (by decide), hk2 _ (by omega) ?_, hin _ (by decide) (by decide), hk2 _ (by omega) ?_⟩, fun h0 => ?_⟩
  · show (((Sp.testN b (Sp.nT b)).getD 0 []).length : Int) + (((Sp.testN b (Sp.nT b)).getD 1 []).length : Int) ≤ 1000000
    omega
  · show (((Sp.testN b (Sp.nT b)).getD 0 []).length : Int) + (((Sp.testN b (Sp.nT b)).getD 1 []).length : Int) + (((Sp.testN b (Sp.nT b)).getD 2 []).length : Int) ≤ 1000000
    omega
  have h0 : ¬ (((Sp.testN b (Sp.nT b)).getD 0 []).length : Int) + (((Sp.testN b (Sp.nT b)).getD 1 []).length : Int) + (((Sp.testN b (Sp.nT b)).getD 2 []).length : Int) = 0 := h0
  have hv := Sp.test_valid hb (by omega)
  have hA := Sp.run_allowed hv (Sp.test_ok hb) ch
  have hR : Sp.Ax.right (Sp.test b) (Sp.run (Sp.test b) ch) = true := by
    unfold Sp.Ax.allowed at hA
    rw [Bool.and_eq_true, Bool.and_eq_true] at hA
    exact hA.1.1
  have he : (Sp.Ax.evs 0 (Sp.testN b (Sp.nT b))).length ≤ 1000 := by rw [Sp.testN_evs hb]; omega
  refine ⟨Sp.test_ok hb, ⟨he, fun _ => he⟩, ?_⟩
  have hA : Sp.Ax.allowed (Sp.test b) (Sp.gE (Sp.test b) ch, Sp.gF (Sp.test b) ch, Sp.gM (Sp.test b) ch, Sp.gO (Sp.test b) ch, ()) = true := hA
  have hR : Sp.Ax.right (Sp.test b) (Sp.gE (Sp.test b) ch, Sp.gF (Sp.test b) ch, Sp.gM (Sp.test b) ch, Sp.gO (Sp.test b) ch, ()) = true := hR
  exact ⟨hR, hA⟩
end Go.User
namespace Go.Proofs.Ytohcfjfnmgkadaa
open Go.ChangeShapes Go.WideShapes Go.ChangeAt Go.RowKit Go.Proofs Go.Lf

set_option maxRecDepth 100000 in
theorem cacheAllowed_lifted (hF : FOk Try.prog 8 Go.User.S8) (os : Os) (started : os.Started) (H : Type) (enc : TypeId × Value → H) :
    ReturnsInHanded {} Try.checked os 8 .any (Rows.cacheAllowedSpec.pre6 enc Try.prog Try.f8 Rows.cacheAllowedRow.domain false) (Rows.cacheAllowedSpec.post enc Try.prog Try.f8 false true false false) := by
  refine returnsInHanded_of_change_sized (C := Try.checked) Try.own started (by kernel_rfl) Try.func8
    (ChangeSpec.witness6 (enc := enc) (C := Try.checked) false ⟨#[], #[.slice none 0 0, .slice none 0 0], []⟩ 8 (by kernel_rfl) (by kernel_rfl) (by kernel_rfl) (by kernel_rfl)) ?_
  intro W base args ds gs before hval0 hW _ hsz0 _
  have hsz : (DataW.weightsEach Try.prog (Try.f8.params.toList ++ Rows.cacheAllowedSpec.plain.varTypes Try.prog) (ds ++ gs)).all (· ≤ reachBytes) = true := hsz0
  clear hsz0
  have hval : ∀ (j : Nat) t v, Try.f8.params[j]? = some t → args[j]? = some v → Value.okWide Try.prog W .any base t v := hval0
  have hW' := hW
  obtain ⟨p, q, hA0, hV, rfl, _, _⟩ := hW
  have hA : DataW.TrodAll enc Try.prog W 0 (fun _ => true) true Try.f8.params.toList args.toList ds p := hA0
  rw [Try.params8] at hA hval hsz
  obtain ⟨v0, v1, d0, d1, p0, p1, rfl, rfl, rfl, h0, h1⟩ := trodAll_two hA
  obtain ⟨rfl, rfl⟩ := trodVars_none hV
  clear hA0 hval0
  simp only [List.append_nil, List.append_assoc] at hW'
  have hlt0 : ∀ x ∈ p0, x.block < W.heap.size := fun x hx => hW'.lt x (by simp [hx])
  have hlt1 : ∀ x ∈ p1, x.block < W.heap.size := fun x hx => hW'.lt x (by simp [hx])
  obtain ⟨x0, hx0⟩ := argOK_ints (k := .u8) Try.underlying44 Try.underlying5 (by kernel_rfl) (hval 0 44 v0 rfl rfl) h0 hlt0 (sz_num hsz Try.underlying44 (k := 0) (by kernel_rfl) (j := 0) rfl rfl)
  obtain ⟨x1, hx1⟩ := argOK_ints (k := .i64) Try.underlying45 Try.underlying3 (by kernel_rfl) (hval 1 45 v1 rfl rfl) h1 hlt1 (sz_num hsz Try.underlying45 (k := 7) (by kernel_rfl) (j := 1) rfl rfl)
  have hcall := hF.2 W (fun b => b < W.heap.size) [v0, v1] (x0, x1, ()) (fun b h => h) ⟨v0, [v1], rfl, hx0, v1, [], rfl, hx1, rfl⟩ trivial
  refine hcall.mono ?_
  rintro e W' ⟨v, F', S', rfl, hb, _, _, _, _, hv⟩
  have hv : OwnV F' W' .bool .shr S' v true := hv
  have := hv.bool_eq
  subst this
  have hargs0 := Below.trod Try.laidOut (by kernel_rfl) (of_decide_eq_true (by kernel_rfl)) h0 hb hlt0
  have hargs1 := Below.trod Try.laidOut (by kernel_rfl) (of_decide_eq_true (by kernel_rfl)) h1 hb hlt1
  refine ⟨_, rfl, _, _, _, [], p0 ++ p1, [], hW', ?_, trodAll_mk2 hargs0 hargs1, rfl, hb.frame _, fun h => by cases h⟩
  exact trodAll_mk1 (shut_bool Try.underlying4 true)

theorem cacheAllowed_holds : Rows.CacheAllowedSaid :=
  OpenClaim.holds_of_wide 8 Try.f8 rfl rfl rfl rfl rfl rfl rfl ⟨rfl, rfl, rfl, rfl, rfl⟩ rfl rfl rfl rfl rfl (by kernel_rfl) Try.func8 (by kernel_rfl)
    (of_decide_eq_true (by kernel_rfl)) (by unfold Func.isWrapper; first | (rw [if_pos (by decide +kernel)]; kernel_rfl) | (rw [if_neg (by decide +kernel)]; exact ⟨rfl, rfl⟩))
    (fun os started H enc _ => cacheAllowed_lifted Go.User.ok8 os started H enc)
end Go.Proofs.Ytohcfjfnmgkadaa
