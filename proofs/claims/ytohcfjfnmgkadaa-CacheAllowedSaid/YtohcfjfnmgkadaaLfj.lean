/- The machine of the caches runs to its end. A run of a litmus test on caches: proved. A run of a litmus test on caches computes what it should. The laws of the caches: what their loops keep. Taken over from another seat by conv.py: what is computed. Written by gen.py: what is left to show of each function. -/
import Derived.Test.YtohcfjfnmgkadaaLfi
set_option linter.unusedVariables false
set_option linter.unusedSimpArgs false
namespace Sp
def cn (cs : List Core) : Nat := (cs.map fun c => c.2.2.1.length).sum
theorem cn_set {l : List Core} {n : Int} {a : Core} (h : n.toNat < l.length) : cn (l.set n.toNat a) + (co l n).2.2.1.length = cn l + a.2.2.1.length := sum_set (fun c : Core => c.2.2.1.length) co0 l n.toNat a h
theorem sum_le2 {α β : Type} (f : α → Nat) (g : β → Nat) (d : α) (e : β) : ∀ (l : List α) (p : List β), l.length = p.length → (∀ i, i < l.length → f (l.getD i d) ≤ g (p.getD i e)) → (l.map f).sum ≤ (p.map g).sum
  | [], [], _, _ => Nat.le_refl _
  | x :: l, y :: p, h, hh => by
    have h0 := hh 0 (by simp)
    have h1 := sum_le2 f g d e l p (by simpa using h) (fun i hi => hh (i + 1) (by simpa using hi))
    simp only [List.getD_cons_zero] at h0
    simp only [List.map_cons, List.sum_cons]
    omega
theorem OkM.dn_le {s : Mach} (h : OkM s) : dn s.2.1 ≤ sumL s.1.1 := sum_le2 _ _ co0 [] _ _ h.len fun i hi => by
  obtain ⟨_, h1, h2, _⟩ := h.core i hi
  show ((s.2.1.getD i co0).2.1).toNat ≤ (s.1.1.getD i []).length
  omega
/-- What a step keeps: the test, how many cores there are; the numbers. -/
structure Same (s s' : Mach) : Prop where
  t : s'.1 = s.1
  len : s'.2.1.length = s.2.1.length
  ev : s'.2.2.2.1.1.length = s.2.2.2.1.1.length
theorem Same.refl (s : Mach) : Same s s := ⟨rfl, rfl, rfl⟩
theorem Same.trans {a b c : Mach} (h : Same a b) (h' : Same b c) : Same a c := ⟨h'.t.trans h.t, h'.len.trans h.len, h'.ev.trans h.ev⟩
theorem Same.inC {s s' : Mach} (h : Same s s') {n : Int} (hn : inC s n) : inC s' n := ⟨hn.1, by rw [h.len]; exact hn.2⟩
theorem same_evict (s : Mach) (n k : Int) : Same s (evictM s n k) := ⟨rfl, by show (s.2.1.set _ _).length = _; rw [List.length_set], rfl⟩
theorem same_read (s : Mach) (e w : Int) : Same s (readM s e w) := ⟨rfl, rfl, readE_len _ _ _⟩
theorem same_set (s : Mach) (n : Int) (c : List Word) : Same s (setCache s n c) := ⟨rfl, by show (s.2.1.set _ _).length = _; rw [List.length_set], rfl⟩
theorem same_inc (s : Mach) (n : Int) : Same s (incD s n) := ⟨rfl, by show (s.2.1.set _ _).length = _; rw [List.length_set], rfl⟩
theorem dn_same {s : Mach} {n : Int} (hn : inC s n) {a : Core} (h : a.2.1 = (co s.2.1 n).2.1) : dn (s.2.1.set n.toNat a) = dn s.2.1 := by
  have := dn_set (a := a) (inC_lt hn)
  rw [h] at this; omega
theorem evict_mu {s : Mach} {n k : Int} (hn : inC s n) (h0 : 0 ≤ k) (h1 : k < (co s.2.1 n).2.2.1.length) : dn (evictM s n k).2.1 = dn s.2.1 ∧ cn (evictM s n k).2.1 + 1 = cn s.2.1 := by
  refine ⟨dn_same hn rfl, ?_⟩
  have := cn_set (a := eC (co s.2.1 n) s.2.2.1 k) (inC_lt hn)
  have e : (eC (co s.2.1 n) s.2.2.1 k).2.2.1.length = (co s.2.1 n).2.2.1.length - 1 := by
    show ((co s.2.1 n).2.2.1.take k.toNat ++ (co s.2.1 n).2.2.1.drop (k + 1).toNat).length = _
    rw [List.length_append, List.length_take, List.length_drop]
    omega
  rw [e] at this
  show cn (s.2.1.set n.toNat (eC (co s.2.1 n) s.2.2.1 k)) + 1 = _
  omega
theorem flush_mu {s : Mach} {n : Int} (h : OkM s) (hn : inC s n) : Same s (flushM s n) ∧ dn (flushM s n).2.1 = dn s.2.1 ∧ cn (flushM s n).2.1 ≤ cn s.2.1 ∧ OkM (flushM s n) := by
  have := flush_ind (p := fun s' => Same s s' ∧ dn s'.2.1 = dn s.2.1 ∧ cn s'.2.1 ≤ cn s.2.1) (n := n) _ h hn rfl ⟨.refl _, rfl, Nat.le_refl _⟩ (fun s' h' hn' hk ⟨g1, g2, g3⟩ => by
    obtain ⟨k1, k2⟩ := evict_mu hn' (by decide : (0 : Int) ≤ 0) (by omega)
    exact ⟨g1.trans (same_evict _ _ _), k1.trans g2, by omega⟩)
  exact ⟨this.1.1, this.1.2.1, this.1.2.2, this.2.1⟩
/-- What an operation leaves. -/
structure Did (s s' : Mach) : Prop where
  ok : OkM s'
  same : Same s s'
  done : dn s'.2.1 = dn s.2.1
  room : cn s'.2.1 ≤ cn s.2.1 + 1
theorem did_load {s : Mach} (h : OkM s) {n x : Int} (hn : inC s n) (hx : 0 ≤ x ∧ x < 3) (e : Int) : Did s (doLoad s n e x) := by
  have hlt := inC_lt hn
  have hc : okCore s.2.2.2.1.1.length s.2.2.1 (s.1.1.getD n.toNat []) ((co s.2.1 n).1, (co s.2.1 n).2.1, (load (co s.2.1 n).2.2.1 s.2.2.1 x).2.1, (co s.2.1 n).2.2.2) ∧ (load (co s.2.1 n).2.2.1 s.2.2.1 x).2.1.length ≤ (co s.2.1 n).2.2.1.length + 1 := by
    unfold load
    split
    · exact ⟨h.at hn, Nat.le_succ _⟩
    · rename_i hf
      exact ⟨okCore.add (h.at hn) h.okM.2 hx (mget_mem h hx) hf, by simp⟩
  have hcn := cn_set (a := ((co s.2.1 n).1, (co s.2.1 n).2.1, (load (co s.2.1 n).2.2.1 s.2.2.1 x).2.1, (co s.2.1 n).2.2.2)) hlt
  refine ⟨(h.setCache hn hc.1).read _ _, (same_set _ _ _).trans (same_read _ _ _), dn_same hn rfl, ?_⟩
  show cn (s.2.1.set n.toNat _) ≤ _
  have := hc.2
  simp only at hcn
  omega
theorem OkM.addPend {s : Mach} (h : OkM s) {n : Int} (hn : inC s n) {e x : Int} (hx : 0 ≤ x ∧ x < 3) (hB : ∀ y, y < 3 → (s.2.2.2.1.2.2.1.getD y []).length + pn y s.2.1 + 1 ≤ dn s.2.1) : OkM (addPend s n e x) := by
  obtain ⟨g1, g2, g3, g4, g5, g6, g7, g8⟩ := h.at hn
  have hlt := inC_lt hn
  have hd := dn_same hn (a := ((co s.2.1 n).1, (co s.2.1 n).2.1, (co s.2.1 n).2.2.1, (co s.2.1 n).2.2.2.1.set x.toNat ((co s.2.1 n).2.2.2.1.getD x.toNat [] ++ [e]), ())) rfl
  refine h.upd (c' := ((co s.2.1 n).1, (co s.2.1 n).2.1, (co s.2.1 n).2.2.1, (co s.2.1 n).2.2.2.1.set x.toNat ((co s.2.1 n).2.2.2.1.getD x.toNat [] ++ [e]), ())) hn h.mem rfl h.from_ ⟨g1, g2, g3, g4, g5, g6, g7, by rw [List.length_set]; exact g8⟩ h.mo ?_ ?_ _
  · intro y hy
    rw [hd]
    have hp := pn_set (a := ((co s.2.1 n).1, (co s.2.1 n).2.1, (co s.2.1 n).2.2.1, (co s.2.1 n).2.2.2.1.set x.toNat ((co s.2.1 n).2.2.2.1.getD x.toNat [] ++ [e]), ())) y hlt
    simp only at hp
    have := hB y hy
    by_cases hxy : x.toNat = y
    · subst hxy
      rw [getD_set_self (by rw [g8]; exact hy), List.length_append, List.length_singleton] at hp
      omega
    · rw [getD_set_ne hxy] at hp
      omega
  · rw [hd]; exact h.foB
theorem did_store {s : Mach} (h : OkM s) {n x e : Int} (hn : inC s n) (hx : 0 ≤ x ∧ x < 3) (he : 0 ≤ e ∧ e < s.2.2.2.1.1.length) (hB : ∀ y, y < 3 → (s.2.2.2.1.2.2.1.getD y []).length + pn y s.2.1 + 1 ≤ dn s.2.1) : Did s (doStore s n e x) := by
  have hlt := inC_lt hn
  have hE := h.ev
  have hw : Go.IntKind.wrap .i32 (e + 1) = e + 1 := wrap_small (by omega) (by omega)
  have hc : okCore s.2.2.2.1.1.length s.2.2.1 (s.1.1.getD n.toNat []) ((co s.2.1 n).1, (co s.2.1 n).2.1, store (co s.2.1 n).2.2.1 x (Go.IntKind.wrap .i32 (e + 1)), (co s.2.1 n).2.2.2) ∧ (store (co s.2.1 n).2.2.1 x (Go.IntKind.wrap .i32 (e + 1))).length ≤ (co s.2.1 n).2.2.1.length + 1 := by
    rw [hw]
    unfold store
    split
    · rename_i hf
      exact ⟨okCore.set (h.at hn) h.okM.2 hx (by omega) hf, by rw [List.length_set]; omega⟩
    · rename_i hf
      exact ⟨okCore.add (h.at hn) h.okM.2 hx (by omega) hf, by simp⟩
  have hcn := cn_set (a := ((co s.2.1 n).1, (co s.2.1 n).2.1, store (co s.2.1 n).2.2.1 x (Go.IntKind.wrap .i32 (e + 1)), (co s.2.1 n).2.2.2)) hlt
  have h1 := h.setCache hn hc.1
  have hs := same_set s n (store (co s.2.1 n).2.2.1 x (Go.IntKind.wrap .i32 (e + 1)))
  have hn1 := hs.inC hn
  have hd1 : dn (setCache s n (store (co s.2.1 n).2.2.1 x (Go.IntKind.wrap .i32 (e + 1)))).2.1 = dn s.2.1 := dn_same hn rfl
  have hlt1 := inC_lt hn1
  have hco1 : co (setCache s n (store (co s.2.1 n).2.2.1 x (Go.IntKind.wrap .i32 (e + 1)))).2.1 n = ((co s.2.1 n).1, (co s.2.1 n).2.1, store (co s.2.1 n).2.2.1 x (Go.IntKind.wrap .i32 (e + 1)), (co s.2.1 n).2.2.2) := co_set hlt
  have h2 := h1.addPend hn1 (e := e) hx (by
    intro y hy
    rw [hd1]
    have hp := pn_set (a := ((co s.2.1 n).1, (co s.2.1 n).2.1, store (co s.2.1 n).2.2.1 x (Go.IntKind.wrap .i32 (e + 1)), (co s.2.1 n).2.2.2)) y hlt
    have := hB y hy
    show (s.2.2.2.1.2.2.1.getD y []).length + pn y (s.2.1.set n.toNat _) + 1 ≤ _
    simp only at hp
    omega)
  refine ⟨h2, hs.trans ⟨rfl, by show ((setCache s n _).2.1.set _ _).length = _; rw [List.length_set], rfl⟩, ?_, ?_⟩
  · have := dn_same hn1 (a := ((co (setCache s n (store (co s.2.1 n).2.2.1 x (Go.IntKind.wrap .i32 (e + 1)))).2.1 n).1, (co (setCache s n (store (co s.2.1 n).2.2.1 x (Go.IntKind.wrap .i32 (e + 1)))).2.1 n).2.1, (co (setCache s n (store (co s.2.1 n).2.2.1 x (Go.IntKind.wrap .i32 (e + 1)))).2.1 n).2.2.1, (co (setCache s n (store (co s.2.1 n).2.2.1 x (Go.IntKind.wrap .i32 (e + 1)))).2.1 n).2.2.2.1.set x.toNat ((co (setCache s n (store (co s.2.1 n).2.2.1 x (Go.IntKind.wrap .i32 (e + 1)))).2.1 n).2.2.2.1.getD x.toNat [] ++ [e]), ())) rfl
    exact this.trans hd1
  have hcn2 := cn_set (l := (setCache s n (store (co s.2.1 n).2.2.1 x (Go.IntKind.wrap .i32 (e + 1)))).2.1) (n := n) (a := ((co (setCache s n (store (co s.2.1 n).2.2.1 x (Go.IntKind.wrap .i32 (e + 1)))).2.1 n).1, (co (setCache s n (store (co s.2.1 n).2.2.1 x (Go.IntKind.wrap .i32 (e + 1)))).2.1 n).2.1, (co (setCache s n (store (co s.2.1 n).2.2.1 x (Go.IntKind.wrap .i32 (e + 1)))).2.1 n).2.2.1, (co (setCache s n (store (co s.2.1 n).2.2.1 x (Go.IntKind.wrap .i32 (e + 1)))).2.1 n).2.2.2.1.set x.toNat ((co (setCache s n (store (co s.2.1 n).2.2.1 x (Go.IntKind.wrap .i32 (e + 1)))).2.1 n).2.2.2.1.getD x.toNat [] ++ [e]), ())) hlt1
  show cn ((setCache s n (store (co s.2.1 n).2.2.1 x (Go.IntKind.wrap .i32 (e + 1)))).2.1.set n.toNat _) ≤ _
  have : cn (setCache s n (store (co s.2.1 n).2.2.1 x (Go.IntKind.wrap .i32 (e + 1)))).2.1 = cn (s.2.1.set n.toNat ((co s.2.1 n).1, (co s.2.1 n).2.1, store (co s.2.1 n).2.2.1 x (Go.IntKind.wrap .i32 (e + 1)), (co s.2.1 n).2.2.2)) := rfl
  have h3 := hc.2
  simp only at hcn hcn2
  omega
theorem OkM.putM {s : Mach} (h : OkM s) {e x : Int} (hx : 0 ≤ x ∧ x < 3) (he : 0 ≤ e ∧ e < s.2.2.2.1.1.length) (hB : ∀ y, y < 3 → (s.2.2.2.1.2.2.1.getD y []).length + pn y s.2.1 + 1 ≤ dn s.2.1) : OkM (putM s e x) := by
  have hE := h.ev
  have hw : Go.IntKind.wrap .i32 (e + 1) = e + 1 := wrap_small (by omega) (by omega)
  obtain ⟨l, e1, e2, e3⟩ := h.mem
  have hm := okM_set h.okM.1 x (Go.IntKind.wrap .i32 (e + 1))
  refine ⟨⟨l.set x.toNat (e + 1), ?_, by rw [List.length_set]; exact e2, ?_⟩, h.len, fun i hi => (h.core i hi).mem hm.1 hm.2, h.ops, h.ev, h.from_, ?_, h.few, ?_, h.foB⟩
  · show setM s.2.2.1 x _ = _
    rw [e1, hw, setM_one]
  · intro v hv
    rcases List.mem_or_eq_of_mem_set hv with hv | hv
    · exact e3 v hv
    · rw [hv]; show 0 ≤ e + 1 ∧ e + 1 ≤ ((s.2.2.2.1.1.length : Nat) : Int); omega
  · show (s.2.2.2.1.2.2.1.set _ _).length = 3
    rw [List.length_set]; exact h.mo
  · intro y hy
    have := hB y hy
    show ((s.2.2.2.1.2.2.1.set x.toNat _).getD y []).length + pn y s.2.1 ≤ dn s.2.1
    by_cases hxy : x.toNat = y
    · subst hxy
      rw [getD_set_self (by rw [h.mo]; exact hy), List.length_append, List.length_singleton]
      omega
    · rw [getD_set_ne hxy]; omega
theorem evict_pn {s : Mach} (h : OkM s) {n k : Int} (hn : inC s n) (h0 : 0 ≤ k) (h1 : k < (co s.2.1 n).2.2.1.length) {y : Nat} (hy : y < 3) :
    ((evictM s n k).2.2.2.1.2.2.1.getD y []).length + pn y (evictM s n k).2.1 = (s.2.2.2.1.2.2.1.getD y []).length + pn y s.2.1 := by
  obtain ⟨g1, g2, g3, g4, g5, g6, g7, g8⟩ := h.at hn
  have hlt := inC_lt hn
  have hw := okS_wd g5 h0 h1
  rw [h.okM.2] at hw
  have hp := pn_set (a := eC (co s.2.1 n) s.2.2.1 k) y hlt
  show ((eMo s.2.2.2.1.2.2.1 (co s.2.1 n) k).getD y []).length + pn y (s.2.1.set n.toNat (eC (co s.2.1 n) s.2.2.1 k)) = _
  unfold eC at hp ⊢
  unfold eMo
  have hmo := h.mo
  by_cases hd : (wd (co s.2.1 n).2.2.1 k).2.2.2.1 = true
  · simp only [hd, if_true] at hp ⊢
    by_cases hx2 : (wd (co s.2.1 n).2.2.1 k).2.1.toNat = y
    · rw [hx2] at hp ⊢
      rw [getD_set_self (by omega)] at hp
      rw [getD_set_self (by omega), List.length_append]
      simp only [List.length_nil] at hp
      omega
    · rw [getD_set_ne hx2] at hp ⊢
      omega
  · simp only [hd, Bool.false_eq_true, if_false] at hp ⊢
    omega
theorem did_add {s : Mach} (h : OkM s) {n x e : Int} (hn : inC s n) (hx : 0 ≤ x ∧ x < 3) (he : 0 ≤ e ∧ e < s.2.2.2.1.1.length) (hB : ∀ y, y < 3 → (s.2.2.2.1.2.2.1.getD y []).length + pn y s.2.1 + 1 ≤ dn s.2.1) : Did s (doAdd s n e x) := by
  have key : OkM (evX s n x) ∧ Same s (evX s n x) ∧ dn (evX s n x).2.1 = dn s.2.1 ∧ cn (evX s n x).2.1 ≤ cn s.2.1 ∧ ∀ y, y < 3 → ((evX s n x).2.2.2.1.2.2.1.getD y []).length + pn y (evX s n x).2.1 = (s.2.2.2.1.2.2.1.getD y []).length + pn y s.2.1 := by
    unfold evX
    split
    · rename_i hf
      have hl := fW_lt x (co s.2.1 n).2.2.1
      obtain ⟨k1, k2⟩ := evict_mu hn hf hl
      exact ⟨h.evict hn hf hl, same_evict _ _ _, k1, by omega, fun y hy => evict_pn h hn hf hl hy⟩
    · exact ⟨h, .refl _, rfl, Nat.le_refl _, fun y hy => rfl⟩
  obtain ⟨k1, k2, k3, k4, k5⟩ := key
  have h2 := k1.read e (mget (evX s n x).2.2.1 x)
  refine ⟨h2.putM hx (by rw [((k2.trans (same_read _ _ _))).ev]; exact he) (fun y hy => ?_), k2.trans ((same_read _ _ _).trans ⟨rfl, rfl, rfl⟩), k3, by show cn (evX s n x).2.1 ≤ _; omega⟩
  show ((evX s n x).2.2.2.1.2.2.1.getD y []).length + pn y (evX s n x).2.1 + 1 ≤ dn (evX s n x).2.1
  have := k5 y hy
  have := hB y hy
  omega
theorem did_fence {s : Mach} (h : OkM s) {n : Int} (hn : inC s n) (e : Int) (hF : s.2.2.2.1.2.2.2.1.length + 1 ≤ dn s.2.1) : Did s (doFence s n e) := by
  have hf := flush_ind (p := fun s' => s'.2.2.2.1.2.2.2.1 = s.2.2.2.1.2.2.2.1) (n := n) _ h hn rfl rfl (fun s' _ _ _ h' => h')
  obtain ⟨k1, k2, k3, k4⟩ := flush_mu h hn
  refine ⟨⟨k4.mem, k4.len, k4.core, k4.ops, k4.ev, k4.from_, k4.mo, k4.few, k4.moB, ?_⟩, k1.trans ⟨rfl, rfl, rfl⟩, k2, by show cn (flushM s n).2.1 ≤ _; omega⟩
  show ((flushM s n).2.2.2.1.2.2.2.1 ++ [e]).length ≤ dn (flushM s n).2.1
  rw [hf.1, List.length_append, List.length_singleton, k2]; exact hF
theorem did_do {s : Mach} (h : OkM s) {n : Int} (hn : inC s n) (hd : (co s.2.1 n).2.1 < (s.1.1.getD n.toNat []).length) : OkM (doM s n) ∧ Same s (doM s n) ∧ dn (doM s n).2.1 = dn s.2.1 + 1 ∧ cn (doM s n).2.1 ≤ cn s.2.1 + 1 := by
  have h1 := h.inc hn hd
  have hs1 := same_inc s n
  have hn1 := hs1.inC hn
  have hop := op_ok h hn hd
  have he := ev_lt h hn hd
  have hlt := inC_lt hn
  obtain ⟨g1, g2, _⟩ := h.at hn
  have hdn : dn (incD s n).2.1 = dn s.2.1 + 1 := by
    have := dn_set (a := ((co s.2.1 n).1, (co s.2.1 n).2.1 + 1, (co s.2.1 n).2.2)) hlt
    simp only at this
    show dn (s.2.1.set n.toNat _) = _
    omega
  have hcn : cn (incD s n).2.1 = cn s.2.1 := by
    have := cn_set (a := ((co s.2.1 n).1, (co s.2.1 n).2.1 + 1, (co s.2.1 n).2.2)) hlt
    simp only at this
    show cn (s.2.1.set n.toNat _) = _
    omega
  have hB : ∀ y, y < 3 → ((incD s n).2.2.2.1.2.2.1.getD y []).length + pn y (incD s n).2.1 + 1 ≤ dn (incD s n).2.1 := by
    intro y hy
    have hp := pn_set (a := ((co s.2.1 n).1, (co s.2.1 n).2.1 + 1, (co s.2.1 n).2.2)) y hlt
    have hm := h.moB y hy
    simp only at hp
    rw [hdn]
    show (s.2.2.2.1.2.2.1.getD y []).length + pn y (s.2.1.set n.toNat _) + 1 ≤ _
    omega
  have hF : (incD s n).2.2.2.1.2.2.2.1.length + 1 ≤ dn (incD s n).2.1 := by
    have := h.foB
    rw [hdn]
    show s.2.2.2.1.2.2.2.1.length + 1 ≤ _
    omega
  have fin : ∀ s', Did (incD s n) s' → OkM s' ∧ Same s s' ∧ dn s'.2.1 = dn s.2.1 + 1 ∧ cn s'.2.1 ≤ cn s.2.1 + 1 := fun s' d => ⟨d.ok, hs1.trans d.same, d.done.trans hdn, by have := d.room; omega⟩
  unfold doM
  split
  · exact fin _ (did_load h1 hn1 hop _)
  · split
    · exact fin _ (did_store h1 hn1 hop he hB)
    · split
      · exact fin _ (did_add h1 hn1 hop he hB)
      · split
        · exact fin _ (did_fence h1 hn1 _ hF)
        · exact ⟨h1, hs1, hdn, by omega⟩
/-- A step of a run. -/
theorem step_ok {s : Mach} {z : Nat × List Int} (h : preT z s) : OkM (runT z s) ∧ Same s (runT z s) ∧ mu (runT z s) < mu s := by
  obtain ⟨hM, hn, h⟩ := h
  unfold runT
  rcases h with ⟨h1, h2, h3⟩ | ⟨h1, h2, h3, h4⟩
  · rw [if_pos h1]
    obtain ⟨k1, k2, k3, k4⟩ := did_do hM hn h3
    refine ⟨k1, k2, ?_⟩
    have := k1.dn_le
    have e := k2.t
    unfold mu
    rw [e] at this ⊢
    show 2 * (sumL s.1.1 - dn (doM s _).2.1) + cn (doM s _).2.1 < 2 * (sumL s.1.1 - dn s.2.1) + cn s.2.1
    omega
  · rw [if_neg (by rw [h1]; decide)]
    obtain ⟨k1, k2⟩ := evict_mu hn h3 h4
    refine ⟨hM.evict hn h3 h4, same_evict _ _ _, ?_⟩
    show 2 * (sumL s.1.1 - dn (evictM s _ _).2.1) + cn (evictM s _ _).2.1 < 2 * (sumL s.1.1 - dn s.2.1) + cn s.2.1
    omega
theorem things_pre {s : Mach} (h : OkM s) {z : Th} (hz : z ∈ things s) : preT z s := by
  unfold things at hz
  split at hz
  · cases hz
  · rcases List.mem_append.1 hz with hz | hz
    · unfold th1 at hz
      obtain ⟨n, hn, rfl⟩ := List.mem_map.1 hz
      rw [List.mem_filter, List.mem_range, decide_eq_true_eq] at hn
      refine ⟨h, ⟨Int.natCast_nonneg _, by show ((n : Nat) : Int) < _; omega⟩, .inl ⟨rfl, rfl, ?_⟩⟩
      exact hn.2
    · unfold th2 ths at hz
      obtain ⟨n, hn, hz⟩ := List.mem_flatMap.1 hz
      obtain ⟨k, hk, rfl⟩ := List.mem_map.1 hz
      rw [List.mem_range] at hn hk
      refine ⟨h, ⟨Int.natCast_nonneg _, by show ((n : Nat) : Int) < _; omega⟩, .inr ⟨rfl, rfl, Int.natCast_nonneg _, ?_⟩⟩
      show ((k : Nat) : Int) < ((co s.2.1 (n : Int)).2.2.1.length : Int)
      omega
theorem up_len (q : Nat) (l : List Th) : (up q l).length = l.length := by simp [up]
theorem up_get (q : Nat) (l : List Th) {k : Nat} (h : k < l.length) : (up q l).getD k none = some (q, l.getD k (0, [])) := by
  rw [getD_at (by rw [up_len]; exact h), getD_at h]
  simp [up]
theorem up_app (q : Nat) (l l' : List Th) : up q (l ++ l') = up q l ++ up q l' := by simp [up]
theorem loop_end {f : Nat} {s : Mach} {ch : List Int} (h : (things s).length = 0) : loopN f s ch = s := by
  cases f with
  | zero => rfl
  | succ f => unfold loopN; rw [if_pos h]
theorem loop_step {f : Nat} {s : Mach} {ch : List Int} (h : ¬ (things s).length = 0) : loopN (f + 1) s ch = loopN f (runT (th (things s) (pick ch (things s).length)) s) (ch.drop 1) := by
  show (if _ then _ else _) = _
  rw [if_neg h]
/-- What all steps keep holds at the end. -/
theorem loop_ind {p : Mach → Prop} : ∀ (f : Nat) {s : Mach} {ch : List Int}, OkM s → p s → mu s ≤ f → (∀ s z, OkM s → z ∈ things s → p s → p (runT z s)) → OkM (loopN f s ch) ∧ p (loopN f s ch) ∧ things (loopN f s ch) = []
  | f, s, ch, h, hp, hm, hs => by
    by_cases h0 : (things s).length = 0
    · rw [loop_end h0]; exact ⟨h, hp, List.eq_nil_of_length_eq_zero h0⟩
    · have hpk : (pick ch (things s).length).toNat < (things s).length := by
        unfold pick
        split
        · simp; omega
        · have h1 : (ch.getD 0 0).tmod ((things s).length : Int) < (things s).length := Int.tmod_lt_of_pos _ (by omega)
          have h2 : -((things s).length : Int) < (ch.getD 0 0).tmod (things s).length := by
            have := Int.tmod_lt_of_pos (-(ch.getD 0 0)) (b := ((things s).length : Int)) (by omega)
            rw [Int.neg_tmod] at this; omega
          have h3 := Int.tmod_lt_of_pos ((ch.getD 0 0).tmod ((things s).length : Int) + (things s).length) (b := ((things s).length : Int)) (by omega)
          omega
      have hz : th (things s) (pick ch (things s).length) ∈ things s := by
        unfold th
        rw [getD_at hpk]; exact List.getElem_mem _
      obtain ⟨k1, k2, k3⟩ := step_ok (things_pre h hz)
      cases f with
      | zero => omega
      | succ f =>
        rw [loop_step h0]
        exact loop_ind f k1 (hs s _ h hz hp) (by omega) hs
/-- The start. -/
theorem evs_app : ∀ (c : Int) (l l' : List (List LOp)), evs c (l ++ l') = evs c l ++ evs (c + l.length) l'
  | c, [], l' => by simp [evs]
  | c, x :: l, l' => by
    simp only [List.cons_append, evs, List.append_assoc, List.length_cons]
    rw [evs_app (c + 1) l l']
    congr 3
    omega
theorem evN_zero (p : List (List LOp)) (i : Nat) : evN p i 0 = evs 0 (p.take i) := by simp [evN]
theorem evN_full {p : List (List LOp)} {i : Nat} (h : i < p.length) : evN p i (p.getD i []).length = evs 0 (p.take (i + 1)) := by
  unfold evN
  rw [List.take_length, take_succ h [], evs_app, List.length_take, Nat.min_eq_left (by omega)]
  simp [evs]
theorem evN_succ {p : List (List LOp)} {i j : Nat} (h : j < (p.getD i []).length) : evN p i (j + 1) = evN p i j ++ [mkEv i ((p.getD i []).getD j (0, 0, 0, ()))] := by
  unfold evN
  rw [take_succ h (0, 0, 0, ()), List.map_append, ← List.append_assoc]
  rfl
theorem evs_take_len (p : List (List LOp)) (i : Nat) : (evs 0 (p.take i)).length ≤ (evs 0 p).length := by
  have := evs_app 0 (p.take i) (p.drop i)
  rw [List.take_append_drop] at this
  rw [this, List.length_append]; omega
theorem coresN_succ (p : List (List LOp)) (i : Nat) : coresN p (i + 1) = coresN p i ++ [(((evs 0 (p.take i)).length : Int), 0, [], [[], [], []], ())] := by
  simp [coresN, List.range_succ]
theorem coresN_get (p : List (List LOp)) {k i : Nat} (h : i < k) : (coresN p k).getD i co0 = (((evs 0 (p.take i)).length : Int), 0, [], [[], [], []], ()) := by
  rw [getD_at (by simp [coresN]; exact h)]
  simp [coresN]
theorem sum_zero {α : Type} (f : α → Nat) : ∀ (l : List α), (∀ x ∈ l, f x = 0) → (l.map f).sum = 0
  | [], _ => rfl
  | x :: l, h => by
    simp only [List.map_cons, List.sum_cons]
    rw [h x (by simp), sum_zero f l (fun y hy => h y (by simp [hy]))]
theorem init_ok {t : Lit} (h : okT t) : OkM (init t) := by
  obtain ⟨h1, h2, h3⟩ := h
  have he : evN t.1 t.1.length 0 = evs 0 t.1 := by rw [evN_zero, List.take_length]
  have hE : (init t).2.2.2.1.1.length = (evs 0 t.1).length := by show (evN t.1 t.1.length 0).length = _; rw [he]
  have hpn : ∀ x, x < 3 → pn x (init t).2.1 = 0 := fun x hx => sum_zero _ _ (by
    intro c hc
    obtain ⟨i, hi, rfl⟩ := List.mem_map.1 hc
    match x, hx with
    | 0, _ => rfl
    | 1, _ => rfl
    | 2, _ => rfl)
  refine ⟨⟨[0, 0, 0], rfl, rfl, ?_⟩, by show (coresN t.1 t.1.length).length = _; simp [coresN]; rfl, ?_, h3, by rw [hE]; exact h2, ?_, rfl, by show (coresN t.1 t.1.length).length ≤ _; simp [coresN]; exact h1, ?_, Nat.zero_le _⟩
  · intro v hv
    simp only [List.mem_cons, List.not_mem_nil, or_false, or_self] at hv
    rw [hv]; omega
  · intro i hi
    have hi : i < t.1.length := by
      have hi : i < (coresN t.1 t.1.length).length := hi
      simpa [coresN] using hi
    rw [hE]
    show okCore _ _ (t.1.getD i []) ((coresN t.1 t.1.length).getD i co0)
    rw [coresN_get _ hi]
    have h4 := evs_take_len t.1 (i + 1)
    rw [← evN_full hi] at h4
    unfold evN at h4
    rw [List.take_length, List.length_append, List.length_map] at h4
    refine ⟨Int.natCast_nonneg _, Int.le_refl _, Int.natCast_nonneg _, ?_, okS_nil ⟨rfl, by show (3 : Nat) ≤ 1000; decide⟩, List.nodup_nil, fun w hw => (by cases hw), rfl⟩
    show ((evs 0 (t.1.take i)).length : Int) + ((t.1.getD i []).length : Int) ≤ ((evs 0 t.1).length : Int)
    omega
  · show (List.replicate (evN t.1 t.1.length 0).length (-1 : Int)).length = _
    rw [List.length_replicate]; rfl
  · intro x hx
    rw [hpn x hx]
    show (([[], [], []] : List (List Int)).getD x []).length + 0 ≤ _
    match x, hx with
    | 0, _ => exact Nat.zero_le _
    | 1, _ => exact Nat.zero_le _
    | 2, _ => exact Nat.zero_le _
end Sp
namespace Go.User
open Go.Lf Go.Proofs
theorem up_nil_iff (q : Nat) (l : List Sp.Th) : ((Sp.up q l).length : Int) = 0 ↔ l = [] := by
  rw [Sp.up_len]
  constructor
  · intro h; exact List.eq_nil_of_length_eq_zero (by omega)
  · rintro rfl; rfl
theorem th1_succ (s : Sp.Mach) (i : Nat) : Sp.th1 s (i + 1) = Sp.th1 s i ++ (if (Sp.co s.2.1 i).2.1 < ((s.1.1.getD i []).length : Int) then [(46, [(i : Int)])] else []) := by
  unfold Sp.th1
  rw [List.range_succ, List.filter_append, List.map_append]
  congr 1
  by_cases h : (Sp.co s.2.1 i).2.1 < ((s.1.1.getD i []).length : Int)
  · rw [if_pos h, List.filter_cons, if_pos (show decide _ = true from decide_eq_true h)]; rfl
  · rw [if_neg h, List.filter_cons, if_neg (show ¬ decide _ = true by rw [decide_eq_false h]; simp)]; rfl
theorem th1_len (s : Sp.Mach) (i : Nat) : (Sp.th1 s i).length ≤ i := by
  unfold Sp.th1
  rw [List.length_map]
  have := List.length_filter_le (fun (n : Nat) => decide ((Sp.co s.2.1 n).2.1 < ((s.1.1.getD n []).length : Int))) (List.range i)
  simpa using this
theorem th2_succ (s : Sp.Mach) (i : Nat) : Sp.th2 s (i + 1) = Sp.th2 s i ++ Sp.ths i (Sp.co s.2.1 i).2.2.1.length := by
  unfold Sp.th2
  rw [List.range_succ, List.flatMap_append]
  simp
theorem th2_len {s : Sp.Mach} (h : Sp.OkM s) : ∀ i, i ≤ s.2.1.length → (Sp.th2 s i).length ≤ 3 * i
  | 0, _ => by simp [Sp.th2]
  | i + 1, hi => by
    have := th2_len h i (by omega)
    have h3 := Sp.okCore.few (h.at (n := (i : Int)) ⟨by omega, by omega⟩) h.okM.2
    rw [th2_succ, List.length_append]
    have : (Sp.ths i (Sp.co s.2.1 i).2.2.1.length).length = (Sp.co s.2.1 i).2.2.1.length := by simp [Sp.ths]
    omega
theorem ths_succ (i k : Nat) : Sp.ths i (k + 1) = Sp.ths i k ++ [(48, [(i : Int), (k : Int)])] := by simp [Sp.ths, List.range_succ]
theorem pk25 (q : Nat) : POk Try.prog 25 (S25 q) (some q) := by
  have hC : ∀ q, CtxOK Try.prog (C25 q) := fun q => okM' q fns_nil ptrs_nil rfl rfl rfl rfl rfl
  refine POk.introQ (hC q) (stpR_ok (hC q)) Try.call25 Try.func25 rfl (by kernel_rfl) (L25 q) (vc25.mpr ?_ q)
  clear q
  simp only [z1, z2, z3, z4, z5, z6, z7, z8, z9, z10, z11, z12, z13, z14, z15, z16, z17, z18, z19, z20, z21, z22, z23, z24, z25, z26, z27, z28, z29, z30, z31, z32, z33, z34, z35, z36, z37, z38]
  intro q s hM hx
  have hfew := hM.few
  refine ⟨⟨0, Nat.zero_le _, rfl, rfl⟩, ?_⟩
  intro i hi hk
  refine ⟨fun hlt => ⟨⟨inN_of hlt, by rw [← hM.len]; exact inN_of hlt⟩, fun hc => ⟨?_, inK_mid (by omega) (by omega), i + 1, by omega, by omega, by omega, ?_⟩, fun hc => ⟨inK_mid (by omega) (by omega), i + 1, by omega, by omega, by omega, ?_⟩⟩, fun hge => ⟨fun hz => ?_, fun hz => ⟨⟨0, Nat.zero_le _, rfl, ?_⟩, ?_⟩⟩⟩
  · have := th1_len s i
    rw [Sp.up_len, maxNew_eq]; omega
  · have hc : (Sp.co s.2.1 i).2.1 < ((s.1.1.getD i []).length : Int) := hc
    rw [th1_succ, if_pos hc, Sp.up_app]; rfl
  · have hc : ((s.1.1.getD i []).length : Int) ≤ (Sp.co s.2.1 i).2.1 := hc
    rw [th1_succ, if_neg (by omega), List.append_nil]
  · have hil : i = s.2.1.length := by omega
    subst hil
    have := (up_nil_iff q _).1 hz
    unfold Sp.things
    rw [if_pos this]; rfl
  · have hil : i = s.2.1.length := by omega
    subst hil
    unfold Sp.th12 Sp.th2
    simp
  · have hil : i = s.2.1.length := by omega
    subst hil
    intro j hj hk2
    refine ⟨fun hlt => ⟨inN_of hlt, ⟨0, Nat.zero_le _, rfl, ?_⟩, ?_⟩, fun hge => ?_⟩
    · unfold Sp.th12 Sp.th123 Sp.ths
      simp
    · intro k hk hk3
      have h3 := Sp.okCore.few (hM.at (n := (j : Int)) ⟨by omega, hlt⟩) hM.okM.2
      refine ⟨fun hlt2 => ⟨?_, inK_mid (by omega) (by omega), k + 1, ?_, ?_, by omega, ?_⟩, fun hge2 => ⟨inK_mid (by omega) (by omega), j + 1, by omega, by omega, by omega, ?_⟩⟩
      · have h4 := th1_len s s.2.1.length
        have h5 := th2_len hM j (by omega)
        rw [Sp.up_len, maxNew_eq]
        unfold Sp.th123
        rw [List.length_append, List.length_append]
        have : (Sp.ths j k).length = k := by simp [Sp.ths]
        have : k ≤ (Sp.co s.2.1 j).2.2.1.length := hk
        omega
      · have : (k : Int) < ((Sp.co s.2.1 j).2.2.1.length : Int) := hlt2
        omega
      · have : (k : Int) < ((Sp.co s.2.1 j).2.2.1.length : Int) := hlt2
        omega
      · unfold Sp.th123
        rw [ths_succ, Sp.up_app, Sp.up_app, Sp.up_app, Sp.up_app, Sp.up_app]
        simp [Sp.up]
      · have : ((Sp.co s.2.1 j).2.2.1.length : Int) ≤ (k : Int) := hge2
        have hkk : k = (Sp.co s.2.1 j).2.2.1.length := by omega
        unfold Sp.th123 Sp.th12
        rw [th2_succ, hkk]
    · have hjl : j = s.2.1.length := by omega
      subst hjl
      have : ¬ Sp.th1 s s.2.1.length = [] := fun e => hz ((up_nil_iff q _).2 e)
      unfold Sp.things
      rw [if_neg this]; rfl
/-- Three cells in the first slots. -/
structure ThkAt (a : Act) (N : Nat) (vs : List Value) : Prop where
  size : a.tmps.size = N
  dfs : a.defers = []
  ev : ∀ t v, vs[t]? = some v → a.eval (.tmp t) = v
theorem ThkAt.start (N : Nat) (vs : List Value) (h : vs.length ≤ N) : ThkAt { tmps := vs.toArray ++ Array.replicate (N - vs.toArray.size) undef, defers := [] } N vs :=
  ⟨by simp; omega, rfl, fun t v hv => start_ev hv⟩
theorem thk_post {F S0 : NSet} {w w' : World} {q : Nat} {args : List AK} {pre : Sp.Mach → kdens args → Prop} {fn : Sp.Mach → kdens args → Sp.Mach} {z : FuncId × List Int} {x : Sp.Mach} {y : kdens args} {e : Ending}
    (h : PPost F S0 w q { τ := tMach, m := mMach, args := args, res := .unit, pre := pre, fn := fn, out := fun _ _ => () } x y e w') (hfn : fn x y = Sp.runT z x) : (∃ v, e = .returned v) ∧ PPost F S0 w q (tThk.at z) x () (.returned (.tuple #[])) w' := by
  obtain ⟨v, F', S', Sr, cs', q0, q1, q2, q3, q4, q5, q6, q7, q8, q9, q10, q11, q12, q13⟩ := h
  refine ⟨⟨v, q0⟩, .tuple #[], F', S', none', cs', rfl, q1, q2, q3, q4, q5, q6, q7, ?_, q9, fun k h => h.elim, q11, ?_, [], rfl, rfl⟩
  · rintro k (h | h | h)
    · exact q8 k (.inl h)
    · exact q8 k (.inr (.inl h))
    · exact h.elim
  · have q12 : Own F' w' tMach mMach S' cs' (fn x y) := q12
    rw [hfn] at q12
    exact q12
theorem res_none {fn : Func} (h : fn.results.toList = []) {a : Act} {w : World} : (results fn a.tmps).run Try.prog w = .ok (.tuple #[]) w := by
  rw [results_run (vs := [])]
  · rfl
  · rw [h]; simp [Sem.run_pure]
theorem thk46 {q n : Nat} {R : Ending → World → Prop} {F : NSet} {w : World} {a : Act} {v1 v2 : Value} {k : Int} (h : ThkAt a 5 [v1, v2]) {c : Code} (hc : Try.f46.body = some c) (h1 : CellAt F w v1 (.pointer (some ⟨q, 0, none⟩))) (h2 : CellAt F w v2 (.int .i64 k))
    (hcall : Calls Try.prog 47 [.pointer (some ⟨q, 0, none⟩), .int .i64 k].toArray w fun e w' => (∃ v, e = .returned v) ∧ R (.returned (.tuple #[])) w') : c.wp Try.prog (bodyPost Try.prog Try.f46 R) a w := by
  have hC : CtxOK Try.prog (mkC 33 []) := okA fns_nil
  injection (show some _ = some c from hc) with hc
  subst hc
  have e0 := h.ev 0 v1 rfl
  have e1 := h.ev 1 v2 rfl
  refine wp_region ?_
  refine ops_value rfl rfl (run_cell hC (T := 70) (τ := .abs .ptr) (by kernel_rfl) rfl rfl (by simp [ev_put, Act.size_put, h.size, e0, e1]) h1 rfl) ?_
  refine ops_value rfl rfl (run_cell hC (T := 3) (τ := tI) (by kernel_rfl) rfl rfl (by simp [ev_put, Act.size_put, h.size, e0, e1]) h2 rfl) ?_
  refine ops_call rfl rfl (run_call rfl Try.call47 (by simp [ev_put, Act.size_put, h.size, e0, e1])) hcall ?_
  rintro e w' ⟨⟨v, rfl⟩, hR⟩
  exact ⟨v, rfl, ops_nil ⟨by simp [Act.defers_put, h.dfs], _, res_none rfl, hR⟩⟩
theorem thk48 {q n : Nat} {R : Ending → World → Prop} {F : NSet} {w : World} {a : Act} {v1 v2 v3 : Value} {k j : Int} (h : ThkAt a 7 [v1, v2, v3]) {c : Code} (hc : Try.f48.body = some c) (h1 : CellAt F w v1 (.pointer (some ⟨q, 0, none⟩))) (h2 : CellAt F w v2 (.int .i64 k)) (h3 : CellAt F w v3 (.int .i64 j))
    (hcall : Calls Try.prog 49 [.pointer (some ⟨q, 0, none⟩), .int .i64 k, .int .i64 j].toArray w fun e w' => (∃ v, e = .returned v) ∧ R (.returned (.tuple #[])) w') : c.wp Try.prog (bodyPost Try.prog Try.f48 R) a w := by
  have hC : CtxOK Try.prog (mkC 33 []) := okA fns_nil
  injection (show some _ = some c from hc) with hc
  subst hc
  have e0 := h.ev 0 v1 rfl
  have e1 := h.ev 1 v2 rfl
  have e2 := h.ev 2 v3 rfl
  refine wp_region ?_
  refine ops_value rfl rfl (run_cell hC (T := 70) (τ := .abs .ptr) (by kernel_rfl) rfl rfl (by simp [ev_put, Act.size_put, h.size, e0, e1]) h1 rfl) ?_
  refine ops_value rfl rfl (run_cell hC (T := 3) (τ := tI) (by kernel_rfl) rfl rfl (by simp [ev_put, Act.size_put, h.size, e0, e1]) h2 rfl) ?_
  refine ops_value rfl rfl (run_cell hC (T := 3) (τ := tI) (by kernel_rfl) rfl rfl (by simp [ev_put, Act.size_put, h.size, e0, e1, e2]) h3 rfl) ?_
  refine ops_call rfl rfl (run_call rfl Try.call49 (by simp [ev_put, Act.size_put, h.size, e0, e1])) hcall ?_
  rintro e w' ⟨⟨v, rfl⟩, hR⟩
  exact ⟨v, rfl, ops_nil ⟨by simp [Act.defers_put, h.dfs], _, res_none rfl, hR⟩⟩
theorem int_own {F : NSet} {w : World} {n : Int} (h1 : IntKind.i64.min ≤ n) (h2 : n ≤ IntKind.i64.max) : ArgOK Try.prog F w (.val tI) (.int .i64 n) n := ⟨[.int .i64 n], rfl, rfl, h1, h2⟩
theorem thk_ok (q : Nat) : TOk Try.prog q tThk := by
  rintro ⟨f, l⟩ w F S0 cs x caps hq hF hS0 hPl hO ⟨v1, r1, rfl, hp, hi⟩ ⟨hM, hn, hpre⟩
  rcases hpre with ⟨h1, h2, h3⟩ | ⟨h1, h2, h3, h4⟩
  · change f = 46 at h1
    subst h1
    match l, h2 with
    | [k], _ =>
      match r1, hi with
      | v2 :: r2, ⟨k2, s2, e1, q1, b1, b2, q2⟩ =>
        injection e1 with e1 e2
        subst e1; subst e2
        match r2, q2 with
        | _ :: _, ⟨_, _, e1, _⟩ => cases e1
        | [], _ =>
          refine ⟨Try.call46, calls_of_wp Try.func46 rfl (thk46 (q := q) (n := 0) (F := F) (ThkAt.start 5 [v1, v2] (Nat.le_of_ble_eq_true rfl)) rfl hp q1 ?_)⟩
          refine (pk47.2 w F S0 q cs x [.int .i64 k] (k, ()) (fun _ h => by cases h) hq hF hS0 hPl hO ⟨_, _, rfl, int_own b1 b2, rfl⟩ ⟨hM, hn, h3⟩).mono ?_
          intro e w' hpost
          exact thk_post (z := (46, [k])) hpost rfl
      | [], hi => cases hi
  · change f = 48 at h1
    subst h1
    match l, h2 with
    | [k, j], _ =>
      match r1, hi with
      | v2 :: r2, ⟨k2, s2, e1, q1, b1, b2, q2⟩ =>
        injection e1 with e1 e2
        subst e1; subst e2
        match r2, q2 with
        | v3 :: r3, ⟨k3, s3, e1, q3, b3, b4, q4⟩ =>
          injection e1 with e1 e2
          subst e1; subst e2
          match r3, q4 with
          | _ :: _, ⟨_, _, e1, _⟩ => cases e1
          | [], _ =>
            refine ⟨Try.call48, calls_of_wp Try.func48 rfl (thk48 (q := q) (n := 0) (F := F) (ThkAt.start 7 [v1, v2, v3] (Nat.le_of_ble_eq_true rfl)) rfl hp q1 q3 ?_)⟩
            refine (pk49.2 w F S0 q cs x [.int .i64 k, .int .i64 j] (k, j, ()) (fun _ h => by cases h) hq hF hS0 hPl hO ⟨_, _, rfl, int_own b1 b2, _, _, rfl, int_own b3 b4, rfl⟩ ⟨hM, hn, h3, h4⟩).mono ?_
            intro e w' hpost
            exact thk_post (z := (48, [k, j])) hpost rfl
        | [], hi => cases hi
      | [], hi => cases hi
end Go.User
namespace Go.User
open Go.Lf Go.Proofs
theorem okC16a : CtxOK Try.prog C16a := ctx_okQ 0 rfl rfl fns_nil ptrs_nil (fun _ h => by cases h) (fun _ h => by cases h) ins_nil
theorem okC16b (q : Nat) : CtxOK Try.prog (C16b q) := by
  refine ctx_okQ q rfl rfl fns_nil ?_ (fun t h => by injection h with h; subst h; exact thk_ok q) (fun _ h => by cases h) ins_nil
  intro f s hs
  have hs : Lf.look [(25, S25 q), (26, S26)] f = some s := hs
  simp only [Lf.look] at hs
  cases hb : Nat.beq 25 f
  · rw [hb] at hs
    exact ptr_cons (C := C16b q) pk26 ptrs_nil f s hs
  · rw [hb] at hs
    have := Nat.eq_of_beq_eq_true hb
    simp only [cond_true, Option.some.injEq] at hs
    rw [← this, ← hs]
    exact ⟨some q, pk25 q, fun q' hq => by injection hq with hq; exact ⟨rfl, hq.symm⟩⟩
theorem ok16 : FOk Try.prog 16 S16 := by
  refine FOk.introJ (t := t16) (fl := fl16) okC16a (stpR_ok okC16a) okC16b (fun q => stpR_ok (okC16b q)) Try.call16 Try.func16 rfl (fun q => rfl) (by kernel_rfl) L16a L16b (vc16.mpr ?_)
  simp only [z1, z2, z3, z4, z5, z6, z7, z8, z9, z10, z11, z12, z13, z14, z15, z16, z17, z18, z19, z20, z21, z22, z23, z24, z25, z26, z27, z28, z29, z30, z31, z32, z33, z34, z35, z36, z37, z38]
  rintro ⟨t, ch, u⟩ hT hx
  have hT : Sp.okT t := hT
  have hE := hT.2.1
  have hP := hT.1
  have hI := Sp.init_ok hT
  dsimp only
  refine ⟨⟨by decide, by decide, by rw [maxNew_eq]; decide⟩, ⟨0, Nat.zero_le _, rfl, rfl⟩, ?_⟩
  intro i hi hk
  have hi : i ≤ t.1.length := hi
  have hcl : (Sp.coresN t.1 i).length = i := by simp [Sp.coresN]
  refine ⟨fun hlt => ⟨inN_of hlt, by rw [maxNew_eq, hcl]; omega, ⟨0, Nat.zero_le _, rfl, ?_⟩, ?_⟩, fun hge => ?_⟩
  · show _ = Sp.machN t (i + 1) i 0
    unfold Sp.machN
    rw [Sp.coresN_succ, ← Sp.evN_zero]
    rfl
  · intro j hj hk2
    have hj : j ≤ (t.1.getD i []).length := hj
    have hlt : (i : Int) < (t.1.length : Int) := hlt
    have hev : (Sp.evN t.1 i j).length ≤ 1000 := by
      have h1 := Sp.evs_take_len t.1 (i + 1)
      rw [← Sp.evN_full (by omega)] at h1
      unfold Sp.evN at h1 ⊢
      rw [List.length_append, List.length_map, List.length_take] at h1 ⊢
      omega
    have hev2 : (t.1.getD i []).length ≤ 1000 := by
      have h1 := Sp.evs_take_len t.1 (i + 1)
      rw [← Sp.evN_full (by omega)] at h1
      unfold Sp.evN at h1
      rw [List.length_append, List.length_map, List.length_take] at h1
      omega
    refine ⟨fun hlt2 => ⟨inN_of hlt2, by rw [maxNew_eq]; omega, by rw [maxNew_eq, List.length_replicate]; omega, inK_mid (by omega) (by omega), j + 1, ?_, ?_, by omega, ?_⟩, fun hge2 => ⟨inK_mid (by omega) (by omega), i + 1, ?_, ?_, by omega, ?_⟩⟩
    · have hlt2 : (j : Int) < ((t.1.getD i []).length : Int) := hlt2
      show j + 1 ≤ (t.1.getD i []).length
      omega
    · have hlt2 : (j : Int) < ((t.1.getD i []).length : Int) := hlt2
      show (t.1.getD i []).length - (j + 1) < (t.1.getD i []).length - j
      omega
    · have hlt2 : (j : Int) < ((t.1.getD i []).length : Int) := hlt2
      show _ = Sp.machN t (i + 1) i (j + 1)
      unfold Sp.machN
      rw [Sp.evN_succ (by omega), List.length_append, List.length_singleton]
      have : List.replicate ((Sp.evN t.1 i j).length + 1) (-1 : Int) = List.replicate (Sp.evN t.1 i j).length (-1) ++ [-1] := List.replicate_succ'
      rw [this]
      rfl
    · show i + 1 ≤ t.1.length
      omega
    · show t.1.length - (i + 1) < t.1.length - i
      omega
    · have hge2 : ((t.1.getD i []).length : Int) ≤ (j : Int) := hge2
      have hjl : j = (t.1.getD i []).length := by omega
      show Sp.machN t (i + 1) i j = Sp.machN t (i + 1) (i + 1) 0
      unfold Sp.machN
      rw [hjl, Sp.evN_full (by omega), ← Sp.evN_zero]
  · have hge : (t.1.length : Int) ≤ (i : Int) := hge
    have hil : i = t.1.length := by omega
    subst hil
    intro q
    refine ⟨hI, ⟨(Sp.mu (Sp.init t), Sp.init t, ch), ⟨hI, rfl, Nat.le_refl _, rfl⟩, rfl, rfl, rfl⟩, ?_⟩
    rintro ⟨f, s, ch'⟩ ⟨hM, ht, hmu, hloop⟩ hk
    have hM : Sp.OkM s := hM
    have ht : s.1 = t := ht
    have hmu : Sp.mu s ≤ f := hmu
    have hloop : Sp.loopN f s ch' = Sp.loopN (Sp.mu (Sp.init t)) (Sp.init t) ch := hloop
    have hsl : s.2.1.length = t.1.length := by rw [hM.len, ht]
    have step : ∀ (k : Int), k.toNat < (Sp.things s).length → k = Sp.pick ch' (Sp.things s).length → ∀ (c2 : List Int), c2 = ch'.drop 1 →
        ∃ y : Nat × Sp.Mach × List Int, (Sp.OkM y.2.1 ∧ y.2.1.1 = t ∧ Sp.mu y.2.1 ≤ y.1 ∧ Sp.loopN y.1 y.2.1 y.2.2 = Sp.loopN (Sp.mu (Sp.init t)) (Sp.init t) ch) ∧ y.1 < f ∧ Sp.runT ((Sp.things s).getD k.toNat (0, [])) s = y.2.1 ∧ c2 = y.2.2 ∧ Sp.up q (Sp.things (Sp.runT ((Sp.things s).getD k.toNat (0, [])) s)) = Sp.up q (Sp.things y.2.1) := by
      intro k hk hpk c2 hc2
      have hz : (Sp.things s).getD k.toNat (0, []) ∈ Sp.things s := by rw [Sp.getD_at hk]; exact List.getElem_mem _
      obtain ⟨k1, k2, k3⟩ := Sp.step_ok (Sp.things_pre hM hz)
      obtain ⟨f', rfl⟩ : ∃ f', f = f' + 1 := ⟨f - 1, by omega⟩
      refine ⟨(f', Sp.runT ((Sp.things s).getD k.toNat (0, [])) s, c2), ⟨k1, k2.t.trans ht, ?_, ?_⟩, ?_, rfl, rfl, rfl⟩
      · show Sp.mu (Sp.runT _ s) ≤ f'
        omega
      · show Sp.loopN f' (Sp.runT _ s) c2 = _
        rw [← hloop, Sp.loop_step (by omega), ← hpk, hc2]
        rfl
      · show f' < f' + 1
        omega
    have pre : ∀ (k : Int), k.toNat < (Sp.things s).length → Sp.preT ((Sp.things s).getD k.toNat (0, [])) s := by
      intro k hk
      exact Sp.things_pre hM (by rw [Sp.getD_at hk]; exact List.getElem_mem _)
    have hth : (Sp.things s).length ≤ 4000 := by
      unfold Sp.things
      split
      · exact Nat.zero_le _
      · have h1 := th1_len s s.2.1.length
        have h2 := th2_len hM s.2.1.length (Nat.le_refl _)
        rw [List.length_append]
        omega
    simp only [Sp.up_len]
    refine ⟨fun h0 => ⟨fun hc => ?_, fun hc => ?_⟩, fun h0 => ?_⟩
    · have h0 : (0 : Int) < ((Sp.things s).length : Int) := h0
      have hc : (0 : Int) < (ch'.length : Int) := hc
      have hpk : Sp.pick ch' (Sp.things s).length = ((ch'.getD 0 0).tmod (Sp.things s).length + (Sp.things s).length).tmod (Sp.things s).length := by
        unfold Sp.pick; rw [if_neg (by omega)]
      have h1 : (ch'.getD 0 0).tmod ((Sp.things s).length : Int) < (Sp.things s).length := Int.tmod_lt_of_pos _ h0
      have h2 : -((Sp.things s).length : Int) < (ch'.getD 0 0).tmod (Sp.things s).length := by
        have := Int.tmod_lt_of_pos (-(ch'.getD 0 0)) h0
        rw [Int.neg_tmod] at this; omega
      have h3 := Int.tmod_lt_of_pos ((ch'.getD 0 0).tmod ((Sp.things s).length : Int) + (Sp.things s).length) h0
      have h4 := Int.tmod_nonneg ((Sp.things s).length : Int) (a := (ch'.getD 0 0).tmod ((Sp.things s).length : Int) + (Sp.things s).length) (by omega)
      have hkl : (((ch'.getD 0 0).tmod (Sp.things s).length + (Sp.things s).length).tmod (Sp.things s).length).toNat < (Sp.things s).length := by omega
      have hst := step _ hkl hpk.symm (ch'.drop 1) rfl
      have hpr := pre _ hkl
      have hget := Sp.up_get q (Sp.things s) hkl
      simp only [show Int.toNat 0 = 0 from rfl]
      simp only [hget]
      have hok := (Sp.step_ok hpr).1
      have hw : win 1 (ch'.length : Int) ch' = ch'.drop 1 := by
        unfold win
        rw [Int.toNat_natCast, List.take_length]
        rfl
      rw [hw]
      exact ⟨⟨⟨by decide, hc⟩, by omega, inK_mid (by omega) (by omega), by omega⟩, ⟨by decide, by omega, Int.le_refl _⟩, ⟨⟨h4, h3⟩, rfl, trivial, hpr⟩, hok, hst⟩
    · have h0 : (0 : Int) < ((Sp.things s).length : Int) := h0
      have hc : (ch'.length : Int) ≤ 0 := hc
      have hcn : ch' = [] := List.eq_nil_of_length_eq_zero (by omega)
      have hpk : Sp.pick ch' (Sp.things s).length = 0 := by
        unfold Sp.pick; rw [if_pos (by omega)]
      have hkl : (0 : Int).toNat < (Sp.things s).length := by show 0 < _; omega
      have hst := step 0 hkl hpk.symm ch' (by rw [hcn]; rfl)
      have hpr := pre 0 hkl
      have hget := Sp.up_get q (Sp.things s) hkl
      have hok := (Sp.step_ok hpr).1
      simp only [hget]
      exact ⟨⟨⟨by decide, h0⟩, rfl, trivial, hpr⟩, hok, hst⟩
    · have h0 : ((Sp.things s).length : Int) ≤ 0 := h0
      have hend : s = Sp.loopN (Sp.mu (Sp.init t)) (Sp.init t) ch := by
        rw [← hloop, Sp.loop_end (by omega)]
      rw [← hend]
      refine ⟨⟨0, ⟨Nat.zero_le _, hM, hsl⟩, rfl, rfl⟩, ?_⟩
      intro k ⟨hk, hkM, hkl⟩ hk2
      refine ⟨fun hlt => ?_, fun hge => ?_⟩
      · have hlt : (k : Int) < (s.2.1.length : Int) := hlt
        have hn : Sp.inC (Sp.flAll k s) (k : Int) := ⟨by omega, by rw [hkl, ← hsl]; exact hlt⟩
        have hf := Sp.flush_mu hkM hn
        exact ⟨⟨hkM, hn⟩, inK_mid (by omega) (by omega), k + 1, ⟨by omega, hf.2.2.2, hf.1.len.trans hkl⟩, by omega, by omega, rfl⟩
      · have hge : (s.2.1.length : Int) ≤ (k : Int) := hge
        have hkk : k = t.1.length := by omega
        unfold Sp.gE Sp.gF Sp.gM Sp.gO Sp.run Sp.runM
        rw [← hend, hkk]
end Go.User
namespace Sp
def gt (l : List Int) (x : Int) : Int := l.getD x.toNat 0
/-- The words of a cache: each of another place. -/
def okC (c : List Word) : Prop := (c.map fun w => w.2.1).Nodup ∧ ∀ w ∈ c, w.1 = 0 ∧ 0 ≤ w.2.1 ∧ w.2.1 < 8
def okV (s : World) : Prop := (∃ l, s.2.1 = [l] ∧ l.length = 8) ∧ s.1.length = 3 ∧ ∀ c ∈ s.1, okC c
/-- A cache and the memory hold what a single memory would, at the places of a core. -/
def own (D : Int → Prop) (c : List Word) (l p : List Int) : Prop :=
  (∀ w ∈ c, D w.2.1 ∧ w.2.2.1 = gt p w.2.1 ∧ (w.2.2.2.1 = false → gt l w.2.1 = gt p w.2.1)) ∧ ∀ x, 0 ≤ x → x < 8 → D x → (∀ w ∈ c, w.2.1 ≠ x) → gt l x = gt p x
structure InvA (D : Nat → Int → Prop) (s : World) (p : List Int) : Prop where
  ok : okV s
  len : p.length = 8
  own : ∀ n, n < 3 → Sp.own (D n) (s.1.getD n []) (s.2.1.getD 0 []) p
  rest : ∀ x, 0 ≤ x → x < 8 → (∀ n, n < 3 → ¬ D n x) → gt (s.2.1.getD 0 []) x = gt p x
def clean (s : World) : Prop := ∀ c ∈ s.1, ∀ w ∈ c, w.2.2.2.1 = false
end Sp
namespace Go.User
open Go.Lf
def S9 : FSpec := { args := [], multi := false, res := .bool, mode := .shr, pre := fun _ => True, fn := fun _ => true }
def C9 : Ctx := { mkC 138 [(16, S16), (19, S19)] with frz := [21, 24, 25, 28, 33, 37, 38, 41, 66, 67] }
def L9 (x : kdens S9.args) : List LoopI := []
def S3 : FSpec := { args := [.val (.slice tAcc)], multi := false, res := .bool, mode := .shr, pre := fun _ => True, fn := fun _ => true }
def S4 : FSpec := { args := [.val (.slice tAcc), .val (.int .u8)], multi := false, res := .bool, mode := .shr, pre := fun _ => True, fn := fun _ => true }
end Go.User
namespace Sp.Ax
open Relation
def idx (l : List Int) (n : Int) : Int := if n ∈ l then (l.idxOf n : Int) else -1
def reads (o : LOp) : Bool := decide (o.1 = 1) || decide (o.1 = 3)
def writes (o : LOp) : Bool := decide (o.1 = 2) || decide (o.1 = 3)
def usual (o : LOp) : Bool :=
  if o.1 = 4 then decide (o.2.1 = 0) && decide (o.2.2.1 = 0)
  else if o.1 = 1 then decide (0 ≤ o.2.1) && decide (o.2.1 < 3) && decide (o.2.2.1 = 0)
  else if o.1 = 2 ∨ o.1 = 3 then decide (0 ≤ o.2.1) && decide (o.2.1 < 3) && decide (-100 ≤ o.2.2.1) && decide (o.2.2.1 ≤ 100)
  else false
def findI (p : LEv → Bool) (l : List LEv) : Int := match l.findIdx? p with
  | some i => i
  | none => -1
def ev0 : LEv := (0, (0, 0, 0, ()), 0, ())
def ev (e : List LEv) (n : Int) : LEv := e.getD n.toNat ev0
def value (e : List LEv) (n : Int) : Int :=
  if n < 0 then 0 else if (ev e n).2.1.1 = 3 then Go.IntKind.wrap .i64 ((ev e n).2.2.1 + (ev e n).2.1.2.2.1) else (ev e n).2.1.2.2.1
end Sp.Ax
namespace Go.User.Ax
open Go.Lf Go.Proofs
def mkC (n : Nat) (fns : List (FuncId × FSpec)) : Ctx := { N := n, tys := tysQ 0, fns := fns, eqs := eqs }
def S9022 : FSpec := { args := [.val (.slice tI), .val tI], multi := false, res := tI, mode := .shr, pre := fun _ => True, fn := fun x => Sp.Ax.idx x.1 x.2.1 }
def C9022 : Ctx := mkC 19 []
def S53 := S9022
def C53 := C9022
def L53 (x : kdens S53.args) : List LoopI := [
  { ι := Nat, inv := fun i => i ≤ x.1.length ∧ x.2.1 ∉ x.1.take i, dec := fun i => x.1.length - i, ovr := fun i => [(8, .shr tI (i : Int))], keep := [0, 1, 7] }]
def S29 : FSpec := { args := [.val tLOp], multi := false, res := .bool, mode := .shr, pre := fun _ => True, fn := fun x => Sp.Ax.reads x.1 }
def C29 : Ctx := mkC 11 []
def L29 (x : kdens S29.args) : List LoopI := []
def S30 : FSpec := { args := [.val tLOp], multi := false, res := .bool, mode := .shr, pre := fun _ => True, fn := fun x => Sp.Ax.writes x.1 }
def C30 : Ctx := mkC 11 []
def L30 (x : kdens S30.args) : List LoopI := []
def S52 : FSpec := { args := [.val tLOp], multi := false, res := .bool, mode := .shr, pre := fun _ => True, fn := fun x => Sp.Ax.usual x.1 }
def C52 : Ctx := mkC 46 []
def L52 (x : kdens S52.args) : List LoopI := []
def S51 : FSpec := { args := [.val tLEv], multi := false, res := .bool, mode := .shr, pre := fun _ => True, fn := fun x => !Sp.Ax.usual x.1.2.1 }
def C51 : Ctx := mkC 7 [(52, S52)]
def L51 (x : kdens S51.args) : List LoopI := []
def S63 : FSpec := { args := [.val (.slice tLEv), .fn [tLEv] .bool], multi := false, res := tI, mode := .shr, pre := fun x => ∀ e, x.2.1.pre (e, ()), fn := fun x => Sp.Ax.findI (fun e => x.2.1.fn (e, ())) x.1 }
def C63 : Ctx := mkC 19 []
def L63 (x : kdens S63.args) : List LoopI := [
  { ι := Nat, inv := fun i => i ≤ x.1.length ∧ ∀ e ∈ x.1.take i, x.2.1.fn (e, ()) = false, dec := fun i => x.1.length - i, ovr := fun i => [(8, .shr tI (i : Int))], keep := [0, 1, 7] }]
def S50 : FSpec := { args := [.val (.slice tLEv), .fn [tLEv] .bool], multi := false, res := .bool, mode := .shr, pre := fun x => ∀ e, x.2.1.pre (e, ()), fn := fun x => List.any x.1 (fun e => x.2.1.fn (e, ())) }
def C50 : Ctx := mkC 9 [(63, S63)]
def L50 (x : kdens S50.args) : List LoopI := []
def S9040 : FSpec := { args := [.val tGr, .val tI], multi := false, res := tI, mode := .shr, pre := fun x => x.2.1 < (x.1.1.length : Int), fn := fun x => Sp.Ax.value x.1.1 x.2.1 }
def S31 := S9040
def C31 : Ctx := { mkC 38 [] with wrp := [30] }
def L31 (x : kdens S31.args) : List LoopI := []
def S33 : FSpec := { args := [.val tLOp, .sptr tI], multi := false, res := .bool, mode := .shr, pre := fun _ => True, fn := fun x => Sp.Ax.writes x.1 && decide (x.1.2.1 = x.2.1) }
def C33 : Ctx := mkC 12 [(30, S30)]
def L33 (x : kdens S33.args) : List LoopI := []
def S34 : FSpec := { args := [.val tLOp], multi := false, res := .bool, mode := .shr, pre := fun _ => True, fn := fun x => decide (x.1.1 = 4) }
def C34 : Ctx := mkC 6 []
def L34 (x : kdens S34.args) : List LoopI := []
end Go.User.Ax
namespace Sp.Ax
open Relation
def mkEv (c : Int) (o : LOp) : LEv := (c, o, 0, ())
def evs : Int → List (List LOp) → List LEv
  | _, [] => []
  | c, l :: ls => l.map (mkEv c) ++ evs (c + 1) ls
/-- The numbers below n with a property. -/
def sel (p : Nat → Bool) (n : Nat) : List Int := ((List.range n).filter p).map (fun (i : Nat) => (i : Int))
def wr (e : List LEv) (x : Int) : List Int := sel (fun i => writes (ev e i).2.1 && decide ((ev e i).2.1.2.1 = x)) e.length
def get2 (r : Rel) (a b : Nat) : Bool := (r.getD a (List.replicate 6 false)).getD b false
def upd2 (r : Rel) (a b : Nat) (v : Bool) : Rel := r.set a ((r.getD a (List.replicate 6 false)).set b v)
def stepB (k a : Nat) (r : Rel) (b : Nat) : Rel := upd2 r a b (get2 r a b || (get2 r a k && get2 r k b))
def rowB (k a : Nat) (r : Rel) (n : Nat) : Rel := (List.range n).foldl (stepB k a) r
def rowA (k : Nat) (r : Rel) (n : Nat) : Rel := (List.range n).foldl (fun r a => rowB k a r 6) r
def closeN (r : Rel) (n : Nat) : Rel := (List.range n).foldl (fun r k => rowA k r 6) r
def close (r : Rel) : Rel := closeN r 6
def round (r : Rel) : Bool := (List.range 6).any fun a => get2 r a a
def mat (f : Nat → Nat → Bool) : Rel := (List.range 6).map fun a => (List.range 6).map fun b => f a b
/-- Ordered by the program, or by the fences. -/
def ordF (e : List LEv) (fo : List Int) (a b : Nat) : Bool :=
  (decide (a < b) && decide (b < e.length) && decide ((ev e a).1 = (ev e b).1)) || (List.range fo.length).any fun j => (List.range j).any fun i => decide (fo.getD i 0 = a) && decide (fo.getD j 0 = b)
def oA (e : List LEv) (i a b : Nat) : Bool := decide (a < i) && ordF e [] a b
def oB (e : List LEv) (i k a b : Nat) : Bool := (decide (a < i) || (decide (a = i) && decide (b < k))) && ordF e [] a b
def fo2 (fo : List Int) (p q a b : Nat) : Bool := decide (fo.getD p 0 = (a : Int)) && decide (fo.getD q 0 = (b : Int))
def oC (e : List LEv) (fo : List Int) (i a b : Nat) : Bool := ordF e [] a b || (List.range i).any fun p => (List.range fo.length).any fun q => decide (p < q) && fo2 fo p q a b
def oD (e : List LEv) (fo : List Int) (i k a b : Nat) : Bool := oC e fo i a b || (List.range k).any fun q => fo2 fo i (i + 1 + q) a b
def order (g : Gr) : Rel := mat (ordF g.1 g.2.2.2.1)
def plc (g : Gr) (n : Int) : Int × Int × Unit :=
  (idx (g.2.2.1.getD (ev g.1 n).2.1.2.1.toNat []) n, idx (g.2.2.1.getD (ev g.1 n).2.1.2.1.toNat []) (g.2.1.getD n.toNat 0), ())
/-- A list has exactly the events of a kind, each once. -/
def isList (l : List Int) (e : List LEv) (is : LOp → Bool) : Bool :=
  decide (l.Nodup ∧ ∀ n ∈ l, 0 ≤ n ∧ n < e.length ∧ is (ev e n).2.1 = true) && decide (∀ n < e.length, is (ev e n).2.1 = true → (n : Int) ∈ l)
def valid (t : Lit) : Bool :=
  decide (1 ≤ t.1.length) && decide (t.1.length ≤ 4) && decide (1 ≤ (evs 0 t.1).length) && decide ((evs 0 t.1).length ≤ 6) && (evs 0 t.1).all fun x => usual x.2.1
end Sp.Ax
namespace Go.User.Ax
open Go.Lf Go.Proofs
def S27 : FSpec := { args := [.val tLit], multi := false, res := .slice tLEv, mode := .own .shr, pre := fun x => (Sp.Ax.evs 0 x.1.1).length ≤ 1000, fn := fun x => Sp.Ax.evs 0 x.1.1 }
def C27 : Ctx := mkC 31 []
def L27 (x : kdens S27.args) : List LoopI := [
  { ι := Nat × List Sp.LEv, inv := fun i => i.1 ≤ x.1.1.length ∧ i.2 = Sp.Ax.evs 0 (x.1.1.take i.1), dec := fun i => x.1.1.length - i.1, ovr := fun i => [(11, .shr tI (i.1 : Int)), (3, .own (.slice tLEv) (.own .shr) i.2)], keep := [1, 9, 10], sub := fun i => [
    { ι := Nat × List Sp.LEv, inv := fun k => k.1 ≤ (x.1.1.getD i.1 []).length ∧ k.2 = Sp.Ax.evs 0 (x.1.1.take i.1) ++ ((x.1.1.getD i.1 []).take k.1).map (Sp.Ax.mkEv (i.1 : Int)), dec := fun k => (x.1.1.getD i.1 []).length - k.1, ovr := fun k => [(18, .shr tI (k.1 : Int)), (3, .own (.slice tLEv) (.own .shr) k.2)], keep := [1, 9, 10, 11, 4, 16, 17] }] }]
def S38 : FSpec := { args := [.val tGr, .val tI], multi := false, res := tPl, mode := .shr, pre := fun x => inN x.2.1 (List.length x.1.1) ∧ inN x.2.1 (List.length x.1.2.1) ∧ inN (Sp.Ax.ev x.1.1 x.2.1).2.1.2.1 (List.length x.1.2.2.1), fn := fun x => Sp.Ax.plc x.1 x.2.1 }
def C38 : Ctx := mkC 31 [(53, S53)]
def L38 (x : kdens S38.args) : List LoopI := []
def S36 : PSpec := { τ := tRel, pre := fun _ _ => True, fn := fun r _ => Sp.Ax.close r, out := fun _ _ => () }
def C36 (q : Nat) : Ctx := { mkC 48 [] with pin := some 0, q := q }
def L36 (q : Nat) (x : S36.τ.den) (y : kdens S36.args) : List LoopI := [
  { ι := Nat × Sp.Rel, inv := fun i => i.1 ≤ 6 ∧ i.2 = Sp.Ax.closeN x i.1, dec := fun i => 6 - i.1, ovr := fun i => [(5, .shr tI (i.1 : Int)), (0, .box tRel .shr i.2)], keep := [], sub := fun i => [
    { ι := Nat × Sp.Rel, inv := fun a => a.1 ≤ 6 ∧ a.2 = Sp.Ax.rowA i.1 (Sp.Ax.closeN x i.1) a.1, dec := fun a => 6 - a.1, ovr := fun a => [(8, .shr tI (a.1 : Int)), (0, .box tRel .shr a.2)], keep := [5, 2], sub := fun a => [
      { ι := Nat × Sp.Rel, inv := fun b => b.1 ≤ 6 ∧ b.2 = Sp.Ax.rowB i.1 a.1 (Sp.Ax.rowA i.1 (Sp.Ax.closeN x i.1) a.1) b.1, dec := fun b => 6 - b.1, ovr := fun b => [(11, .shr tI (b.1 : Int)), (0, .box tRel .shr b.2)], keep := [5, 2, 8, 3] }] }] }]
def S37 : FSpec := { args := [.sptr tRel], multi := false, res := .bool, mode := .shr, pre := fun _ => True, fn := fun x => Sp.Ax.round x.1 }
def C37 : Ctx := mkC 15 []
def L37 (x : kdens S37.args) : List LoopI := [
  { ι := Nat, inv := fun i => i ≤ 6 ∧ ∀ a < i, Sp.Ax.get2 x.1 a a = false, dec := fun i => 6 - i, ovr := fun i => [(4, .shr tI (i : Int))], keep := [0] }]
def S35 : FSpec := { args := [.val tGr], multi := false, res := tRel, mode := .shr, pre := fun x => List.length x.1.1 ≤ 6 ∧ ∀ n ∈ (x.1.2.2.2.1 : List Int), inN n 6, fn := fun x => Sp.Ax.order x.1 }
def mRel : Md := .own (.own .shr)
def C35 : Ctx := mkC 68 []
def L35 (x : kdens S35.args) : List LoopI := [
  { ι := Nat, inv := fun i => i ≤ List.length x.1.1, dec := fun i => List.length x.1.1 - i, ovr := fun i => [(13, .shr tI (i : Int)), (3, .box tRel mRel (Sp.Ax.mat (Sp.Ax.oA x.1.1 i)))], keep := [1, 2, 11, 12], sub := fun i => [
    { ι := Nat, inv := fun k => i < k ∧ k ≤ List.length x.1.1, dec := fun k => List.length x.1.1 - k, ovr := fun k => [(5, .shr tI (k : Int)), (3, .box tRel mRel (Sp.Ax.mat (Sp.Ax.oB x.1.1 i k)))], keep := [1, 2, 11, 12, 13, 4] }] },
  { ι := Nat, inv := fun i => i ≤ List.length x.1.2.2.2.1, dec := fun i => List.length x.1.2.2.2.1 - i, ovr := fun i => [(46, .shr tI (i : Int)), (3, .box tRel mRel (Sp.Ax.mat (Sp.Ax.oC x.1.1 x.1.2.2.2.1 i)))], keep := [1, 2, 44, 45], sub := fun i => [
    { ι := Nat, inv := fun k => i + 1 + k ≤ List.length x.1.2.2.2.1, dec := fun k => List.length x.1.2.2.2.1 - k, ovr := fun k => [(57, .shr tI (k : Int)), (3, .box tRel mRel (Sp.Ax.mat (Sp.Ax.oD x.1.1 x.1.2.2.2.1 i k)))], keep := [1, 2, 44, 45, 46, 6, 7, 55, 56] }] }]
def S32 : FSpec := { args := [.val (.slice tI), .val (.slice tLEv), .fn [tLOp] .bool], multi := false, res := .bool, mode := .shr, pre := fun x => List.length x.2.1 ≤ 1000 ∧ ∀ o, x.2.2.1.pre (o, ()), fn := fun x => Sp.Ax.isList x.1 x.2.1 (fun o => x.2.2.1.fn (o, ())) }
def C32 : Ctx := mkC 68 []
def L32 (x : kdens S32.args) : List LoopI := [
  { ι := Nat × List Bool, inv := fun i => i.1 ≤ List.length x.1 ∧ i.2.length = List.length x.2.1 ∧ (List.take i.1 x.1).Nodup ∧ (∀ n ∈ (List.take i.1 x.1 : List Int), 0 ≤ n ∧ n < (List.length x.2.1 : Int) ∧ x.2.2.1.fn ((Sp.Ax.ev x.2.1 n).2.1, ()) = true) ∧ ∀ n < List.length x.2.1, (i.2.getD n false = true ↔ (n : Int) ∈ (List.take i.1 x.1 : List Int)), dec := fun i => List.length x.1 - i.1, ovr := fun i => [(16, .shr tI (i.1 : Int)), (7, .own (.slice .bool) (.own .shr) i.2)], keep := [0, 1, 2, 14, 15] },
  { ι := Nat, inv := fun i => i ≤ List.length x.2.1 ∧ ∀ n < i, x.2.2.1.fn ((Sp.Ax.ev x.2.1 n).2.1, ()) = true → (n : Int) ∈ (x.1 : List Int), dec := fun i => List.length x.2.1 - i, ovr := fun i => [(50, .shr tI (i : Int))], keep := [0, 1, 2, 7, 48, 49] }]
def S28 : FSpec := { args := [.val tLit], multi := false, res := .bool, mode := .shr, pre := fun x => (Sp.Ax.evs 0 x.1.1).length ≤ 1000, fn := fun x => Sp.Ax.valid x.1 }
def C28 : Ctx := mkC 31 [(27, S27), (50, S50), (51, S51)]
def L28 (x : kdens S28.args) : List LoopI := []
end Go.User.Ax
namespace Sp.Ax
open Relation
def coh (g : Gr) (a b : Int) : Bool :=
  let low := if writes (ev g.1 a).2.1 = true then (plc g a).1 else (plc g a).2.1
  !(reads (ev g.1 b).2.1 && decide ((plc g b).2.1 < low)) && !(writes (ev g.1 b).2.1 && decide ((plc g b).1 ≤ low))
def src (e : List LEv) (g : Gr) (n : Nat) : Prop :=
  (ev g.1 n).1 = (ev e n).1 ∧ (ev g.1 n).2.1 = (ev e n).2.1 ∧ -1 ≤ g.2.1.getD n 0 ∧ g.2.1.getD n 0 < (e.length : Int) ∧
  (0 ≤ g.2.1.getD n 0 → reads (ev e n).2.1 = true ∧ writes (ev e (g.2.1.getD n 0)).2.1 = true ∧ (ev e (g.2.1.getD n 0)).2.1.2.1 = (ev e n).2.1.2.1)
instance (e : List LEv) (g : Gr) (n : Nat) : Decidable (src e g n) := by unfold src; infer_instance
def got (g : Gr) (n : Nat) : Prop := (ev g.1 n).2.2.1 = if reads (ev g.1 n).2.1 = true then value g.1 (g.2.1.getD n 0) else 0
instance (g : Gr) (n : Nat) : Decidable (got g n) := by unfold got; infer_instance
def right (t : Lit) (g : Gr) : Bool :=
  valid t && decide (g.1.length = (evs 0 t.1).length) && decide (g.2.1.length = (evs 0 t.1).length) && decide (g.2.2.1.length = 3) &&
  decide (∀ n < (evs 0 t.1).length, src (evs 0 t.1) g n) && decide (∀ n < g.1.length, got g n) &&
  ((List.range 3).all fun p => isList (g.2.2.1.getD p []) (evs 0 t.1) (fun o => writes o && decide (o.2.1 = (p : Int)))) &&
  isList g.2.2.2.1 (evs 0 t.1) (fun o => decide (o.1 = 4))
def flowN (g : Gr) (i a b : Nat) : Bool := ordF g.1 g.2.2.2.1 a b || (decide (b < i) && decide (g.2.1.getD b 0 = (a : Int)))
def flow (g : Gr) : Rel := close (mat (flowN g g.2.1.length))
def before (g : Gr) : Rel := close (order g)
def badAdd (g : Gr) (a : Nat) : Bool := decide ((ev g.1 a).2.1.1 = 3) && !decide ((plc g a).2.1 = (plc g a).1 - 1)
def badPair (g : Gr) (a b : Nat) : Bool := get2 (before g) a b && !decide ((ev g.1 b).2.1.1 = 4) && decide ((ev g.1 a).2.1.2.1 = (ev g.1 b).2.1.2.1) && !coh g a b
def okEv (g : Gr) (a : Nat) : Prop := (ev g.1 a).2.1.1 = 4 ∨ (badAdd g a = false ∧ ∀ b < g.1.length, badPair g a b = false)
instance (g : Gr) (a : Nat) : Decidable (okEv g a) := by unfold okEv; infer_instance
def allowed (t : Lit) (g : Gr) : Bool := right t g && !round (flow g) && decide (∀ a < g.1.length, okEv g a)
end Sp.Ax
namespace Go.User.Ax
open Go.Lf Go.Proofs
def okAt (g : Sp.Gr) (n : Int) : Prop := inN n g.1.length ∧ inN n g.2.1.length ∧ inN (Sp.Ax.ev g.1 n).2.1.2.1 g.2.2.1.length
def S39 : FSpec := { args := [.val tGr, .val tI, .val tI], multi := false, res := .bool, mode := .shr, pre := fun x => okAt x.1 x.2.1 ∧ okAt x.1 x.2.2.1, fn := fun x => Sp.Ax.coh x.1 x.2.1 x.2.2.1 }
def C39 : Ctx := mkC 54 [(38, S38), (29, S29), (30, S30)]
def L39 (x : kdens S39.args) : List LoopI := []
def S17 : FSpec := { args := [.val tLit, .val tGr], multi := false, res := .bool, mode := .shr, pre := fun x => (Sp.Ax.evs 0 x.1.1).length ≤ 1000, fn := fun x => Sp.Ax.right x.1 x.2.1 }
def C17 : Ctx := mkC 144 [(27, S27), (28, S28), (29, S29), (30, S30), (31, S31), (32, S32), (33, S33), (34, S34)]
def L17 (x : kdens S17.args) : List LoopI := [
  { ι := Nat, inv := fun i => i ≤ (Sp.Ax.evs 0 x.1.1).length ∧ ∀ n < i, Sp.Ax.src (Sp.Ax.evs 0 x.1.1) x.2.1 n, dec := fun i => (Sp.Ax.evs 0 x.1.1).length - i, ovr := fun i => [(43, .shr tI (i : Int))], keep := [2, 3, 5, 41, 42] },
  { ι := Nat, inv := fun i => i ≤ List.length x.2.1.1 ∧ ∀ n < i, Sp.Ax.got x.2.1 n, dec := fun i => List.length x.2.1.1 - i, ovr := fun i => [(107, .shr tI (i : Int))], keep := [2, 3, 5, 105, 106] },
  { ι := Nat, inv := fun i => i ≤ 3 ∧ ∀ p < i, Sp.Ax.isList (List.getD x.2.1.2.2.1 p []) (Sp.Ax.evs 0 x.1.1) (fun o => Sp.Ax.writes o && decide (o.2.1 = (p : Int))) = true, dec := fun i => 3 - i, ovr := fun i => [(127, .shr tI (i : Int))], keep := [2, 3, 5] }]
def S18 : FSpec := { args := [.val tLit, .val tGr], multi := false, res := .bool, mode := .shr, pre := fun x => (Sp.Ax.evs 0 x.1.1).length ≤ 1000, fn := fun x => Sp.Ax.allowed x.1 x.2.1 }
def C18 : Ctx := { mkC 103 [(17, S17), (35, S35), (37, S37), (38, S38), (39, S39)] with ptrs := [(36, S36)] }
def L18 (x : kdens S18.args) : List LoopI := [
  { ι := Nat, inv := fun i => i ≤ List.length x.2.1.2.1, dec := fun i => List.length x.2.1.2.1 - i, ovr := fun i => [(24, .shr tI (i : Int)), (6, .box tRel mRel (Sp.Ax.mat (Sp.Ax.flowN x.2.1 i)))], keep := [2, 3, 5, 22, 23] },
  { ι := Nat, inv := fun i => i ≤ List.length x.2.1.1 ∧ ∀ a < i, Sp.Ax.okEv x.2.1 a, dec := fun i => List.length x.2.1.1 - i, ovr := fun i => [(42, .shr tI (i : Int))], keep := [2, 3, 5, 40, 41], sub := fun i => [
    { ι := Nat, inv := fun k => k ≤ List.length x.2.1.1 ∧ ∀ b < k, Sp.Ax.badPair x.2.1 i b = false, dec := fun k => List.length x.2.1.1 - k, ovr := fun k => [(69, .shr tI (k : Int))], keep := [2, 3, 5, 40, 41, 42, 9, 10, 67, 68] }] }]
end Go.User.Ax
namespace Go.User.Ax
open Go.Proofs Go.Lf
set_option maxRecDepth 100000
theorem vc53 : (funI C53 (stpQ C53) S53 L53 Try.f53) = (
let q0 : Prop := (True ∧ True) ∧ True;
let q1 : Prop := True ∧ True ∧ True;
let q2 : Int := (0 : Int);
let q3 : Prop := q1 ∧ True;
let q4 : Int := (1 : Int);
∀ (x : List Int × Int × Unit),
  let q5 : Nat := x.1.length;
  let q6 : Int := (↑q5 : Int);
  let q7 : Prop := x.1 = x.1 ∧ x.2.1 = x.2.1 ∧ q6 = q6 ∧ True;
  let q8 : Int := Sp.Ax.idx x.1 x.2.1;
  True →
    dFact (Ty.int IntKind.i64).slice x.1 ∧ dFact (Ty.int IntKind.i64) x.2.1 ∧ True →
      q0 ∧
        ((True ∧ q1) ∧ True) ∧
          (∃ (x_1 : Nat), (x_1 ≤ q5 ∧ ¬x.2.1 ∈ List.take x_1 x.1) ∧ q2 = (↑x_1 : Int) ∧ q7) ∧
            ∀ (x_1 : Nat),
              let q9 : Bool := decide ((↑x_1 : Int) < q6);
              let q10 : Bool := x.2.1 == x.1.getD (↑x_1 : Int).toNat q2;
              let q11 : Int := (↑x_1 : Int) + q4;
              x_1 ≤ q5 ∧ ¬x.2.1 ∈ List.take x_1 x.1 → dFact (Ty.int IntKind.i64) (↑x_1 : Int) ∧ True → q0 ∧ (q9 = true → q3 ∧ ((True ∧ True ∧ True ∧ inN (↑x_1 : Int) q5 ∧ q1) ∧ True) ∧ (q10 = true → q3 ∧ (↑x_1 : Int) = q8) ∧ (q10 = false → ((inK IntKind.i64 q11 ∧ True ∧ True) ∧ True) ∧ ∃ (y : Nat), (y ≤ q5 ∧ ¬x.2.1 ∈ List.take y x.1) ∧ q5 - y < q5 - x_1 ∧ q11 = (↑y : Int) ∧ q7)) ∧ (q9 = false → q0 ∧ -q4 = q8)) := by kernel_rfl
theorem vc29 : (funI C29 (stpQ C29) S29 L29 Try.f29) = (
let q0 : Prop := True ∧ True ∧ True;
∀ (x : (Int × Int × Int × Unit) × Unit),
  let q1 : Bool := x.1.1 == (1 : Int);
  let q2 : Prop := (true && bif q1 then false else true) = true → True;
  True → dFact ((Ty.int IntKind.i64).prod ((Ty.int IntKind.i64).prod ((Ty.int IntKind.i64).prod Ty.unit))) x.1 ∧ True → (q0 ∧ True) ∧ ((True ∧ True ∧ True ∧ True ∧ q2 ∧ q2 ∧ q2 ∧ q0) ∧ True) ∧ (bif q1 then true else x.1.1 == (3 : Int)) = Sp.Ax.reads x.1) := by kernel_rfl
theorem vc30 : (funI C30 (stpQ C30) S30 L30 Try.f30) = (
let q0 : Prop := True ∧ True ∧ True;
∀ (x : (Int × Int × Int × Unit) × Unit),
  let q1 : Bool := x.1.1 == (2 : Int);
  let q2 : Prop := (true && bif q1 then false else true) = true → True;
  True → dFact ((Ty.int IntKind.i64).prod ((Ty.int IntKind.i64).prod ((Ty.int IntKind.i64).prod Ty.unit))) x.1 ∧ True → (q0 ∧ True) ∧ ((True ∧ True ∧ True ∧ True ∧ q2 ∧ q2 ∧ q2 ∧ q0) ∧ True) ∧ (bif q1 then true else x.1.1 == (3 : Int)) = Sp.Ax.writes x.1) := by kernel_rfl
theorem vc52 : (funI C52 (stpQ C52) S52 L52 Try.f52) = (
let q0 : Prop := True ∧ True ∧ True;
let q1 : Prop := q0 ∧ True;
let q2 : Int := (4 : Int);
let q3 : Int := (0 : Int);
let q4 : Int := (3 : Int);
let q5 : Int := (2 : Int);
let q6 : Int := (100 : Int);
∀ (x : (Int × Int × Int × Unit) × Unit),
  let q7 : Bool := x.1.1 == q2;
  let q8 : Bool := x.1.1 == (1 : Int);
  let q9 : Bool := decide (q3 ≤ x.1.2.1);
  let q10 : Prop := (true && bif q9 then true else false) = true → True;
  let q11 : Bool := bif q9 then decide (x.1.2.1 < q4) else false;
  let q12 : Prop := (true && bif q11 then true else false) = true → True;
  let q13 : Bool := x.1.1 == q5;
  let q14 : Prop := q13 = true;
  let q15 : Bool := bif q11 then decide (-q6 ≤ x.1.2.2.1) else false;
  let q16 : Prop := (true && bif q15 then true else false) = true → True;
  let q17 : Prop := ((True ∧ True ∧ True ∧ True ∧ q10 ∧ q10 ∧ q10 ∧ True ∧ True ∧ q12 ∧ q12 ∧ q12 ∧ True ∧ True ∧ q16 ∧ q16 ∧ q16 ∧ q0) ∧ True) ∧ (bif q15 then decide (x.1.2.2.1 ≤ q6) else false) = Sp.Ax.usual x.1;
  let q18 : Prop := q13 = false;
  let q19 : Prop := ((True ∧ True) ∧ True) ∧ false = Sp.Ax.usual x.1;
  let q20 : Bool := x.1.1 == q4;
  True → dFact ((Ty.int IntKind.i64).prod ((Ty.int IntKind.i64).prod ((Ty.int IntKind.i64).prod Ty.unit))) x.1 ∧ True → q1 ∧ q1 ∧ q1 ∧ (q7 = true → ((True ∧ True ∧ q0) ∧ True) ∧ (decide (x.1.1 = q2) && (decide (x.1.2.1 = q3) && (decide (x.1.2.2.1 = q3) && true))) = Sp.Ax.usual x.1) ∧ (q7 = false → q1 ∧ (q8 = true → ((True ∧ True ∧ True ∧ True ∧ q10 ∧ q10 ∧ q10 ∧ True ∧ True ∧ q12 ∧ q12 ∧ q12 ∧ q0) ∧ True) ∧ (bif q11 then x.1.2.2.1 == q3 else false) = Sp.Ax.usual x.1) ∧ (q8 = false → q1 ∧ (q14 → (q14 → q17) ∧ (q18 → q19)) ∧ (q18 → q1 ∧ (q20 = true → q17) ∧ (q20 = false → q19))))) := by kernel_rfl
theorem vc51 : (funI C51 (stpQ C51) S51 L51 Try.f51) = (
let q0 : Prop := True ∧ True ∧ True;
∀ (x : (Int × (Int × Int × Int × Unit) × Int × Unit) × Unit),
  let q1 : Bool := !Sp.Ax.usual x.1.2.1;
  True → dFact ((Ty.int IntKind.i64).prod (((Ty.int IntKind.i64).prod ((Ty.int IntKind.i64).prod ((Ty.int IntKind.i64).prod Ty.unit))).prod ((Ty.int IntKind.i64).prod Ty.unit))) x.1 ∧ True → (q0 ∧ True) ∧ ((True ∧ True ∧ True ∧ q0) ∧ True) ∧ q1 = q1) := by kernel_rfl
theorem vc63 : (funI C63 (stpQ C63) S63 L63 Try.f63) = (
let q0 : List Ty := Go.User.tLEv :: ([] : List Ty);
let q1 : Prop := (True ∧ True) ∧ True;
let q2 : Prop := True ∧ True ∧ True;
let q3 : Int := (0 : Int);
let q4 : Prop := q0 = q0;
let q5 : Prop := q2 ∧ True;
let q6 : Int × Unit := (q3, ());
let q7 : Int := (1 : Int);
∀ (x : List (Int × (Int × Int × Int × Unit) × Int × Unit) × Fun q0 Ty.bool × Unit),
  let q8 : Nat := x.1.length;
  let q9 : Int := (↑q8 : Int);
  let q10 : Prop := x.1 = x.1 ∧ (∃ (h1 : q4), ∃ (h2 : Ty.bool = Ty.bool), x.2.1 = x.2.1) ∧ q9 = q9 ∧ True;
  let q11 : Int := Sp.Ax.findI (fun (e : Sp.LEv) => x.2.1.2 (e, ())) x.1;
  (∀ (e : Int × (Int × Int × Int × Unit) × Int × Unit), x.2.1.1 (e, ())) →
    dFact ((Ty.int IntKind.i64).prod (((Ty.int IntKind.i64).prod ((Ty.int IntKind.i64).prod ((Ty.int IntKind.i64).prod Ty.unit))).prod ((Ty.int IntKind.i64).prod Ty.unit))).slice x.1 ∧ True →
      q1 ∧
        ((True ∧ q2) ∧ True) ∧
          (∃ (x_1 : Nat), (x_1 ≤ q8 ∧ ∀ (e : Int × (Int × Int × Int × Unit) × Int × Unit), e ∈ List.take x_1 x.1 → x.2.1.2 (e, ()) = false) ∧ q3 = (↑x_1 : Int) ∧ q10) ∧
            ∀ (x_1 : Nat),
              let q12 : Bool := decide ((↑x_1 : Int) < q9);
              let q13 : (Int × (Int × Int × Int × Unit) × Int × Unit) × Unit := (x.1.getD (↑x_1 : Int).toNat (q3, (q3, q3, q6), q6), ());
              let q14 : Bool := x.2.1.2 q13;
              let q15 : Int := (↑x_1 : Int) + q7;
              (x_1 ≤ q8 ∧ ∀ (e : Int × (Int × Int × Int × Unit) × Int × Unit), e ∈ List.take x_1 x.1 → x.2.1.2 (e, ()) = false) → dFact (Ty.int IntKind.i64) (↑x_1 : Int) ∧ True → q1 ∧ (q12 = true → q5 ∧ ((True ∧ True ∧ True ∧ inN (↑x_1 : Int) q8 ∧ True ∧ x.2.1.1 q13 ∧ True) ∧ True) ∧ (q14 = true → q5 ∧ (↑x_1 : Int) = q11) ∧ (q14 = false → ((inK IntKind.i64 q15 ∧ True ∧ True) ∧ True) ∧ ∃ (y : Nat), (y ≤ q8 ∧ ∀ (e : Int × (Int × Int × Int × Unit) × Int × Unit), e ∈ List.take y x.1 → x.2.1.2 (e, ()) = false) ∧ q8 - y < q8 - x_1 ∧ q15 = (↑y : Int) ∧ q10)) ∧ (q12 = false → q1 ∧ -q7 = q11)) := by kernel_rfl
theorem vc50 : (funI C50 (stpQ C50) S50 L50 Try.f50) = (
∀ (x : List (Int × (Int × Int × Int × Unit) × Int × Unit) × Fun (Go.User.tLEv :: ([] : List Ty)) Ty.bool × Unit),
  let q0 : Prop := ∀ (e : Int × (Int × Int × Int × Unit) × Int × Unit), x.2.1.1 (e, ());
  q0 → dFact ((Ty.int IntKind.i64).prod (((Ty.int IntKind.i64).prod ((Ty.int IntKind.i64).prod ((Ty.int IntKind.i64).prod Ty.unit))).prod ((Ty.int IntKind.i64).prod Ty.unit))).slice x.1 ∧ True → ((True ∧ True) ∧ True) ∧ ((True ∧ True ∧ q0 ∧ True ∧ True ∧ True) ∧ True) ∧ decide (Sp.Ax.findI (fun (e : Sp.LEv) => x.2.1.2 (e, ())) x.1 ≥ (0 : Int)) = x.1.any fun (e : Go.User.tLEv.den) => x.2.1.2 (e, ())) := by kernel_rfl
theorem vc31 : (funI C31 (stpQ C31) S31 L31 Try.f31) = (
let q0 : Prop := True ∧ True ∧ True;
let q1 : Prop := True ∧ q0;
let q2 : Int := (0 : Int);
let q3 : Prop := True ∧ q1;
let q4 : Prop := True ∧ q3;
let q5 : Int × Unit := (q2, ());
let q6 : Int × (Int × Int × Int × Unit) × Int × Unit := (q2, (q2, q2, q5), q5);
∀ (x : (List (Int × (Int × Int × Int × Unit) × Int × Unit) × List Int × List (List Int) × List Int × Unit) × Int × Unit),
  let q7 : Nat := x.1.1.length;
  let q8 : Bool := decide (x.2.1 < q2);
  let q9 : Int := Sp.Ax.value x.1.1 x.2.1;
  let q10 : Prop := inN x.2.1 q7;
  let q11 : Prop := True ∧ True ∧ True ∧ q10 ∧ q4;
  let q12 : (Int × Int × Int × Unit) × Int × Unit := (x.1.1.getD x.2.1.toNat q6).2;
  let q13 : Int × Int × Int × Unit := q12.1;
  let q14 : Bool := q13.1 == (3 : Int);
  let q15 : Int := q13.2.2.1;
  x.2.1 < (↑q7 : Int) → dFact (((Ty.int IntKind.i64).prod (((Ty.int IntKind.i64).prod ((Ty.int IntKind.i64).prod ((Ty.int IntKind.i64).prod Ty.unit))).prod ((Ty.int IntKind.i64).prod Ty.unit))).slice.prod ((Ty.int IntKind.i64).slice.prod ((Ty.int IntKind.i64).slice.slice.prod ((Ty.int IntKind.i64).slice.prod Ty.unit)))) x.1 ∧ dFact (Ty.int IntKind.i64) x.2.1 ∧ True → (q0 ∧ True) ∧ (q1 ∧ True) ∧ (q8 = true → ((True ∧ True) ∧ True) ∧ q2 = q9) ∧ (q8 = false → (q11 ∧ True) ∧ (q14 = true → ((True ∧ True ∧ True ∧ q10 ∧ True ∧ True ∧ q11) ∧ True) ∧ IntKind.i64.wrap (q12.2.1 + q15) = q9) ∧ (q14 = false → ((True ∧ True ∧ True ∧ q10 ∧ q3) ∧ True) ∧ q15 = q9))) := by kernel_rfl
theorem vc33 : (funI C33 (stpQ C33) S33 L33 Try.f33) = (
let q0 : Prop := True ∧ True ∧ True;
∀ (x : (Int × Int × Int × Unit) × Int × Unit),
  let q1 : Prop := (true && bif Sp.Ax.writes x.1 then true else false) = true → True;
  True → dFact ((Ty.int IntKind.i64).prod ((Ty.int IntKind.i64).prod ((Ty.int IntKind.i64).prod Ty.unit))) x.1 ∧ dFact (Ty.int IntKind.i64) x.2.1 ∧ True → (q0 ∧ True) ∧ ((True ∧ True ∧ True ∧ q1 ∧ q1 ∧ q1 ∧ q1 ∧ q0) ∧ True) ∧ (bif Sp.Ax.writes x.1 then x.1.2.1 == x.2.1 else false) = (Sp.Ax.writes x.1 && decide (x.1.2.1 = x.2.1))) := by kernel_rfl
theorem vc34 : (funI C34 (stpQ C34) S34 L34 Try.f34) = (
let q0 : Prop := True ∧ True ∧ True;
∀ (x : (Int × Int × Int × Unit) × Unit), True → dFact ((Ty.int IntKind.i64).prod ((Ty.int IntKind.i64).prod ((Ty.int IntKind.i64).prod Ty.unit))) x.1 ∧ True → (q0 ∧ True) ∧ ((True ∧ True ∧ q0) ∧ True) ∧ (x.1.1 == (4 : Int)) = decide (x.1.1 = (4 : Go.User.tI.den))) := by kernel_rfl
theorem vc27 : (funI C27 (stpQ C27) S27 L27 Try.f27) = (
let q0 : Int := (0 : Int);
let q1 : Prop := True ∧ True ∧ True;
let q2 : Prop := q1 ∧ True;
let q3 : Prop := (True ∧ True) ∧ True;
let q4 : Prop := True ∧ q1;
let q5 : Prop := True ∧ q4;
let q6 : Int × Unit := (q0, ());
let q7 : Int × Int × Int × Unit := (q0, q0, q6);
let q8 : Int := (1 : Int);
∀ (x : (List (List (Int × Int × Int × Unit)) × Unit) × Unit),
  let q9 : List (Int × (Int × Int × Int × Unit) × Int × Unit) := Sp.Ax.evs q0 x.1.1;
  let q10 : Nat := x.1.1.length;
  let q11 : Prop := x.1 = x.1;
  let q12 : Prop := x.1.1 = x.1.1;
  let q13 : Int := (↑q10 : Int);
  let q14 : Prop := q13 = q13;
  let q15 : Prop := q11 ∧ q12 ∧ q14 ∧ True;
  q9.length ≤ (1000 : Nat) →
    dFact (((Ty.int IntKind.i64).prod ((Ty.int IntKind.i64).prod ((Ty.int IntKind.i64).prod Ty.unit))).slice.slice.prod Ty.unit) x.1 ∧ True →
      q2 ∧
        q3 ∧
          (q5 ∧ True) ∧
            (∃ (x_1 : Nat × List Sp.LEv), (x_1.1 ≤ q10 ∧ x_1.2 = Sp.Ax.evs q0 (List.take x_1.1 x.1.1)) ∧ q0 = (↑x_1.1 : Int) ∧ x_1.2 = ([] : List Go.User.tLEv.den) ∧ q15) ∧
              ∀ (x_1 : Nat × List Sp.LEv),
                let q16 : List (Int × (Int × Int × Int × Unit) × Int × Unit) := Sp.Ax.evs q0 (List.take x_1.1 x.1.1);
                let q17 : Int := (↑x_1.1 : Int);
                let q18 : Bool := decide (q17 < q13);
                let q19 : List (Int × Int × Int × Unit) := x.1.1.getD x_1.1 (([] : List Go.User.tLOp.den));
                let q20 : Nat := q19.length;
                let q21 : Prop := q17 = q17;
                let q22 : List (Int × Int × Int × Unit) := x.1.1.getD q17.toNat (([] : List Go.User.tLOp.den));
                let q23 : Nat := q22.length;
                let q24 : Int := (↑q23 : Int);
                let q25 : Prop := q11 ∧ q12 ∧ q14 ∧ q21 ∧ q21 ∧ q22 = q22 ∧ q24 = q24 ∧ True;
                let q26 : Int := q17 + q8;
                x_1.1 ≤ q10 ∧ x_1.2 = q16 →
                  dFact (Ty.int IntKind.i64) q17 ∧ dFact ((Ty.int IntKind.i64).prod (((Ty.int IntKind.i64).prod ((Ty.int IntKind.i64).prod ((Ty.int IntKind.i64).prod Ty.unit))).prod ((Ty.int IntKind.i64).prod Ty.unit))).slice x_1.2 ∧ True →
                    q3 ∧
                      (q18 = true →
                          ((True ∧ inN q17 q10 ∧ q4) ∧ True) ∧
                            (q4 ∧ True) ∧
                              (∃ (x : Nat × List Sp.LEv), (x.1 ≤ q20 ∧ x.2 = q16 ++ List.map (Sp.Ax.mkEv q17) (List.take x.1 q19)) ∧ q0 = (↑x.1 : Int) ∧ x_1.2 = x.2 ∧ q25) ∧
                                ∀ (x_2 : Nat × List Sp.LEv),
                                  let q27 : Int := (↑x_2.1 : Int);
                                  let q28 : Bool := decide (q27 < q24);
                                  let q29 : List (Int × (Int × Int × Int × Unit) × Int × Unit) := (q17, q22.getD q27.toNat q7, q6) :: ([] : List Go.User.tLEv.den);
                                  let q30 : Int := q27 + q8;
                                  x_2.1 ≤ q20 ∧ x_2.2 = q16 ++ List.map (Sp.Ax.mkEv q17) (List.take x_2.1 q19) → dFact (Ty.int IntKind.i64) q27 ∧ dFact ((Ty.int IntKind.i64).prod (((Ty.int IntKind.i64).prod ((Ty.int IntKind.i64).prod ((Ty.int IntKind.i64).prod Ty.unit))).prod ((Ty.int IntKind.i64).prod Ty.unit))).slice x_2.2 ∧ True → q3 ∧ (q28 = true → ((inN q27 q23 ∧ q1) ∧ True ∧ True) ∧ ((True ∧ q5) ∧ (↑(x_2.2.length + q29.length) : Int) ≤ maxNew ∧ True ∧ True) ∧ ((inK IntKind.i64 q30 ∧ True ∧ True) ∧ True) ∧ ∃ (y : Nat × List Sp.LEv), (y.1 ≤ q20 ∧ y.2 = q16 ++ List.map (Sp.Ax.mkEv q17) (List.take y.1 q19)) ∧ q20 - y.1 < q20 - x_2.1 ∧ q30 = (↑y.1 : Int) ∧ x_2.2 ++ q29 = y.2 ∧ q25) ∧ (q28 = false → ((inK IntKind.i64 q26 ∧ True ∧ True) ∧ True) ∧ ∃ (y : Nat × List Sp.LEv), (y.1 ≤ q10 ∧ y.2 = Sp.Ax.evs q0 (List.take y.1 x.1.1)) ∧ q10 - y.1 < q10 - x_1.1 ∧ q26 = (↑y.1 : Int) ∧ x_2.2 = y.2 ∧ q15)) ∧
                        (q18 = false → q2 ∧ x_1.2 = q9)) := by kernel_rfl
theorem vc38 : (funI C38 (stpQ C38) S38 L38 Try.f38) = (
let q0 : Prop := True ∧ True ∧ True;
let q1 : Int := (0 : Int);
let q2 : Int × Unit := (q1, ());
let q3 : Prop := True ∧ q0;
∀ (x : (List (Int × (Int × Int × Int × Unit) × Int × Unit) × List Int × List (List Int) × List Int × Unit) × Int × Unit),
  let q4 : Prop := inN x.2.1 x.1.1.length;
  let q5 : Prop := inN x.2.1 x.1.2.1.length;
  let q6 : Nat := x.1.2.2.1.length;
  let q7 : Int := (x.1.1.getD x.2.1.toNat (q1, (q1, q1, q2), q2)).2.1.2.1;
  let q8 : List Int := x.1.2.2.1.getD q7.toNat (([] : List Go.User.tI.den));
  q4 ∧ q5 ∧ inN (Sp.Ax.ev x.1.1 x.2.1).2.1.2.1 q6 → dFact (((Ty.int IntKind.i64).prod (((Ty.int IntKind.i64).prod ((Ty.int IntKind.i64).prod ((Ty.int IntKind.i64).prod Ty.unit))).prod ((Ty.int IntKind.i64).prod Ty.unit))).slice.prod ((Ty.int IntKind.i64).slice.prod ((Ty.int IntKind.i64).slice.slice.prod ((Ty.int IntKind.i64).slice.prod Ty.unit)))) x.1 ∧ dFact (Ty.int IntKind.i64) x.2.1 ∧ True → (q0 ∧ True) ∧ ((True ∧ True ∧ True ∧ True ∧ True ∧ q4 ∧ True ∧ True ∧ True ∧ inN q7 q6 ∧ q0) ∧ True) ∧ ((True ∧ True ∧ q3) ∧ True ∧ True) ∧ ((True ∧ True ∧ True ∧ True ∧ q5 ∧ q3) ∧ True ∧ True) ∧ ((True ∧ True) ∧ True ∧ True) ∧ (Sp.Ax.idx q8 x.2.1, Sp.Ax.idx q8 (x.1.2.1.getD x.2.1.toNat q1), ()) = Sp.Ax.plc x.1 x.2.1) := by kernel_rfl
theorem vc36 : (∀ q : Nat, funP (C36 q) (stpQ (C36 q)) S36 (L36 q) Try.f36) = (
let q0 : Nat := (6 : Nat);
let q1 : Prop := (True ∧ True) ∧ True;
let q2 : Prop := (True ∧ True ∧ True) ∧ True;
let q3 : List Bool := List.replicate q0 false;
let q4 : Int := (1 : Int);
∀ (q : Nat) (x : List (List Bool)) (y : Unit),
  True →
    dFact (Ty.arr q0 (Ty.arr q0 Ty.bool)) x →
      True →
        q1 ∧
          (∃ (x_1 : Nat × Sp.Rel), (x_1.1 ≤ q0 ∧ x_1.2 = Sp.Ax.closeN x x_1.1) ∧ (0 : Int) = (↑x_1.1 : Int) ∧ x = x_1.2 ∧ True) ∧
            ∀ (x_1 : Nat × Sp.Rel),
              let q5 : Int := (↑x_1.1 : Int);
              let q6 : Bool := decide (q5 < (6 : Int));
              let q7 : Prop := q5 = q5;
              let q8 : Prop := q7 ∧ q7 ∧ True;
              let q9 : Prop := inN q5 q0;
              let q10 : Nat := q5.toNat;
              let q11 : Int := q5 + q4;
              x_1.1 ≤ q0 ∧ x_1.2 = Sp.Ax.closeN x x_1.1 →
                dFact (Ty.int IntKind.i64) q5 ∧ dFact (Ty.arr q0 (Ty.arr q0 Ty.bool)) x_1.2 ∧ True →
                  q1 ∧
                    (q6 = true →
                        q2 ∧
                          q1 ∧
                            (∃ (x_2 : Nat × Sp.Rel), (x_2.1 ≤ q0 ∧ x_2.2 = Sp.Ax.rowA x_1.1 (Sp.Ax.closeN x x_1.1) x_2.1) ∧ (0 : Int) = (↑x_2.1 : Int) ∧ x_1.2 = x_2.2 ∧ q8) ∧
                              ∀ (x_2 : Nat × Sp.Rel),
                                let q12 : List (List Bool) := Sp.Ax.rowA x_1.1 (Sp.Ax.closeN x x_1.1) x_2.1;
                                let q13 : Int := (↑x_2.1 : Int);
                                let q14 : Bool := decide (q13 < (6 : Int));
                                let q15 : Prop := q13 = q13;
                                let q16 : Prop := q7 ∧ q7 ∧ q15 ∧ q15 ∧ True;
                                let q17 : Prop := inN q13 q0;
                                let q18 : Nat := q13.toNat;
                                let q19 : Int := q13 + q4;
                                x_2.1 ≤ q0 ∧ x_2.2 = q12 →
                                  dFact (Ty.int IntKind.i64) q13 ∧ dFact (Ty.arr q0 (Ty.arr q0 Ty.bool)) x_2.2 ∧ True →
                                    q1 ∧
                                      (q14 = true →
                                          q2 ∧
                                            q1 ∧
                                              (∃ (x : Nat × Sp.Rel), (x.1 ≤ q0 ∧ x.2 = Sp.Ax.rowB x_1.1 x_2.1 q12 x.1) ∧ (0 : Int) = (↑x.1 : Int) ∧ x_2.2 = x.2 ∧ q16) ∧
                                                ∀ (x_3 : Nat × Sp.Rel),
                                                  let q20 : Int := (↑x_3.1 : Int);
                                                  let q21 : Bool := decide (q20 < (6 : Int));
                                                  let q22 : Prop := inN q20 q0;
                                                  let q23 : List Bool := List.getD x_3.2 q18 q3;
                                                  let q24 : Nat := q20.toNat;
                                                  let q25 : Bool := q23.getD q24 false;
                                                  let q26 : Bool := true && bif q25 then false else true;
                                                  let q27 : Prop := q26 = true;
                                                  let q28 : Prop := q27 → True;
                                                  let q29 : Bool := q23.getD q10 false;
                                                  let q30 : Prop := (q26 && bif q29 then true else false) = true;
                                                  let q31 : Prop := q30 → True;
                                                  let q32 : Int := q20 + q4;
                                                  x_3.1 ≤ q0 ∧ x_3.2 = Sp.Ax.rowB x_1.1 x_2.1 q12 x_3.1 → dFact (Ty.int IntKind.i64) q20 ∧ dFact (Ty.arr q0 (Ty.arr q0 Ty.bool)) x_3.2 ∧ True → q1 ∧ (q21 = true → q2 ∧ ((True ∧ True ∧ True ∧ True ∧ True ∧ True ∧ True ∧ q17 ∧ q22 ∧ True ∧ True ∧ q28 ∧ q28 ∧ q28 ∧ q28 ∧ (q27 → q17) ∧ (q27 → q9) ∧ q28 ∧ q28 ∧ q31 ∧ q31 ∧ q31 ∧ q31 ∧ (q30 → q9) ∧ (q30 → q22) ∧ q31 ∧ q28 ∧ True ∧ True ∧ q17 ∧ q22 ∧ True) ∧ True ∧ True) ∧ ((inK IntKind.i64 q32 ∧ True ∧ True) ∧ True) ∧ ∃ (y : Nat × Sp.Rel), (y.1 ≤ q0 ∧ y.2 = Sp.Ax.rowB x_1.1 x_2.1 q12 y.1) ∧ q0 - y.1 < q0 - x_3.1 ∧ q32 = (↑y.1 : Int) ∧ List.set x_3.2 q18 (q23.set q24 (bif q25 then true else bif q29 then List.getD (List.getD x_3.2 q10 q3) q24 false else false)) = y.2 ∧ q16) ∧ (q21 = false → ((inK IntKind.i64 q19 ∧ True ∧ True) ∧ True) ∧ ∃ (y : Nat × Sp.Rel), (y.1 ≤ q0 ∧ y.2 = Sp.Ax.rowA x_1.1 (Sp.Ax.closeN x x_1.1) y.1) ∧ q0 - y.1 < q0 - x_2.1 ∧ q19 = (↑y.1 : Int) ∧ x_3.2 = y.2 ∧ q8)) ∧
                                        (q14 = false → ((inK IntKind.i64 q11 ∧ True ∧ True) ∧ True) ∧ ∃ (y : Nat × Sp.Rel), (y.1 ≤ q0 ∧ y.2 = Sp.Ax.closeN x y.1) ∧ q0 - y.1 < q0 - x_1.1 ∧ q11 = (↑y.1 : Int) ∧ x_2.2 = y.2 ∧ True)) ∧
                      (q6 = false → x_1.2 = Sp.Ax.close x ∧ (([] : List Go.ResultVar)).toArray.toList = ([] : List Go.ResultVar) ∧ Ty.unit = Ty.unit)) := by kernel_rfl
theorem vc37 : (funI C37 (stpQ C37) S37 L37 Try.f37) = (
let q0 : Nat := (6 : Nat);
let q1 : Prop := (True ∧ True) ∧ True;
let q2 : Int := (1 : Int);
∀ (x : List (List Bool) × Unit),
  let q3 : Prop := x.1 = x.1 ∧ True;
  True →
    dFact (Ty.arr q0 (Ty.arr q0 Ty.bool)) x.1 ∧ True →
      q1 ∧
        q1 ∧
          (∃ (x_1 : Nat), (x_1 ≤ q0 ∧ ∀ (a : Nat), a < x_1 → Sp.Ax.get2 x.1 a a = false) ∧ (0 : Int) = (↑x_1 : Int) ∧ q3) ∧
            ∀ (x_1 : Nat),
              let q4 : Bool := decide ((↑x_1 : Int) < (6 : Int));
              let q5 : Prop := inN (↑x_1 : Int) q0;
              let q6 : Nat := (↑x_1 : Int).toNat;
              let q7 : Bool := List.getD (x.1.getD q6 (List.replicate q0 false)) q6 false;
              let q8 : Int := (↑x_1 : Int) + q2;
              (x_1 ≤ q0 ∧ ∀ (a : Nat), a < x_1 → Sp.Ax.get2 x.1 a a = false) → dFact (Ty.int IntKind.i64) (↑x_1 : Int) ∧ True → q1 ∧ (q4 = true → ((True ∧ True ∧ True) ∧ True) ∧ ((True ∧ True ∧ True ∧ True ∧ q5 ∧ q5 ∧ True ∧ True) ∧ True) ∧ (q7 = true → q1 ∧ true = Sp.Ax.round x.1) ∧ (q7 = false → ((inK IntKind.i64 q8 ∧ True ∧ True) ∧ True) ∧ ∃ (y : Nat), (y ≤ q0 ∧ ∀ (a : Nat), a < y → Sp.Ax.get2 x.1 a a = false) ∧ q0 - y < q0 - x_1 ∧ q8 = (↑y : Int) ∧ q3)) ∧ (q4 = false → q1 ∧ false = Sp.Ax.round x.1)) := by kernel_rfl
theorem vc35 : (funI C35 (stpQ C35) S35 L35 Try.f35) = (
let q0 : Nat := (6 : Nat);
let q1 : Prop := True ∧ True ∧ True;
let q2 : Prop := q1 ∧ True;
let q3 : Prop := (True ∧ True) ∧ True;
let q4 : Prop := True ∧ q1;
let q5 : Prop := True ∧ q4;
let q6 : Prop := q5 ∧ True;
let q7 : Int := (0 : Int);
let q8 : List Bool := List.replicate q0 false;
let q9 : List (List Bool) := List.replicate q0 q8;
let q10 : Prop := q9 = q9;
let q11 : Int := (1 : Int);
let q12 : Int × Unit := (q7, ());
let q13 : Int × (Int × Int × Int × Unit) × Int × Unit := (q7, (q7, q7, q12), q12);
let q14 : Nat := (1 : Nat);
∀ (x : (List (Int × (Int × Int × Int × Unit) × Int × Unit) × List Int × List (List Int) × List Int × Unit) × Unit),
  let q15 : Nat := x.1.1.length;
  let q16 : List Int := x.1.2.2.2.1;
  let q17 : Prop := x.1 = x.1;
  let q18 : Prop := x.1.1 = x.1.1;
  let q19 : Int := (↑q15 : Int);
  let q20 : Prop := q19 = q19;
  let q21 : Prop := q17 ∧ q10 ∧ q18 ∧ q20 ∧ True;
  let q22 : Nat := q16.length;
  let q23 : Prop := q16 = q16;
  let q24 : Int := (↑q22 : Int);
  let q25 : Prop := q24 = q24;
  let q26 : Prop := q17 ∧ q10 ∧ q23 ∧ q25 ∧ True;
  (q15 ≤ q0 ∧ ∀ (n : Int), n ∈ q16 → inN n q0) →
    dFact (((Ty.int IntKind.i64).prod (((Ty.int IntKind.i64).prod ((Ty.int IntKind.i64).prod ((Ty.int IntKind.i64).prod Ty.unit))).prod ((Ty.int IntKind.i64).prod Ty.unit))).slice.prod ((Ty.int IntKind.i64).slice.prod ((Ty.int IntKind.i64).slice.slice.prod ((Ty.int IntKind.i64).slice.prod Ty.unit)))) x.1 ∧ True →
      q2 ∧
        q3 ∧
          q6 ∧
            (∃ (x_1 : Nat), x_1 ≤ q15 ∧ q7 = (↑x_1 : Int) ∧ q9 = Sp.Ax.mat (Sp.Ax.oA x.1.1 x_1) ∧ q21) ∧
              ∀ (x_1 : Nat),
                let q27 : List (List Bool) := Sp.Ax.mat (Sp.Ax.oA x.1.1 x_1);
                let q28 : Bool := decide ((↑x_1 : Int) < q19);
                let q29 : Int := (↑x_1 : Int) + q11;
                let q30 : Prop := inK IntKind.i64 q29 ∧ True ∧ True;
                let q31 : Prop := (↑x_1 : Int) = (↑x_1 : Int);
                let q32 : Prop := q17 ∧ q10 ∧ q18 ∧ q20 ∧ q31 ∧ q31 ∧ True;
                let q33 : Nat := (↑x_1 : Int).toNat;
                x_1 ≤ q15 →
                  dFact (Ty.int IntKind.i64) (↑x_1 : Int) ∧ dFact (Ty.arr q0 (Ty.arr q0 Ty.bool)) q27 ∧ True →
                    q3 ∧
                      (q28 = true →
                          q2 ∧
                            ((True ∧ q30) ∧ True) ∧
                              (∃ (x_2 : Nat), (x_1 < x_2 ∧ x_2 ≤ q15) ∧ q29 = (↑x_2 : Int) ∧ q27 = Sp.Ax.mat (Sp.Ax.oB x.1.1 x_1 x_2) ∧ q32) ∧
                                ∀ (x_2 : Nat),
                                  let q34 : List (List Bool) := Sp.Ax.mat (Sp.Ax.oB x.1.1 x_1 x_2);
                                  let q35 : Bool := decide ((↑x_2 : Int) < q19);
                                  let q36 : Int := (↑x_2 : Int) + q11;
                                  let q37 : Nat := (↑x_2 : Int).toNat;
                                  x_1 < x_2 ∧ x_2 ≤ q15 → dFact (Ty.int IntKind.i64) (↑x_2 : Int) ∧ dFact (Ty.arr q0 (Ty.arr q0 Ty.bool)) q34 ∧ True → ((True ∧ q5) ∧ True) ∧ (q35 = true → ((True ∧ True ∧ True ∧ True ∧ True ∧ inN (↑x_1 : Int) q15 ∧ True ∧ True ∧ True ∧ True ∧ True ∧ inN (↑x_2 : Int) q15 ∧ True ∧ True ∧ True ∧ inN (↑x_1 : Int) q0 ∧ inN (↑x_2 : Int) q0 ∧ True) ∧ True ∧ True) ∧ ((True ∧ inK IntKind.i64 q36 ∧ True ∧ True) ∧ True) ∧ ∃ (y : Nat), (x_1 < y ∧ y ≤ q15) ∧ q15 - y < q15 - x_2 ∧ q36 = (↑y : Int) ∧ q34.set q33 (List.set (q34.getD q33 q8) q37 ((x.1.1.getD q33 q13).1 == (x.1.1.getD q37 q13).1)) = Sp.Ax.mat (Sp.Ax.oB x.1.1 x_1 y) ∧ q32) ∧ (q35 = false → (q30 ∧ True) ∧ ∃ (y : Nat), y ≤ q15 ∧ q15 - y < q15 - x_1 ∧ q29 = (↑y : Int) ∧ q34 = Sp.Ax.mat (Sp.Ax.oA x.1.1 y) ∧ q21)) ∧
                        (q28 = false →
                          q6 ∧
                            (∃ (x_2 : Nat), x_2 ≤ q22 ∧ q7 = (↑x_2 : Int) ∧ q27 = Sp.Ax.mat (Sp.Ax.oC x.1.1 q16 x_2) ∧ q26) ∧
                              ∀ (x_2 : Nat),
                                let q38 : List (List Bool) := Sp.Ax.mat (Sp.Ax.oC x.1.1 q16 x_2);
                                let q39 : Bool := decide ((↑x_2 : Int) < q24);
                                let q40 : Int := (↑x_2 : Int) + q11;
                                let q41 : Prop := inK IntKind.i64 q40;
                                let q42 : Prop := (↑x_2 : Int) = (↑x_2 : Int);
                                let q43 : Int := q16.getD (↑x_2 : Int).toNat q7;
                                let q44 : List Int := win q40 q24 q16;
                                let q45 : Nat := q44.length;
                                let q46 : Int := (↑q45 : Int);
                                let q47 : Prop := q17 ∧ q10 ∧ q23 ∧ q25 ∧ q42 ∧ q42 ∧ q43 = q43 ∧ q44 = q44 ∧ q46 = q46 ∧ True;
                                let q48 : Nat := q43.toNat;
                                x_2 ≤ q22 →
                                  dFact (Ty.int IntKind.i64) (↑x_2 : Int) ∧ dFact (Ty.arr q0 (Ty.arr q0 Ty.bool)) q38 ∧ True →
                                    q3 ∧
                                      (q39 = true →
                                          ((True ∧ inN (↑x_2 : Int) q22 ∧ q4) ∧ True) ∧
                                            ((True ∧ True ∧ True ∧ q41 ∧ winI q40 q24 q22 ∧ q1) ∧ True) ∧
                                              (∃ (x_3 : Nat), x_2 + q14 + x_3 ≤ q22 ∧ q7 = (↑x_3 : Int) ∧ q38 = Sp.Ax.mat (Sp.Ax.oD x.1.1 q16 x_2 x_3) ∧ q47) ∧
                                                ∀ (x_3 : Nat),
                                                  let q49 : List (List Bool) := Sp.Ax.mat (Sp.Ax.oD x.1.1 q16 x_2 x_3);
                                                  let q50 : Bool := decide ((↑x_3 : Int) < q46);
                                                  let q51 : Int := q44.getD (↑x_3 : Int).toNat q7;
                                                  let q52 : Int := (↑x_3 : Int) + q11;
                                                  x_2 + q14 + x_3 ≤ q22 → dFact (Ty.int IntKind.i64) (↑x_3 : Int) ∧ dFact (Ty.arr q0 (Ty.arr q0 Ty.bool)) q49 ∧ True → q3 ∧ (q50 = true → ((inN (↑x_3 : Int) q45 ∧ q1) ∧ True) ∧ ((True ∧ True ∧ inN q43 q0 ∧ inN q51 q0 ∧ True) ∧ True ∧ True) ∧ ((inK IntKind.i64 q52 ∧ True ∧ True) ∧ True) ∧ ∃ (y : Nat), x_2 + q14 + y ≤ q22 ∧ q22 - y < q22 - x_3 ∧ q52 = (↑y : Int) ∧ q49.set q48 (List.set (q49.getD q48 q8) q51.toNat true) = Sp.Ax.mat (Sp.Ax.oD x.1.1 q16 x_2 y) ∧ q47) ∧ (q50 = false → ((q41 ∧ True ∧ True) ∧ True) ∧ ∃ (y : Nat), y ≤ q22 ∧ q22 - y < q22 - x_2 ∧ q40 = (↑y : Int) ∧ q49 = Sp.Ax.mat (Sp.Ax.oC x.1.1 q16 y) ∧ q26)) ∧
                                        (q39 = false → ((True ∧ True) ∧ True ∧ True) ∧ q38 = Sp.Ax.order x.1))) := by kernel_rfl
theorem vc32 : (funI C32 (stpQ C32) S32 L32 Try.f32) = (
let q0 : List Ty := Go.User.tLOp :: ([] : List Ty);
let q1 : Prop := (True ∧ True) ∧ True;
let q2 : Prop := True ∧ True ∧ True;
let q3 : Prop := (True ∧ q2) ∧ True;
let q4 : Int := (0 : Int);
let q5 : Prop := q0 = q0;
let q6 : Int × Unit := (q4, ());
let q7 : Int × (Int × Int × Int × Unit) × Int × Unit := (q4, (q4, q4, q6), q6);
let q8 : Int := (1 : Int);
∀ (x : List Int × List (Int × (Int × Int × Int × Unit) × Int × Unit) × Fun q0 Ty.bool × Unit),
  let q9 : Nat := x.2.1.length;
  let q10 : Int := (↑q9 : Int);
  let q11 : Nat := x.1.length;
  let q12 : Prop := x.1 = x.1;
  let q13 : Prop := x.2.1 = x.2.1;
  let q14 : Prop := ∃ (h1 : q5), ∃ (h2 : Ty.bool = Ty.bool), x.2.2.1 = x.2.2.1;
  let q15 : Int := (↑q11 : Int);
  let q16 : Prop := q12 ∧ q13 ∧ q14 ∧ q12 ∧ q15 = q15 ∧ True;
  let q17 : Bool := Sp.Ax.isList x.1 x.2.1 fun (o : Sp.LOp) => x.2.2.1.2 (o, ());
  let q18 : Prop := q1 ∧ false = q17;
  let q19 : Prop := q13 ∧ q10 = q10 ∧ True;
  (q9 ≤ (1000 : Nat) ∧ ∀ (o : Int × Int × Int × Unit), x.2.2.1.1 (o, ())) →
    dFact (Ty.int IntKind.i64).slice x.1 ∧ dFact ((Ty.int IntKind.i64).prod (((Ty.int IntKind.i64).prod ((Ty.int IntKind.i64).prod ((Ty.int IntKind.i64).prod Ty.unit))).prod ((Ty.int IntKind.i64).prod Ty.unit))).slice x.2.1 ∧ True →
      q1 ∧
        ((True ∧ True ∧ ((0 : (Ty.int IntKind.i64).den) ≤ q10 ∧ q10 ≤ q10 ∧ q10 ≤ maxNew) ∧ True) ∧ True ∧ True) ∧
          q3 ∧
            (∃ (x_1 : Nat × List Bool),
                let q20 : List Int := List.take x_1.1 x.1;
                (x_1.1 ≤ q11 ∧ x_1.2.length = q9 ∧ (List.take x_1.1 x.1).Nodup ∧ (∀ (n : Int), n ∈ q20 → q4 ≤ n ∧ n < q10 ∧ x.2.2.1.2 ((Sp.Ax.ev x.2.1 n).2.1, ()) = true) ∧ ∀ (n : Nat), n < q9 → (x_1.2.getD n false = true ↔ (↑n : Int) ∈ q20)) ∧ q4 = (↑x_1.1 : Int) ∧ List.replicate q10.toNat false = x_1.2 ∧ q16) ∧
              ∀ (x_1 : Nat × List Bool),
                let q21 : List Int := List.take x_1.1 x.1;
                let q22 : Int := (↑x_1.1 : Int);
                let q23 : Bool := decide (q22 < q15);
                let q24 : Int := x.1.getD q22.toNat q4;
                let q25 : Bool := decide (q24 < q4);
                let q26 : Prop := (true && bif q25 then false else true) = true → True;
                let q27 : Bool := bif q25 then true else decide (q24 ≥ q10);
                let q28 : Prop := (true && bif q27 then false else true) = true;
                let q29 : Prop := q28 → True;
                let q30 : Nat := x_1.2.length;
                let q31 : Prop := inN q24 q30;
                let q32 : Nat := q24.toNat;
                let q33 : Bool := bif q27 then true else x_1.2.getD q32 false;
                let q34 : Prop := (true && bif q33 then false else true) = true;
                let q35 : Prop := q34 → True;
                let q36 : (Int × Int × Int × Unit) × Unit := ((x.2.1.getD q32 q7).2.1, ());
                let q37 : Bool := bif q33 then true else !x.2.2.1.2 q36;
                let q38 : Int := q22 + q8;
                let q39 : Prop := q12 ∧ q13 ∧ q14 ∧ x_1.2 = x_1.2 ∧ q19;
                (x_1.1 ≤ q11 ∧ x_1.2.length = q9 ∧ (List.take x_1.1 x.1).Nodup ∧ (∀ (n : Int), n ∈ q21 → q4 ≤ n ∧ n < q10 ∧ x.2.2.1.2 ((Sp.Ax.ev x.2.1 n).2.1, ()) = true) ∧ ∀ (n : Nat), n < q9 → (x_1.2.getD n false = true ↔ (↑n : Int) ∈ q21)) →
                  dFact (Ty.int IntKind.i64) q22 ∧ dFact Ty.bool.slice x_1.2 ∧ True →
                    q1 ∧
                      (q23 = true →
                          ((inN q22 q11 ∧ q2) ∧ True) ∧
                            ((True ∧ True ∧ True ∧ q26 ∧ q26 ∧ q26 ∧ q26 ∧ True ∧ True ∧ q29 ∧ q29 ∧ (q28 → q31) ∧ q29 ∧ True ∧ True ∧ q35 ∧ q35 ∧ q35 ∧ (q34 → inN q24 q9) ∧ q35 ∧ q35 ∧ (q34 → x.2.2.1.1 q36) ∧ q35 ∧ True ∧ True) ∧ True) ∧
                              (q37 = true → q18) ∧
                                (q37 = false →
                                  ((True ∧ True ∧ q31 ∧ True) ∧ True ∧ True) ∧
                                    ((inK IntKind.i64 q38 ∧ True ∧ True) ∧ True) ∧
                                      ∃ (y : Nat × List Bool),
                                        let q40 : List Int := List.take y.1 x.1;
                                        (y.1 ≤ q11 ∧ y.2.length = q9 ∧ (List.take y.1 x.1).Nodup ∧ (∀ (n : Int), n ∈ q40 → q4 ≤ n ∧ n < q10 ∧ x.2.2.1.2 ((Sp.Ax.ev x.2.1 n).2.1, ()) = true) ∧ ∀ (n : Nat), n < q9 → (y.2.getD n false = true ↔ (↑n : Int) ∈ q40)) ∧ q11 - y.1 < q11 - x_1.1 ∧ q38 = (↑y.1 : Int) ∧ x_1.2.set q32 true = y.2 ∧ q16)) ∧
                        (q23 = false →
                          q3 ∧
                            (∃ (x_2 : Nat), (x_2 ≤ q9 ∧ ∀ (n : Nat), n < x_2 → x.2.2.1.2 ((Sp.Ax.ev x.2.1 (↑n : Int)).2.1, ()) = true → (↑n : Int) ∈ x.1) ∧ q4 = (↑x_2 : Int) ∧ q39) ∧
                              ∀ (x_2 : Nat),
                                let q41 : Bool := decide ((↑x_2 : Int) < q10);
                                let q42 : Nat := (↑x_2 : Int).toNat;
                                let q43 : (Int × Int × Int × Unit) × Unit := ((x.2.1.getD q42 q7).2.1, ());
                                let q44 : Bool := x.2.2.1.2 q43;
                                let q45 : Prop := (true && bif q44 then true else false) = true;
                                let q46 : Prop := q45 → True;
                                let q47 : Bool := bif q44 then !x_1.2.getD q42 false else false;
                                let q48 : Int := (↑x_2 : Int) + q8;
                                (x_2 ≤ q9 ∧ ∀ (n : Nat), n < x_2 → x.2.2.1.2 ((Sp.Ax.ev x.2.1 (↑n : Int)).2.1, ()) = true → (↑n : Int) ∈ x.1) → dFact (Ty.int IntKind.i64) (↑x_2 : Int) ∧ True → q1 ∧ (q41 = true → (q2 ∧ True) ∧ ((True ∧ True ∧ True ∧ inN (↑x_2 : Int) q9 ∧ True ∧ True ∧ x.2.2.1.1 q43 ∧ True ∧ q46 ∧ q46 ∧ (q45 → inN (↑x_2 : Int) q30) ∧ q46 ∧ q46 ∧ True ∧ True) ∧ True) ∧ (q47 = true → q18) ∧ (q47 = false → ((inK IntKind.i64 q48 ∧ True ∧ True) ∧ True) ∧ ∃ (y : Nat), (y ≤ q9 ∧ ∀ (n : Nat), n < y → x.2.2.1.2 ((Sp.Ax.ev x.2.1 (↑n : Int)).2.1, ()) = true → (↑n : Int) ∈ x.1) ∧ q9 - y < q9 - x_2 ∧ q48 = (↑y : Int) ∧ q39)) ∧ (q41 = false → q1 ∧ true = q17))) := by kernel_rfl
theorem vc28 : (funI C28 (stpQ C28) S28 L28 Try.f28) = (
let q0 : Int := (0 : Int);
let q1 : Nat := (1000 : Nat);
let q2 : Prop := True ∧ True ∧ True;
let q3 : Int := (1 : Int);
∀ (x : (List (List (Int × Int × Int × Unit)) × Unit) × Unit),
  let q4 : List (Int × (Int × Int × Int × Unit) × Int × Unit) := Sp.Ax.evs q0 x.1.1;
  let q5 : Prop := q4.length ≤ q1;
  let q6 : Int := (↑x.1.1.length : Int);
  let q7 : Bool := decide (q6 ≥ q3);
  let q8 : Prop := (true && bif q7 then true else false) = true → True;
  let q9 : Bool := bif q7 then decide (q6 ≤ (4 : Int)) else false;
  let q10 : Prop := (true && bif q9 then true else false) = true → True;
  let q11 : Int := (↑q4.length : Int);
  let q12 : Bool := bif q9 then decide (q11 ≥ q3) else false;
  let q13 : Prop := (true && bif q12 then true else false) = true → True;
  let q14 : Bool := bif q12 then decide (q11 ≤ (6 : Int)) else false;
  let q15 : Prop := (true && bif q14 then true else false) = true;
  let q16 : Prop := q15 → True;
  q5 → dFact (((Ty.int IntKind.i64).prod ((Ty.int IntKind.i64).prod ((Ty.int IntKind.i64).prod Ty.unit))).slice.slice.prod Ty.unit) x.1 ∧ True → (q2 ∧ True) ∧ ((True ∧ q5 ∧ True) ∧ True ∧ True) ∧ ((True ∧ True ∧ True ∧ True ∧ True ∧ q8 ∧ q8 ∧ q8 ∧ q8 ∧ True ∧ True ∧ q10 ∧ q10 ∧ q10 ∧ True ∧ True ∧ q13 ∧ q13 ∧ q13 ∧ True ∧ True ∧ q16 ∧ (q15 → ∀ (e : Int × (Int × Int × Int × Unit) × Int × Unit), True) ∧ q16 ∧ q2) ∧ True) ∧ (bif q14 then !q4.any fun (e : Go.User.tLEv.den) => !Sp.Ax.usual e.2.1 else false) = Sp.Ax.valid x.1) := by kernel_rfl
theorem vc39 : (funI C39 (stpQ C39) S39 L39 Try.f39) = (
let q0 : Prop := True ∧ True ∧ True;
let q1 : Prop := q0 ∧ True;
let q2 : Prop := True ∧ q0;
let q3 : Prop := q2 ∧ True;
let q4 : Int := (0 : Int);
let q5 : Int × Unit := (q4, ());
let q6 : Int × (Int × Int × Int × Unit) × Int × Unit := (q4, (q4, q4, q5), q5);
let q7 : Prop := (True ∧ True) ∧ True;
∀ (x : (List (Int × (Int × Int × Int × Unit) × Int × Unit) × List Int × List (List Int) × List Int × Unit) × Int × Int × Unit),
  let q8 : Nat := x.1.1.length;
  let q9 : Nat := x.1.2.1.length;
  let q10 : Int := (Sp.Ax.ev x.1.1 x.2.1).2.1.2.1;
  let q11 : Nat := x.1.2.2.1.length;
  let q12 : Int := (Sp.Ax.ev x.1.1 x.2.2.1).2.1.2.1;
  let q13 : Nat := x.1.1.length;
  let q14 : Prop := inN x.2.1 q13;
  let q15 : Nat := x.1.2.1.length;
  let q16 : Nat := x.1.2.2.1.length;
  let q17 : Prop := inN x.2.2.1 q13;
  let q18 : Bool := Sp.Ax.writes (x.1.1.getD x.2.1.toNat q6).2.1;
  let q19 : Nat := x.2.2.1.toNat;
  let q20 : Int × Int × Int × Unit := (x.1.1.getD q19 q6).2.1;
  let q21 : Bool := Sp.Ax.reads q20;
  let q22 : Prop := (true && bif q21 then true else false) = true → True;
  let q23 : Prop := (True ∧ True ∧ True ∧ q22 ∧ q22 ∧ q22 ∧ q22 ∧ q0) ∧ True;
  let q24 : List Int := x.1.2.2.1.getD q12.toNat (([] : List Int));
  let q25 : Int := Sp.Ax.idx q24 (x.1.2.1.getD q19 q4);
  let q26 : List Int := x.1.2.2.1.getD q10.toNat (([] : List Int));
  let q27 : Int := Sp.Ax.idx q26 x.2.1;
  let q28 : Bool := bif q21 then decide (q25 < q27) else false;
  let q29 : Bool := Sp.Ax.coh x.1 x.2.1 x.2.2.1;
  let q30 : Prop := q7 ∧ false = q29;
  let q31 : Bool := Sp.Ax.writes q20;
  let q32 : Prop := (true && bif q31 then true else false) = true → True;
  let q33 : Prop := (True ∧ True ∧ True ∧ q32 ∧ q32 ∧ q32 ∧ q32 ∧ q0) ∧ True;
  let q34 : Int := Sp.Ax.idx q24 x.2.2.1;
  let q35 : Bool := bif q31 then decide (q34 ≤ q27) else false;
  let q36 : Prop := q7 ∧ true = q29;
  let q37 : Int := Sp.Ax.idx q26 (x.1.2.1.getD x.2.1.toNat q4);
  let q38 : Bool := bif q21 then decide (q25 < q37) else false;
  let q39 : Bool := bif q31 then decide (q34 ≤ q37) else false;
  (inN x.2.1 q8 ∧ inN x.2.1 q9 ∧ inN q10 q11) ∧ inN x.2.2.1 q8 ∧ inN x.2.2.1 q9 ∧ inN q12 q11 → dFact (((Ty.int IntKind.i64).prod (((Ty.int IntKind.i64).prod ((Ty.int IntKind.i64).prod ((Ty.int IntKind.i64).prod Ty.unit))).prod ((Ty.int IntKind.i64).prod Ty.unit))).slice.prod ((Ty.int IntKind.i64).slice.prod ((Ty.int IntKind.i64).slice.slice.prod ((Ty.int IntKind.i64).slice.prod Ty.unit)))) x.1 ∧ dFact (Ty.int IntKind.i64) x.2.1 ∧ dFact (Ty.int IntKind.i64) x.2.2.1 ∧ True → q1 ∧ ((True ∧ True ∧ (q14 ∧ inN x.2.1 q15 ∧ inN q10 q16) ∧ True ∧ True ∧ (q17 ∧ inN x.2.2.1 q15 ∧ inN q12 q16) ∧ q0) ∧ q0) ∧ (True ∧ True ∧ True ∧ q14 ∧ True ∧ True ∧ True ∧ True ∧ True ∧ q17 ∧ True ∧ q2) ∧ q3 ∧ q1 ∧ (q18 = true → q3 ∧ q23 ∧ (q28 = true → q30) ∧ (q28 = false → q33 ∧ (q35 = true → q30) ∧ (q35 = false → q36))) ∧ (q18 = false → q23 ∧ (q38 = true → q30) ∧ (q38 = false → q33 ∧ (q39 = true → q30) ∧ (q39 = false → q36)))) := by kernel_rfl
theorem vc17 : (funI C17 (stpQ C17) S17 L17 Try.f17) = (
let q0 : Int := (0 : Int);
let q1 : Nat := (1000 : Nat);
let q2 : Prop := True ∧ True ∧ True;
let q3 : Prop := True ∧ q2;
let q4 : Prop := q3 ∧ True;
let q5 : Int := (3 : Int);
let q6 : Prop := (True ∧ True) ∧ True;
let q7 : Prop := ([] : List Step) = ([] : List Step);
let q8 : Int × Unit := (q0, ());
let q9 : Int × (Int × Int × Int × Unit) × Int × Unit := (q0, (q0, q0, q8), q8);
let q10 : Int := (1 : Int);
let q11 : Prop := (True ∧ q3) ∧ True;
let q12 : Nat := (3 : Nat);
∀ (x : (List (List (Int × Int × Int × Unit)) × Unit) × (List (Int × (Int × Int × Int × Unit) × Int × Unit) × List Int × List (List Int) × List Int × Unit) × Unit),
  let q13 : List (Int × (Int × Int × Int × Unit) × Int × Unit) := Sp.Ax.evs q0 x.1.1;
  let q14 : Nat := q13.length;
  let q15 : Prop := q14 ≤ q1;
  let q16 : Bool := !Sp.Ax.valid x.1;
  let q17 : Prop := (true && bif q16 then false else true) = true → True;
  let q18 : Nat := x.2.1.1.length;
  let q19 : Int := (↑q18 : Int);
  let q20 : Nat := q13.length;
  let q21 : Int := (↑q20 : Int);
  let q22 : Bool := bif q16 then true else q19 != q21;
  let q23 : Prop := (true && bif q22 then false else true) = true → True;
  let q24 : Nat := x.2.1.2.1.length;
  let q25 : Bool := bif q22 then true else (↑q24 : Int) != q21;
  let q26 : Prop := (true && bif q25 then false else true) = true → True;
  let q27 : List (List Int) := x.2.1.2.2.1;
  let q28 : Nat := q27.length;
  let q29 : Bool := bif q25 then true else (↑q28 : Int) != q5;
  let q30 : Bool := Sp.Ax.right x.1 x.2.1;
  let q31 : Prop := q6 ∧ false = q30;
  let q32 : Prop := x.1 = x.1;
  let q33 : Prop := x.2.1 = x.2.1;
  let q34 : Prop := q13 = q13;
  let q35 : Prop := q32 ∧ q33 ∧ q34 ∧ q7 ∧ q21 = q21 ∧ True;
  let q36 : Prop := q32 ∧ q33 ∧ q34 ∧ x.2.1.1 = x.2.1.1 ∧ q19 = q19 ∧ True;
  let q37 : Prop := q32 ∧ q33 ∧ q34 ∧ True;
  let q38 : Prop := True ∧ (q20 ≤ q1 ∧ ∀ (o : Int × Int × Int × Unit), True) ∧ True ∧ True;
  q15 →
    dFact (((Ty.int IntKind.i64).prod ((Ty.int IntKind.i64).prod ((Ty.int IntKind.i64).prod Ty.unit))).slice.slice.prod Ty.unit) x.1 ∧ dFact (((Ty.int IntKind.i64).prod (((Ty.int IntKind.i64).prod ((Ty.int IntKind.i64).prod ((Ty.int IntKind.i64).prod Ty.unit))).prod ((Ty.int IntKind.i64).prod Ty.unit))).slice.prod ((Ty.int IntKind.i64).slice.prod ((Ty.int IntKind.i64).slice.slice.prod ((Ty.int IntKind.i64).slice.prod Ty.unit)))) x.2.1 ∧ True →
      q4 ∧
        ((True ∧ q15 ∧ True) ∧ True ∧ True) ∧
          ((True ∧ q15 ∧ True ∧ True ∧ q17 ∧ q17 ∧ q17 ∧ q17 ∧ q17 ∧ q17 ∧ True ∧ True ∧ q23 ∧ q23 ∧ q23 ∧ q23 ∧ q23 ∧ q23 ∧ True ∧ True ∧ q26 ∧ q26 ∧ q26 ∧ q26 ∧ True ∧ True) ∧ True) ∧
            (q29 = true → q31) ∧
              (q29 = false →
                q4 ∧
                  (∃ (x_1 : Nat), (x_1 ≤ q14 ∧ ∀ (n : Nat), n < x_1 → Sp.Ax.src q13 x.2.1 n) ∧ q0 = (↑x_1 : Int) ∧ q35) ∧
                    ∀ (x_1 : Nat),
                      let q39 : Bool := decide ((↑x_1 : Int) < q21);
                      let q40 : Nat := (↑x_1 : Int).toNat;
                      let q41 : Int × (Int × Int × Int × Unit) × Int × Unit := x.2.1.1.getD q40 q9;
                      let q42 : Int × (Int × Int × Int × Unit) × Int × Unit := q13.getD q40 q9;
                      let q43 : (Int × Int × Int × Unit) × Int × Unit := q41.2;
                      let q44 : Int × Int × Int × Unit := q43.1;
                      let q45 : Int × Int × Int × Unit := q42.2.1;
                      let q46 : Int × Int × Unit := q44.2;
                      let q47 : Int × Int × Unit := q45.2;
                      let q48 : Int := q47.1;
                      let q49 : Int := q43.2.1;
                      let q50 : Bool := !(decide (q41.1 = q42.1) && (decide (q44.1 = q45.1) && (decide (q46.1 = q48) && (decide (q46.2.1 = q47.2.1) && true)) && (decide (q49 = q49) && true)));
                      let q51 : Prop := (true && bif q50 then false else true) = true → True;
                      let q52 : Int := x.2.1.2.1.getD q40 q0;
                      let q53 : Bool := bif q50 then true else decide (q52 < -q10);
                      let q54 : Prop := (true && bif q53 then false else true) = true → True;
                      let q55 : Bool := bif q53 then true else decide (q52 ≥ q21);
                      let q56 : Bool := decide (q52 ≥ q0);
                      let q57 : Bool := true && bif q56 then true else false;
                      let q58 : Prop := q57 = true → True;
                      let q59 : Bool := !Sp.Ax.reads q45;
                      let q60 : Prop := (q57 && bif q59 then false else true) = true;
                      let q61 : Prop := q60 → True;
                      let q62 : Prop := inN q52 q20;
                      let q63 : Int × Int × Int × Unit := (q13.getD q52.toNat q9).2.1;
                      let q64 : Bool := bif q59 then true else !Sp.Ax.writes q63;
                      let q65 : Prop := (q57 && bif q64 then false else true) = true;
                      let q66 : Prop := q65 → True;
                      let q67 : Bool := bif q56 then bif q64 then true else q63.2.1 != q48 else false;
                      let q68 : Int := (↑x_1 : Int) + q10;
                      (x_1 ≤ q14 ∧ ∀ (n : Nat), n < x_1 → Sp.Ax.src q13 x.2.1 n) →
                        dFact (Ty.int IntKind.i64) (↑x_1 : Int) ∧ True →
                          q6 ∧
                            (q39 = true → ((True ∧ inN (↑x_1 : Int) q20 ∧ q3) ∧ True ∧ True) ∧ ((True ∧ True ∧ True ∧ inN (↑x_1 : Int) q18 ∧ q2) ∧ True ∧ True) ∧ ((True ∧ True ∧ True ∧ inN (↑x_1 : Int) q24 ∧ q2) ∧ True) ∧ (q3 ∧ True ∧ True) ∧ ((True ∧ True ∧ True ∧ True ∧ q51 ∧ q51 ∧ True ∧ True ∧ q54 ∧ q54 ∧ q54 ∧ q54 ∧ True ∧ True) ∧ True) ∧ (q55 = true → q31) ∧ (q55 = false → ((True ∧ True ∧ True ∧ q58 ∧ q58 ∧ q58 ∧ q58 ∧ q58 ∧ q61 ∧ q61 ∧ (q60 → q62) ∧ q61 ∧ q61 ∧ q61 ∧ q61 ∧ q58 ∧ q58 ∧ q66 ∧ q66 ∧ (q65 → q62) ∧ q66 ∧ q66 ∧ q66 ∧ q66 ∧ q66 ∧ q66 ∧ q66 ∧ q58 ∧ True ∧ True) ∧ True) ∧ (q67 = true → q31) ∧ (q67 = false → ((inK IntKind.i64 q68 ∧ True ∧ True) ∧ True) ∧ ∃ (y : Nat), (y ≤ q14 ∧ ∀ (n : Nat), n < y → Sp.Ax.src q13 x.2.1 n) ∧ q14 - y < q14 - x_1 ∧ q68 = (↑y : Int) ∧ q35))) ∧
                              (q39 = false →
                                q11 ∧
                                  (∃ (x_2 : Nat), (x_2 ≤ q18 ∧ ∀ (n : Nat), n < x_2 → Sp.Ax.got x.2.1 n) ∧ q0 = (↑x_2 : Int) ∧ q36) ∧
                                    ∀ (x_2 : Nat),
                                      let q69 : Bool := decide ((↑x_2 : Int) < q19);
                                      let q70 : Nat := (↑x_2 : Int).toNat;
                                      let q71 : (Int × Int × Int × Unit) × Int × Unit := (x.2.1.1.getD q70 q9).2;
                                      let q72 : Bool := Sp.Ax.reads q71.1;
                                      let q73 : Int := x.2.1.2.1.getD q70 q0;
                                      let q74 : Int := q71.2.1;
                                      let q75 : Bool := q74 != Sp.Ax.value x.2.1.1 q73;
                                      let q76 : Int := (↑x_2 : Int) + q10;
                                      let q77 : Prop := ((inK IntKind.i64 q76 ∧ True ∧ True) ∧ True) ∧ ∃ (y : Nat), (y ≤ q18 ∧ ∀ (n : Nat), n < y → Sp.Ax.got x.2.1 n) ∧ q18 - y < q18 - x_2 ∧ q76 = (↑y : Int) ∧ q36;
                                      let q78 : Bool := q74 != q0;
                                      (x_2 ≤ q18 ∧ ∀ (n : Nat), n < x_2 → Sp.Ax.got x.2.1 n) →
                                        dFact (Ty.int IntKind.i64) (↑x_2 : Int) ∧ True →
                                          q6 ∧
                                            (q69 = true → ((True ∧ inN (↑x_2 : Int) q18 ∧ q3) ∧ True ∧ True) ∧ q6 ∧ q4 ∧ (q72 = true → ((True ∧ True ∧ True ∧ True ∧ inN (↑x_2 : Int) q24 ∧ True ∧ q73 < q19 ∧ True ∧ True) ∧ True) ∧ q11 ∧ (q75 = true → q31) ∧ (q75 = false → q77)) ∧ (q72 = false → q11 ∧ (q78 = true → q31) ∧ (q78 = false → q77))) ∧
                                              (q69 = false →
                                                q6 ∧
                                                  (∃ (x : Nat), (x ≤ q12 ∧ ∀ (p : Nat), p < x → (Sp.Ax.isList (q27.getD p (([] : List Int))) q13 fun (o : Sp.LOp) => Sp.Ax.writes o && decide (o.2.1 = (↑p : Int))) = true) ∧ q0 = (↑x : Int) ∧ q37) ∧
                                                    ∀ (x_3 : Nat),
                                                      let q79 : Bool := decide ((↑x_3 : Int) < q5);
                                                      let q80 : Bool := !Sp.Ax.isList (q27.getD (↑x_3 : Int).toNat (([] : List Go.User.tI.den))) q13 fun (o : Sp.LOp) => Sp.Ax.writes o && decide (o.2.1 = (↑x_3 : Int));
                                                      let q81 : Int := (↑x_3 : Int) + q10;
                                                      (x_3 ≤ q12 ∧ ∀ (p : Nat), p < x_3 → (Sp.Ax.isList (q27.getD p (([] : List Int))) q13 fun (o : Sp.LOp) => Sp.Ax.writes o && decide (o.2.1 = (↑p : Int))) = true) → dFact (Ty.int IntKind.i64) (↑x_3 : Int) ∧ True → q6 ∧ (q79 = true → (q2 ∧ True ∧ True) ∧ ((True ∧ True ∧ True ∧ inN (↑x_3 : Int) q28 ∧ q2) ∧ q38) ∧ (q80 = true → q31) ∧ (q80 = false → ((inK IntKind.i64 q81 ∧ True ∧ True) ∧ True) ∧ ∃ (y : Nat), (y ≤ q12 ∧ ∀ (p : Nat), p < y → (Sp.Ax.isList (q27.getD p (([] : List Int))) q13 fun (o : Sp.LOp) => Sp.Ax.writes o && decide (o.2.1 = (↑p : Int))) = true) ∧ q12 - y < q12 - x_3 ∧ q81 = (↑y : Int) ∧ q37)) ∧ (q79 = false → ((True ∧ True ∧ q38) ∧ True) ∧ (Sp.Ax.isList x.2.1.2.2.2.1 q13 fun (o : Sp.LOp) => decide (o.1 = (4 : Go.User.tI.den))) = q30))))) := by kernel_rfl
theorem vc18 : (funI C18 (stpQ C18) S18 L18 Try.f18) = (
let q0 : Int := (0 : Int);
let q1 : Nat := (1000 : Nat);
let q2 : Prop := True ∧ True ∧ True;
let q3 : Prop := True ∧ q2;
let q4 : Prop := (True ∧ True) ∧ True;
let q5 : Nat := (6 : Nat);
let q6 : Prop := (True ∧ q3) ∧ True;
let q7 : Int := (1 : Int);
let q8 : List Bool := List.replicate q5 false;
let q9 : Int × Unit := (q0, ());
let q10 : Int × (Int × Int × Int × Unit) × Int × Unit := (q0, (q0, q0, q9), q9);
let q11 : Int := (4 : Int);
∀ (x : (List (List (Int × Int × Int × Unit)) × Unit) × (List (Int × (Int × Int × Int × Unit) × Int × Unit) × List Int × List (List Int) × List Int × Unit) × Unit),
  let q12 : Prop := (Sp.Ax.evs q0 x.1.1).length ≤ q1;
  let q13 : Bool := !Sp.Ax.right x.1 x.2.1;
  let q14 : Bool := Sp.Ax.allowed x.1 x.2.1;
  let q15 : Prop := q4 ∧ false = q14;
  let q16 : Nat := x.2.1.1.length;
  let q17 : Nat := x.2.1.2.1.length;
  let q18 : Prop := x.1 = x.1;
  let q19 : Prop := x.2.1 = x.2.1;
  let q20 : Int := (↑q17 : Int);
  let q21 : Prop := q18 ∧ q19 ∧ Sp.Ax.order x.2.1 = Sp.Ax.order x.2.1 ∧ x.2.1.2.1 = x.2.1.2.1 ∧ q20 = q20 ∧ True;
  let q22 : List (List Bool) := Sp.Ax.close (Sp.Ax.order x.2.1);
  let q23 : Prop := q22 = q22;
  let q24 : Prop := x.2.1.1 = x.2.1.1;
  let q25 : Int := (↑q16 : Int);
  let q26 : Prop := q25 = q25;
  let q27 : Prop := q24 ∧ q26 ∧ True;
  let q28 : Prop := q18 ∧ q19 ∧ q23 ∧ q27;
  let q29 : List (List Int) := x.2.1.2.2.1;
  let q30 : Nat := x.2.1.1.length;
  let q31 : Nat := x.2.1.2.1.length;
  let q32 : Nat := q29.length;
  q12 →
    dFact (((Ty.int IntKind.i64).prod ((Ty.int IntKind.i64).prod ((Ty.int IntKind.i64).prod Ty.unit))).slice.slice.prod Ty.unit) x.1 ∧ dFact (((Ty.int IntKind.i64).prod (((Ty.int IntKind.i64).prod ((Ty.int IntKind.i64).prod ((Ty.int IntKind.i64).prod Ty.unit))).prod ((Ty.int IntKind.i64).prod Ty.unit))).slice.prod ((Ty.int IntKind.i64).slice.prod ((Ty.int IntKind.i64).slice.slice.prod ((Ty.int IntKind.i64).slice.prod Ty.unit)))) x.2.1 ∧ True →
      (q3 ∧ True) ∧
        ((True ∧ True ∧ q12 ∧ True ∧ True) ∧ True) ∧
          (q13 = true → q15) ∧
            (q13 = false →
              ((True ∧ (q16 ≤ q5 ∧ ∀ (n : Int), n ∈ x.2.1.2.2.2.1 → inN n q5) ∧ True ∧ True) ∧ True ∧ True) ∧
                (q2 ∧ True ∧ True) ∧
                  q6 ∧
                    (∃ (x_1 : Nat), x_1 ≤ q17 ∧ q0 = (↑x_1 : Int) ∧ Sp.Ax.order x.2.1 = Sp.Ax.mat (Sp.Ax.flowN x.2.1 x_1) ∧ q21) ∧
                      ∀ (x_1 : Nat),
                        let q33 : List (List Bool) := Sp.Ax.mat (Sp.Ax.flowN x.2.1 x_1);
                        let q34 : Bool := decide ((↑x_1 : Int) < q20);
                        let q35 : Nat := (↑x_1 : Int).toNat;
                        let q36 : Int := x.2.1.2.1.getD q35 q0;
                        let q37 : Bool := decide (q36 ≥ q0);
                        let q38 : Int := (↑x_1 : Int) + q7;
                        let q39 : Prop := (inK IntKind.i64 q38 ∧ True ∧ True) ∧ True;
                        let q40 : Nat := q36.toNat;
                        let q41 : Bool := Sp.Ax.round (Sp.Ax.close q33);
                        x_1 ≤ q17 →
                          dFact (Ty.int IntKind.i64) (↑x_1 : Int) ∧ dFact (Ty.arr q5 (Ty.arr q5 Ty.bool)) q33 ∧ True →
                            q4 ∧
                              (q34 = true → ((True ∧ inN (↑x_1 : Int) q17 ∧ q3) ∧ True) ∧ (q2 ∧ True) ∧ (q37 = true → ((True ∧ True ∧ inN q36 q5 ∧ inN (↑x_1 : Int) q5 ∧ True) ∧ True ∧ True) ∧ q39 ∧ ∃ (y : Nat), y ≤ q17 ∧ q17 - y < q17 - x_1 ∧ q38 = (↑y : Int) ∧ q33.set q40 (List.set (q33.getD q40 q8) q35 true) = Sp.Ax.mat (Sp.Ax.flowN x.2.1 y) ∧ q21) ∧ (q37 = false → q39 ∧ ∃ (y : Nat), y ≤ q17 ∧ q17 - y < q17 - x_1 ∧ q38 = (↑y : Int) ∧ q33 = Sp.Ax.mat (Sp.Ax.flowN x.2.1 y) ∧ q21)) ∧
                                (q34 = false →
                                  q2 ∧
                                    q2 ∧
                                      q4 ∧
                                        (q41 = true → q15) ∧
                                          (q41 = false →
                                            q6 ∧
                                              (∃ (x_2 : Nat), (x_2 ≤ q16 ∧ ∀ (a : Nat), a < x_2 → Sp.Ax.okEv x.2.1 a) ∧ q0 = (↑x_2 : Int) ∧ q28) ∧
                                                ∀ (x_2 : Nat),
                                                  let q42 : Bool := decide ((↑x_2 : Int) < q25);
                                                  let q43 : Prop := inN (↑x_2 : Int) q16;
                                                  let q44 : Nat := (↑x_2 : Int).toNat;
                                                  let q45 : Int × (Int × Int × Int × Unit) × Int × Unit := x.2.1.1.getD q44 q10;
                                                  let q46 : Int × Int × Int × Unit := q45.2.1;
                                                  let q47 : Int := q46.1;
                                                  let q48 : Bool := q47 == q11;
                                                  let q49 : Int := (↑x_2 : Int) + q7;
                                                  let q50 : Prop := ((inK IntKind.i64 q49 ∧ True ∧ True) ∧ True) ∧ ∃ (y : Nat), (y ≤ q16 ∧ ∀ (a : Nat), a < y → Sp.Ax.okEv x.2.1 a) ∧ q16 - y < q16 - x_2 ∧ q49 = (↑y : Int) ∧ q28;
                                                  let q51 : Int := (Sp.Ax.ev x.2.1.1 (↑x_2 : Int)).2.1.2.1;
                                                  let q52 : Bool := q47 == (3 : Int);
                                                  let q53 : Prop := (true && bif q52 then true else false) = true;
                                                  let q54 : Prop := q53 → True;
                                                  let q55 : List Int := q29.getD q51.toNat (([] : List Int));
                                                  let q56 : Int := Sp.Ax.idx q55 (↑x_2 : Int) - q7;
                                                  let q57 : Bool := bif q52 then Sp.Ax.idx q55 (x.2.1.2.1.getD q44 q0) != q56 else false;
                                                  let q58 : Prop := (↑x_2 : Int) = (↑x_2 : Int);
                                                  let q59 : Prop := q18 ∧ q19 ∧ q23 ∧ q24 ∧ q26 ∧ q58 ∧ q58 ∧ q45 = q45 ∧ q27;
                                                  (x_2 ≤ q16 ∧ ∀ (a : Nat), a < x_2 → Sp.Ax.okEv x.2.1 a) →
                                                    dFact (Ty.int IntKind.i64) (↑x_2 : Int) ∧ True →
                                                      q4 ∧
                                                        (q42 = true →
                                                            ((True ∧ q43 ∧ q3) ∧ True ∧ True) ∧
                                                              q6 ∧
                                                                (q48 = true → q50) ∧
                                                                  (q48 = false →
                                                                    ((True ∧ True ∧ (q43 ∧ inN (↑x_2 : Int) q17 ∧ inN q51 q29.length) ∧ True ∧ True) ∧ True ∧ True) ∧
                                                                      ((True ∧ True ∧ True ∧ True ∧ True ∧ q54 ∧ q54 ∧ q54 ∧ q54 ∧ (q53 → inK IntKind.i64 q56) ∧ q54 ∧ True ∧ True) ∧ True) ∧
                                                                        (q57 = true → q15) ∧
                                                                          (q57 = false →
                                                                            q6 ∧
                                                                              (∃ (x_3 : Nat), (x_3 ≤ q16 ∧ ∀ (b : Nat), b < x_3 → Sp.Ax.badPair x.2.1 x_2 b = false) ∧ q0 = (↑x_3 : Int) ∧ q59) ∧
                                                                                ∀ (x_3 : Nat),
                                                                                  let q60 : Bool := decide ((↑x_3 : Int) < q25);
                                                                                  let q61 : Nat := (↑x_3 : Int).toNat;
                                                                                  let q62 : Bool := List.getD (q22.getD q44 q8) q61 false;
                                                                                  let q63 : Prop := (true && bif q62 then true else false) = true → True;
                                                                                  let q64 : Int × Int × Int × Unit := (x.2.1.1.getD q61 q10).2.1;
                                                                                  let q65 : Bool := bif q62 then q64.1 != q11 else false;
                                                                                  let q66 : Prop := (true && bif q65 then true else false) = true → True;
                                                                                  let q67 : Bool := bif q65 then q46.2.1 == q64.2.1 else false;
                                                                                  let q68 : Prop := (true && bif q67 then true else false) = true;
                                                                                  let q69 : Prop := q68 → True;
                                                                                  let q70 : Bool := bif q67 then !Sp.Ax.coh x.2.1 (↑x_2 : Int) (↑x_3 : Int) else false;
                                                                                  let q71 : Int := (↑x_3 : Int) + q7;
                                                                                  (x_3 ≤ q16 ∧ ∀ (b : Nat), b < x_3 → Sp.Ax.badPair x.2.1 x_2 b = false) → dFact (Ty.int IntKind.i64) (↑x_3 : Int) ∧ True → q4 ∧ (q60 = true → ((True ∧ inN (↑x_3 : Int) q16 ∧ q3) ∧ True ∧ True) ∧ ((True ∧ True ∧ inN (↑x_2 : Int) q5 ∧ inN (↑x_3 : Int) q5 ∧ True ∧ True ∧ q63 ∧ q63 ∧ q63 ∧ q63 ∧ True ∧ True ∧ q66 ∧ q66 ∧ q66 ∧ q66 ∧ q66 ∧ q66 ∧ q66 ∧ True ∧ True ∧ q69 ∧ q69 ∧ q69 ∧ (q68 → (inN (↑x_2 : Int) q30 ∧ inN (↑x_2 : Int) q31 ∧ inN q51 q32) ∧ inN (↑x_3 : Int) q30 ∧ inN (↑x_3 : Int) q31 ∧ inN (Sp.Ax.ev x.2.1.1 (↑x_3 : Int)).2.1.2.1 q32) ∧ q69 ∧ True ∧ True) ∧ True) ∧ (q70 = true → q15) ∧ (q70 = false → ((inK IntKind.i64 q71 ∧ True ∧ True) ∧ True) ∧ ∃ (y : Nat), (y ≤ q16 ∧ ∀ (b : Nat), b < y → Sp.Ax.badPair x.2.1 x_2 b = false) ∧ q16 - y < q16 - x_3 ∧ q71 = (↑y : Int) ∧ q59)) ∧ (q60 = false → q50)))) ∧
                                                          (q42 = false → q4 ∧ true = q14))))) := by kernel_rfl
end Go.User.Ax
