/- Right, Allowed, coherent: the functions compute what they should. Graphs out of bytes; fixed examples: what is computed. -/
import Derived.Test.YtmoonjcbljefaaaLfk
set_option linter.unusedVariables false
set_option linter.unusedSimpArgs false
namespace Sp
theorem idx_range (l : List Int) (n : Int) : -1 ≤ idx l n ∧ idx l n < l.length := by
  unfold idx
  split
  · rename_i h
    have := List.idxOf_lt_length_iff.2 h
    omega
  · omega
theorem usual_X {o : LOp} (h : usual o = true) : 0 ≤ o.2.1 ∧ o.2.1 < 3 := by
  unfold usual at h
  split at h
  · simp only [Bool.and_eq_true, decide_eq_true_eq] at h; omega
  · split at h
    · simp only [Bool.and_eq_true, decide_eq_true_eq] at h; omega
    · split at h
      · simp only [Bool.and_eq_true, decide_eq_true_eq] at h; omega
      · cases h
structure RightP (t : Lit) (g : Gr) : Prop where
  valid : valid t = true
  lenE : g.1.length = (evs 0 t.1).length
  lenF : g.2.1.length = (evs 0 t.1).length
  lenM : g.2.2.1.length = 3
  src : ∀ n < (evs 0 t.1).length, src (evs 0 t.1) g n
  got : ∀ n < g.1.length, got g n
  mo : ∀ p < 3, isList (g.2.2.1.getD p []) (evs 0 t.1) (fun o => writes o && decide (o.2.1 = (p : Int))) = true
  fo : isList g.2.2.2.1 (evs 0 t.1) (fun o => decide (o.1 = 4)) = true
theorem right_iff (t : Lit) (g : Gr) : right t g = true ↔ RightP t g := by
  unfold right
  simp only [Bool.and_eq_true, decide_eq_true_eq, List.all_eq_true, List.mem_range]
  exact ⟨fun ⟨⟨⟨⟨⟨⟨⟨h1, h2⟩, h3⟩, h4⟩, h5⟩, h6⟩, h7⟩, h8⟩ => ⟨h1, h2, h3, h4, h5, h6, h7, h8⟩, fun ⟨h1, h2, h3, h4, h5, h6, h7, h8⟩ => ⟨⟨⟨⟨⟨⟨⟨h1, h2⟩, h3⟩, h4⟩, h5⟩, h6⟩, h7⟩, h8⟩⟩
theorem right_false {t : Lit} {g : Gr} (h : ¬ RightP t g) : false = right t g := by
  cases hr : right t g
  · rfl
  · exact absurd ((right_iff t g).1 hr) h
theorem valid_ev {t : Lit} (h : valid t = true) : (evs 0 t.1).length ≤ 6 ∧ ∀ x ∈ evs 0 t.1, usual x.2.1 = true := by
  unfold valid at h
  simp only [Bool.and_eq_true, decide_eq_true_eq, List.all_eq_true] at h
  exact ⟨h.1.2, h.2⟩
theorem ev_mem {e : List LEv} {n : Nat} (h : n < e.length) : ev e (n : Int) ∈ e := by
  unfold ev
  rw [Int.toNat_natCast, getD_lt h]
  exact List.getElem_mem h
theorem RightP.ok {t : Lit} {g : Gr} (h : RightP t g) {n : Nat} (hn : n < g.1.length) : Go.User.okAt g n := by
  have hn' : n < (evs 0 t.1).length := h.lenE ▸ hn
  have hu := (valid_ev h.valid).2 _ (ev_mem hn')
  have hs := (h.src n hn').2.1
  rw [← hs] at hu
  have := usual_X hu
  refine ⟨⟨by omega, by omega⟩, ⟨by omega, by have := h.lenF; omega⟩, by omega, by rw [h.lenM]; omega⟩
theorem isList_in {l : List Int} {e : List LEv} {is : LOp → Bool} (h : isList l e is = true) {n : Int} (hn : n ∈ l) : 0 ≤ n ∧ n < e.length ∧ is (ev e n).2.1 = true := by
  unfold isList at h
  simp only [Bool.and_eq_true, decide_eq_true_eq] at h
  exact h.1.2 n hn
theorem flowN_zero (g : Gr) (a b : Nat) : ordF g.1 g.2.2.2.1 a b = flowN g 0 a b := by simp [flowN]
theorem flowN_step {g : Gr} {i ai : Nat} (h : g.2.1.getD i 0 = (ai : Int)) (a b : Nat) : (if a = ai ∧ b = i then true else flowN g i a b) = flowN g (i + 1) a b := by
  rw [Bool.eq_iff_iff]
  simp only [flowN]
  split
  · rename_i hab
    obtain ⟨rfl, rfl⟩ := hab
    simp only [Bool.or_eq_true, Bool.and_eq_true, decide_eq_true_eq, true_iff]
    exact .inr ⟨by omega, h⟩
  · rename_i hab
    simp only [Bool.or_eq_true, Bool.and_eq_true, decide_eq_true_eq]
    constructor
    · rintro (h1 | ⟨h1, h2⟩)
      · exact .inl h1
      · exact .inr ⟨by omega, h2⟩
    · rintro (h1 | ⟨h1, h2⟩)
      · exact .inl h1
      · refine .inr ⟨?_, h2⟩
        rcases Nat.lt_or_ge b i with h3 | h3
        · exact h3
        · have : b = i := by omega
          subst this
          rw [h] at h2
          exact absurd ⟨by omega, rfl⟩ hab
theorem flowN_skip {g : Gr} {i : Nat} (h : g.2.1.getD i 0 < 0) (a b : Nat) : flowN g i a b = flowN g (i + 1) a b := by
  rw [Bool.eq_iff_iff]
  simp only [flowN, Bool.or_eq_true, Bool.and_eq_true, decide_eq_true_eq]
  constructor
  · rintro (h1 | ⟨h1, h2⟩)
    · exact .inl h1
    · exact .inr ⟨by omega, h2⟩
  · rintro (h1 | ⟨h1, h2⟩)
    · exact .inl h1
    · refine .inr ⟨?_, h2⟩
      rcases Nat.lt_or_ge b i with h3 | h3
      · exact h3
      · have : b = i := by omega
        subst this
        omega
theorem allowed_false {t : Lit} {g : Gr} (h : right t g = true → round (flow g) = false → ¬ ∀ a < g.1.length, okEv g a) : false = allowed t g := by
  unfold allowed
  cases h1 : right t g
  · rfl
  · cases h2 : round (flow g)
    · cases h3 : decide (∀ a < g.1.length, okEv g a)
      · rfl
      · exact absurd (of_decide_eq_true h3) (h h1 h2)
    · rfl
end Sp
namespace Go.User
open Go.Lf Go.Proofs

theorem ok31 : FOk Try.prog 31 S31 := by
  have hC : CtxOK Try.prog C31 := ctx_ok rfl rfl (fns_cons ok27 (fns_cons ok28 (fns_cons ok29 fns_nil))) ptrs_nil
  refine FOk.intro hC (stpP_ok hC) Try.call31 Try.func31 (by kernel_rfl) (by kernel_rfl) L31 (vc31 ?_)
  intro x
  exact ⟨fun h => by rw [h]; rfl, fun h => by rw [h]; rfl⟩

theorem ok54 : FOk Try.prog 54 S54 := by
  have hC : CtxOK Try.prog C54 := okA (fns_cons ok53 (fns_cons ok42 (fns_cons ok43 fns_nil)))
  refine FOk.intro hC (stpP_ok hC) Try.call54 Try.func54 (by kernel_rfl) (by kernel_rfl) L54 (vc54 ?_)
  intro x hp hx
  have key : ∀ low : Int, (low = if Sp.writes (Sp.ev x.1.1 x.2.1).2.1 = true then (Sp.plc x.1 x.2.1).1 else (Sp.plc x.1 x.2.1).2.1) →
      Sp.coh x.1 x.2.1 x.2.2.1 = (!(Sp.reads (Sp.ev x.1.1 x.2.2.1).2.1 && decide ((Sp.plc x.1 x.2.2.1).2.1 < low)) && !(Sp.writes (Sp.ev x.1.1 x.2.2.1).2.1 && decide ((Sp.plc x.1 x.2.2.1).1 ≤ low))) := by
    intro low h; rw [h]; rfl
  refine ⟨hp, ⟨hp.1.1, hp.2.1⟩, fun h => ?_, fun h => ?_⟩
  · have hl := key (Sp.plc x.1 x.2.1).1 (by rw [if_pos (show Sp.writes (Sp.ev x.1.1 x.2.1).2.1 = true from h)])
    refine ⟨fun h1 => ?_, fun h1 => ⟨fun h2 => ?_, fun h2 => ?_⟩⟩
    · rw [hl, show Sp.reads (Sp.ev x.1.1 x.2.2.1).2.1 = true from h1.1, decide_eq_true (show (Sp.plc x.1 x.2.2.1).2.1 < (Sp.plc x.1 x.2.1).1 from h1.2)]; rfl
    · rw [hl, show Sp.writes (Sp.ev x.1.1 x.2.2.1).2.1 = true from h2.1, decide_eq_true (show (Sp.plc x.1 x.2.2.1).1 ≤ (Sp.plc x.1 x.2.1).1 from h2.2)]; simp
    · rw [hl, show (Sp.reads (Sp.ev x.1.1 x.2.2.1).2.1 && decide ((Sp.plc x.1 x.2.2.1).2.1 < (Sp.plc x.1 x.2.1).1)) = false from h1, show (Sp.writes (Sp.ev x.1.1 x.2.2.1).2.1 && decide ((Sp.plc x.1 x.2.2.1).1 ≤ (Sp.plc x.1 x.2.1).1)) = false from h2]; rfl
  · have hl := key (Sp.plc x.1 x.2.1).2.1 (by rw [if_neg (by rw [show Sp.writes (Sp.ev x.1.1 x.2.1).2.1 = false from h]; simp)])
    refine ⟨fun h1 => ?_, fun h1 => ⟨fun h2 => ?_, fun h2 => ?_⟩⟩
    · rw [hl, show Sp.reads (Sp.ev x.1.1 x.2.2.1).2.1 = true from h1.1, decide_eq_true (show (Sp.plc x.1 x.2.2.1).2.1 < (Sp.plc x.1 x.2.1).2.1 from h1.2)]; rfl
    · rw [hl, show Sp.writes (Sp.ev x.1.1 x.2.2.1).2.1 = true from h2.1, decide_eq_true (show (Sp.plc x.1 x.2.2.1).1 ≤ (Sp.plc x.1 x.2.1).2.1 from h2.2)]; simp
    · rw [hl, show (Sp.reads (Sp.ev x.1.1 x.2.2.1).2.1 && decide ((Sp.plc x.1 x.2.2.1).2.1 < (Sp.plc x.1 x.2.1).2.1)) = false from h1, show (Sp.writes (Sp.ev x.1.1 x.2.2.1).2.1 && decide ((Sp.plc x.1 x.2.2.1).1 ≤ (Sp.plc x.1 x.2.1).2.1)) = false from h2]; rfl

theorem ok16 : FOk Try.prog 16 S16 := by
  have hC : CtxOK Try.prog C16 := okA (fns_cons ok41 (fns_cons ok21 (fns_cons ok42 (fns_cons ok43 (fns_cons ok44 (fns_cons ok45 (fns_cons ok46 (fns_cons ok47 fns_nil))))))))
  refine FOk.intro hC (stpP_ok hC) Try.call16 Try.func16 (by kernel_rfl) (by kernel_rfl) L16 (vc16 ?_)
  intro x hp hx
  refine ⟨hp, hp, fun h => ?_, fun h => ?_⟩
  · refine Sp.right_false fun hr => ?_
    simp only [hr.valid, hr.lenE, hr.lenF, hr.lenM] at h
    simp at h
  obtain ⟨⟨⟨hv, hE⟩, hF⟩, hM⟩ := h
  have hE : x.2.1.1.length = (Sp.evs 0 x.1.1).length := by omega
  have hF : x.2.1.2.1.length = (Sp.evs 0 x.1.1).length := by omega
  have hM : x.2.1.2.2.1.length = 3 := by omega
  have he6 := (Sp.valid_ev hv).1
  refine ⟨⟨0, ⟨Nat.zero_le _, fun n hn => by omega⟩, rfl, rfl⟩, ?_⟩
  intro i hi _
  refine ⟨fun hlt => ?_, fun hge => ?_⟩
  · have hkk : inK .i64 ((i : Int) + 1) := inK_succ hlt (by rw [lim_eq]; omega)
    have h1 : inN (i : Int) (Sp.evs 0 x.1.1).length := inN_of hlt
    refine ⟨h1, by rw [hE]; exact h1, by rw [hF]; exact h1, fun h => ?_, fun h => ?_⟩
    · refine Sp.right_false fun hr => ?_
      have hs := hr.src i (by omega)
      obtain ⟨s1, s2, s3, s4, s5⟩ := hs
      have s1 : (x.2.1.1.getD i (0, (0, 0, 0, ()), 0, ())).1 = ((Sp.evs 0 x.1.1).getD i (0, (0, 0, 0, ()), 0, ())).1 := s1
      have s2 : (x.2.1.1.getD i (0, (0, 0, 0, ()), 0, ())).2.1 = ((Sp.evs 0 x.1.1).getD i (0, (0, 0, 0, ()), 0, ())).2.1 := s2
      rw [s1, s2] at h
      simp only [decide_true, Bool.and_true, Bool.not_true, Bool.false_or, Bool.or_eq_true, decide_eq_true_eq] at h
      omega
    · obtain ⟨⟨⟨a1, a2, a3, a4⟩, b1⟩, b2⟩ := h
      refine ⟨⟨fun h => ⟨h.1, b2⟩, fun h => ⟨h.1, b2⟩⟩, fun h => ?_, fun h => ⟨hkk, i + 1, ⟨by omega, fun n hn => ?_⟩, by omega, rfl, rfl⟩⟩
      · refine Sp.right_false fun hr => ?_
        obtain ⟨s1, s2, s3, s4, s5⟩ := hr.src i (by omega)
        obtain ⟨c1, c2, c3⟩ := s5 h.1
        have h2 := h.2
        have c1 : Sp.reads ((Sp.evs 0 x.1.1).getD i (0, (0, 0, 0, ()), 0, ())).2.1 = true := c1
        have c2 : Sp.writes ((Sp.evs 0 x.1.1).getD (x.2.1.2.1.getD i 0).toNat (0, (0, 0, 0, ()), 0, ())).2.1 = true := c2
        have c3 : ((Sp.evs 0 x.1.1).getD (x.2.1.2.1.getD i 0).toNat (0, (0, 0, 0, ()), 0, ())).2.1.2.1 = ((Sp.evs 0 x.1.1).getD i (0, (0, 0, 0, ()), 0, ())).2.1.2.1 := c3
        rw [c1, c2, c3] at h2
        simp at h2
      · rcases Nat.lt_or_ge n i with hc | hc
        · exact hi.2 n hc
        · have : n = i := by omega
          subst this
          refine ⟨a1, ?_, b1, b2, fun h0 => ?_⟩
          · show (x.2.1.1.getD n (0, (0, 0, 0, ()), 0, ())).2.1 = ((Sp.evs 0 x.1.1).getD n (0, (0, 0, 0, ()), 0, ())).2.1
            exact Prod.ext a2 (Prod.ext a3 (Prod.ext a4 rfl))
          · rw [decide_eq_true h0] at h
            simp only [Bool.true_and, Bool.or_eq_false_iff, Bool.not_eq_false'] at h
            refine ⟨h.1.1, h.1.2, ?_⟩
            have := h.2
            simp only [bne_eq_false_iff_eq] at this
            exact this
  · have hsrc : ∀ n < (Sp.evs 0 x.1.1).length, Sp.src (Sp.evs 0 x.1.1) x.2.1 n := fun n hn => hi.2 n (by omega)
    refine ⟨⟨0, ⟨Nat.zero_le _, fun n hn => by omega⟩, rfl, rfl⟩, ?_⟩
    intro k hk _
    refine ⟨fun hlt => ?_, fun hge2 => ?_⟩
    · have hkk : inK .i64 ((k : Int) + 1) := inK_succ hlt (by rw [lim_eq]; omega)
      have hkl : k < x.2.1.1.length := by omega
      have hstep : Sp.got x.2.1 k → ∃ (y : Nat), (y ≤ x.2.1.1.length ∧ ∀ (n : Nat), n < y → Sp.got x.2.1 n) ∧ x.2.1.1.length - y < x.2.1.1.length - k ∧ (k : Int) + 1 = (y : Int) ∧ Sp.evs 0 x.1.1 = Sp.evs 0 x.1.1 := by
        intro hg
        refine ⟨k + 1, ⟨by omega, fun n hn => ?_⟩, by omega, rfl, rfl⟩
        rcases Nat.lt_or_ge n k with hc | hc
        · exact hk.2 n hc
        · rw [show n = k from by omega]; exact hg
      refine ⟨inN_of hlt, fun hr => ⟨⟨⟨by omega, by omega⟩, ?_⟩, fun h => ?_, fun h => ⟨hkk, hstep ?_⟩⟩, fun hr => ⟨fun h => ?_, fun h => ⟨hkk, hstep ?_⟩⟩⟩
      · have := (hsrc k (by omega)).2.2.2.1
        show x.2.1.2.1.getD k 0 < (x.2.1.1.length : Int)
        omega
      · refine Sp.right_false fun hr' => ?_
        have hg := hr'.got k hkl
        unfold Sp.got at hg
        rw [if_pos (show Sp.reads (Sp.ev x.2.1.1 k).2.1 = true from hr)] at hg
        exact h hg
      · unfold Sp.got
        rw [if_pos (show Sp.reads (Sp.ev x.2.1.1 k).2.1 = true from hr)]
        exact h
      · refine Sp.right_false fun hr' => ?_
        have hg := hr'.got k hkl
        unfold Sp.got at hg
        rw [if_neg (by rw [show Sp.reads (Sp.ev x.2.1.1 k).2.1 = false from hr]; simp)] at hg
        exact h hg
      · unfold Sp.got
        rw [if_neg (by rw [show Sp.reads (Sp.ev x.2.1.1 k).2.1 = false from hr]; simp)]
        exact h
    · have hgot : ∀ n < x.2.1.1.length, Sp.got x.2.1 n := fun n hn => hk.2 n (by omega)
      refine ⟨⟨0, ⟨Nat.zero_le _, fun n hn => by omega⟩, rfl, rfl⟩, ?_⟩
      intro p hpp _
      refine ⟨fun hlt => ⟨⟨⟨by omega, by rw [hM]; omega⟩, hp⟩, fun h => ?_, fun h => ⟨inK_of (by omega) (by omega), p + 1, ⟨by omega, fun q hq => ?_⟩, by omega, rfl, rfl⟩⟩, fun hge3 => ⟨hp, ?_⟩⟩
      · refine Sp.right_false fun hr => ?_
        have := hr.mo p (by omega)
        rw [h] at this; cases this
      · rcases Nat.lt_or_ge q p with hc | hc
        · exact hpp.2 q hc
        · rw [show q = p from by omega]; exact h
      · have hall : (Sp.isList x.2.1.2.2.2.1 (Sp.evs 0 x.1.1) (fun o => decide (o.1 = 4)) = true) ↔ Sp.right x.1 x.2.1 = true := by
          rw [Sp.right_iff]
          exact ⟨fun h => ⟨hv, hE, hF, hM, hsrc, hgot, fun q hq => hpp.2 q (by omega), h⟩, fun h => h.fo⟩
        exact Bool.eq_iff_iff.2 hall

theorem ok18 : FOk Try.prog 18 S18 := by
  have hC : CtxOK Try.prog C18 := ctx_ok rfl rfl (fns_cons ok16 (fns_cons ok50 (fns_cons ok52 (fns_cons ok53 (fns_cons ok54 fns_nil))))) (ptrs_cons pk51 ptrs_nil)
  refine FOk.intro hC (stpP_ok hC) Try.call18 Try.func18 (by kernel_rfl) (by kernel_rfl) L18 (vc18 ?_)
  intro x hp hx
  refine ⟨hp, fun h => ?_, fun hr => ?_⟩
  · exact Sp.allowed_false fun h1 => by rw [h] at h1; cases h1
  have hR := (Sp.right_iff _ _).1 hr
  have he6 := (Sp.valid_ev hR.valid).1
  have hE := hR.lenE
  have hF := hR.lenF
  have hM := hR.lenM
  have hok : ∀ {n : Nat}, (n : Int) < (x.2.1.1.length : Int) → okAt x.2.1 n := fun h => hR.ok (by omega)
  have h6 : ∀ {n : Nat}, (n : Int) < (x.2.1.1.length : Int) → inN (n : Int) 6 := fun h => ⟨by omega, by omega⟩
  have hKs : ∀ {n : Nat}, (n : Int) < (x.2.1.1.length : Int) → inK .i64 ((n : Int) + 1) := fun h => inK_succ h (by rw [lim_eq]; omega)
  refine ⟨⟨by omega, fun n hn => ?_⟩, ⟨0, Nat.zero_le _, rfl, Sp.mat_ext fun a b _ _ => Sp.flowN_zero _ _ _⟩, ?_⟩
  · have := Sp.isList_in hR.fo hn
    exact ⟨this.1, by omega⟩
  intro i hi _
  refine ⟨fun hlt => ?_, fun hge => ?_⟩
  · have hil : i < (Sp.evs 0 x.1.1).length := by omega
    have hs := hR.src i hil
    refine ⟨inN_of hlt, fun h0 => ⟨⟨⟨h0, by have := hs.2.2.2.1; show x.2.1.2.1.getD i 0 < 6; omega⟩, ⟨by omega, by omega⟩⟩, inK_succ hlt hx.2.2.1.1, i + 1, by omega, by omega, rfl, ?_⟩, fun h0 => ⟨inK_succ hlt hx.2.2.1.1, i + 1, by omega, by omega, rfl, Sp.mat_ext fun a b _ _ => Sp.flowN_skip h0 a b⟩⟩
    have h7 := hs.2.2.2.1
    rw [Sp.mat_set (by omega) (by omega)]
    exact Sp.mat_ext fun a b _ _ => Sp.flowN_step (by omega) a b
  have hflow : Sp.close (Sp.mat (Sp.flowN x.2.1 i)) = Sp.flow x.2.1 := by unfold Sp.flow; rw [show i = x.2.1.2.1.length from by omega]
  rw [hflow]
  refine ⟨fun h => ?_, fun hround => ⟨⟨0, ⟨Nat.zero_le _, fun a ha => by omega⟩, rfl⟩, ?_⟩⟩
  · exact Sp.allowed_false fun _ h1 => by rw [h] at h1; cases h1
  intro a ha _
  refine ⟨fun hlt => ?_, fun hge2 => ?_⟩
  · have hal : a < x.2.1.1.length := by omega
    have hstep : Sp.okEv x.2.1 a → ∃ (y : Nat), (y ≤ x.2.1.1.length ∧ ∀ (n : Nat), n < y → Sp.okEv x.2.1 n) ∧ x.2.1.1.length - y < x.2.1.1.length - a ∧ (a : Int) + 1 = (y : Int) := by
      intro hg
      refine ⟨a + 1, ⟨by omega, fun n hn => ?_⟩, by omega, rfl⟩
      rcases Nat.lt_or_ge n a with hc | hc
      · exact ha.2 n hc
      · rw [show n = a from by omega]; exact hg
    refine ⟨inN_of hlt, fun h4 => ⟨hKs hlt, hstep (.inl h4)⟩, fun h4 => ⟨hok hlt, fun _ => ?_, fun h => ?_, fun hadd => ?_⟩⟩
    · have := Sp.idx_range (x.2.1.2.2.1.getD (Sp.ev x.2.1.1 a).2.1.2.1.toNat []) a
      have hX := (hok hlt).2.2
      have hl : (x.2.1.2.2.1.getD (Sp.ev x.2.1.1 a).2.1.2.1.toNat []).length ≤ lim := by
        rw [Sp.getD_lt (by have := hX.1; have := hX.2; omega)]
        exact (hx.2.2.2.1.2 _ (List.getElem_mem _)).1
      rw [lim_eq] at hl
      exact inK_of (by omega) (by omega)
    · refine Sp.allowed_false fun _ _ hall => ?_
      rcases hall a hal with h1 | ⟨h1, _⟩
      · exact h4 h1
      · unfold Sp.badAdd at h1
        rw [decide_eq_true (show (Sp.ev x.2.1.1 a).2.1.1 = 3 from h.1), decide_eq_false (show ¬ (Sp.plc x.2.1 a).2.1 = (Sp.plc x.2.1 a).1 - 1 from h.2)] at h1
        cases h1
    · have hbad : Sp.badAdd x.2.1 a = false := by
        unfold Sp.badAdd
        rw [← hadd]
        rfl
      refine ⟨⟨0, ⟨Nat.zero_le _, fun b hb => by omega⟩, rfl⟩, ?_⟩
      intro b hb _
      refine ⟨fun hlt2 => ⟨inN_of hlt2, ⟨h6 hlt, h6 hlt2, fun _ => ⟨hok hlt, hok hlt2⟩⟩, fun h => ?_, fun h => ⟨hKs hlt2, b + 1, ⟨by omega, fun n hn => ?_⟩, by omega, rfl⟩⟩, fun hge3 => ⟨hKs hlt, hstep (.inr ⟨hbad, fun b' hb' => hb.2 b' (by omega)⟩)⟩⟩
      · refine Sp.allowed_false fun _ _ hall => ?_
        rcases hall a hal with h1 | ⟨_, h1⟩
        · exact h4 h1
        · have := h1 b (by omega)
          unfold Sp.badPair at this
          rw [show Sp.get2 (Sp.before x.2.1) a b = true from h.1.1.1, decide_eq_false (show ¬ (Sp.ev x.2.1.1 b).2.1.1 = 4 from h.1.1.2), decide_eq_true (show (Sp.ev x.2.1.1 a).2.1.2.1 = (Sp.ev x.2.1.1 b).2.1.2.1 from h.1.2), h.2] at this
          cases this
      · rcases Nat.lt_or_ge n b with hc | hc
        · exact hb.2 n hc
        · rw [show n = b from by omega]
          unfold Sp.badPair
          rw [← h]
          rfl
  · unfold Sp.allowed
    rw [hr, hround, decide_eq_true (fun a' ha' => ha.2 a' (by omega))]; rfl
end Go.User
namespace Sp
def moN (e : List LEv) (b : List Int) : Nat → List (List Int) × Int
  | 0 => ([], 0)
  | n + 1 => ((moN e b n).1 ++ [shuffled (wr e n) b (moN e b n).2], (moN e b n).2 + ((wr e n).length : Int))
def mo3 (e : List LEv) (b : List Int) : List (List Int) := (moN e b 3).1
def foOf (e : List LEv) (b : List Int) : List Int := shuffled (fen e) b (moN e b 3).2
def i4 (e : List LEv) (b : List Int) : Int := (moN e b 3).2 + ((foOf e b).length : Int)
def pickF (e : List LEv) (mo : List (List Int)) (b : List Int) (i : Int) (n : Nat) : Int :=
  if (ev e n).2.1.1 = 3 ∧ (byteAt b i).tmod 8 ≠ 7 then ([-1] ++ mo.getD (ev e n).2.1.2.1.toNat []).getD (idx ([-1] ++ mo.getD (ev e n).2.1.2.1.toNat []) n - 1).toNat 0
  else ([-1] ++ mo.getD (ev e n).2.1.2.1.toNat []).getD (((byteAt b i).tdiv 8).tmod (([-1] ++ mo.getD (ev e n).2.1.2.1.toNat []).length : Int)).toNat 0
def fromN (e : List LEv) (b : List Int) : Nat → List Int × Int
  | 0 => ([], i4 e b)
  | n + 1 => if reads (ev e n).2.1 = true then ((fromN e b n).1 ++ [pickF e (mo3 e b) b (fromN e b n).2 n], (fromN e b n).2 + 1) else ((fromN e b n).1 ++ [-1], (fromN e b n).2)
def setR (e : List LEv) (n : Nat) (v : Int) : List LEv := e.set n ((ev e n).1, (ev e n).2.1, v, ())
def rnd (frm : List Int) (e : List LEv) (n : Nat) : List LEv := if reads (ev e n).2.1 = true then setR e n (value e (frm.getD n 0)) else e
def rndN (frm : List Int) (e : List LEv) (n : Nat) : List LEv := (List.range n).foldl (rnd frm) e
def rounds (frm : List Int) (e : List LEv) (r : Nat) : List LEv := (List.range r).foldl (fun e _ => rndN frm e e.length) e
def graph (t : Lit) (b : List Int) : Gr :=
  (rounds (fromN (evs 0 t.1) b (evs 0 t.1).length).1 (evs 0 t.1) 8, (fromN (evs 0 t.1) b (evs 0 t.1).length).1, mo3 (evs 0 t.1) b, foOf (evs 0 t.1) b, ())
def stG (frm : List Int) (e : List LEv) (n : Nat) : List LEv := if 0 ≤ frm.getD n 0 then setR (setR e n 0) n (ev (setR e n 0) (frm.getD n 0)).2.1.2.2.1 else setR e n 0
def stGN (frm : List Int) (e : List LEv) (n : Nat) : List LEv := (List.range n).foldl (stG frm) e
def stGR (frm : List Int) (e : List LEv) (r : Nat) : List LEv := (List.range r).foldl (fun e _ => stGN frm e e.length) e
def gr (t : Lit) (frm fo : List Int) : Gr := (stGR frm (graph t []).1 3, frm, (graph t []).2.2.1, fo, ())
end Sp
namespace Go.User
open Go.Lf
def mGr : Md := .pair (.own .shr) (.pair (.own .shr) (.pair (.own .shr) (.pair (.own .shr) .shr)))
def fine (t : Sp.Lit) : Prop := (Sp.evs 0 t.1).length ≤ 100 ∧ ∀ x ∈ Sp.evs 0 t.1, inN x.2.1.2.1 3
def S12 : FSpec := { args := [.val tLit, .val (.slice (.int .u8))], multi := false, res := tGr, mode := mGr, pre := fun x => fine x.1, fn := fun x => Sp.graph x.1 x.2.1 }
def C12 : Ctx := { mkC 155 [(33, S33), (34, S34), (35, S35), (36, S36), (37, S37), (38, S38), (39, S39), (40, S40)] with frz := [30] }
def L12 (x : kdens S12.args) : List LoopI := [
  { ι := Nat, inv := fun i => i ≤ 3, dec := fun i => 3 - i, ovr := fun i => [(7, .shr tI (i : Int)), (6, .shr tI (Sp.moN (Sp.evs 0 x.1.1) x.2.1 i).2), (5, .box tGr mGr (Sp.evs 0 x.1.1, [], (Sp.moN (Sp.evs 0 x.1.1) x.2.1 i).1, [], ()))], keep := [1, 2, 4] },
  { ι := Nat, inv := fun n => n ≤ (Sp.evs 0 x.1.1).length, dec := fun n => (Sp.evs 0 x.1.1).length - n, ovr := fun n => [(9, .shr tI (n : Int)), (6, .shr tI (Sp.fromN (Sp.evs 0 x.1.1) x.2.1 n).2), (5, .box tGr mGr (Sp.evs 0 x.1.1, (Sp.fromN (Sp.evs 0 x.1.1) x.2.1 n).1, Sp.mo3 (Sp.evs 0 x.1.1) x.2.1, Sp.foOf (Sp.evs 0 x.1.1) x.2.1, ()))], keep := [1, 2, 4] },
  { ι := Nat, inv := fun r => r ≤ 8, dec := fun r => 8 - r, ovr := fun r => [(12, .shr tI (r : Int)), (5, .box tGr mGr (Sp.rounds (Sp.fromN (Sp.evs 0 x.1.1) x.2.1 (Sp.evs 0 x.1.1).length).1 (Sp.evs 0 x.1.1) r, (Sp.fromN (Sp.evs 0 x.1.1) x.2.1 (Sp.evs 0 x.1.1).length).1, Sp.mo3 (Sp.evs 0 x.1.1) x.2.1, Sp.foOf (Sp.evs 0 x.1.1) x.2.1, ()))], keep := [1, 2, 4], sub := fun r => [
    { ι := Nat, inv := fun n => n ≤ (Sp.evs 0 x.1.1).length, dec := fun n => (Sp.evs 0 x.1.1).length - n, ovr := fun n => [(13, .shr tI (n : Int)), (5, .box tGr mGr (Sp.rndN (Sp.fromN (Sp.evs 0 x.1.1) x.2.1 (Sp.evs 0 x.1.1).length).1 (Sp.rounds (Sp.fromN (Sp.evs 0 x.1.1) x.2.1 (Sp.evs 0 x.1.1).length).1 (Sp.evs 0 x.1.1) r) n, (Sp.fromN (Sp.evs 0 x.1.1) x.2.1 (Sp.evs 0 x.1.1).length).1, Sp.mo3 (Sp.evs 0 x.1.1) x.2.1, Sp.foOf (Sp.evs 0 x.1.1) x.2.1, ()))], keep := [1, 2, 4, 12] }] }]
def mG3 : Md := .pair (.own .shr) (.pair .shr (.pair (.own .shr) (.pair .shr .shr)))
def S30 : FSpec := { args := [.val tLit, .val (.slice tI), .val (.slice tI)], multi := false, res := tGr, mode := .shr, pre := fun x => fine x.1 ∧ (x.2.1 : List Int).length = (Sp.evs 0 x.1.1).length ∧ ∀ v ∈ (x.2.1 : List Int), v < ((Sp.evs 0 x.1.1).length : Int), fn := fun x => Sp.gr x.1 x.2.1 x.2.2.1 }
def C30 : Ctx := mkC 53 [(12, S12)]
def L30 (x : kdens S30.args) : List LoopI := [
  { ι := Nat, inv := fun r => r ≤ 3, dec := fun r => 3 - r, ovr := fun r => [(8, .shr tI (r : Int)), (7, .box tGr mG3 (Sp.stGR x.2.1 (Sp.graph x.1 []).1 r, x.2.1, (Sp.graph x.1 []).2.2.1, x.2.2.1, ()))], keep := [1, 2, 3, 6], sub := fun r => [
    { ι := Nat, inv := fun n => n ≤ (Sp.evs 0 x.1.1).length, dec := fun n => (Sp.evs 0 x.1.1).length - n, ovr := fun n => [(9, .shr tI (n : Int)), (7, .box tGr mG3 (Sp.stGN x.2.1 (Sp.stGR x.2.1 (Sp.graph x.1 []).1 r) n, x.2.1, (Sp.graph x.1 []).2.2.1, x.2.2.1, ()))], keep := [1, 2, 3, 6, 8] }] }]
end Go.User
