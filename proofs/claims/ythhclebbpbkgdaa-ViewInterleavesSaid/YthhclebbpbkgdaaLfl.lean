/- Valid tests, the state at first: as they should be. Written by gen.py: what is left to show of each function. All outcomes: as they should be. The machine of views: what a step does, place by place; states in which all holds that the laws need: plain facts. The machine of views: what it comes to; all outcomes: plain facts. The machine of views: a machine that follows another one: plain facts. Written by gen.py: what is left to show of each function. The examples are as they should be. Written by gen.py: what is left to show of each function. Tests out of bytes, whether a test is valid: as they should be. Whether a test is valid: the reference: as it should be. Written by gen.py: what is left to show of each function. Made: what it returns is its caller's own. The reference's valid tests are the program's: plain facts. The number of operations of a test: plain facts. The machine of views: fences, exchanged places, further cores: plain facts. ViewFences: what is computed. Tests out of bytes are valid; one more fence: plain facts. The low bits of a number: plain facts. Written by gen.py: what is left to show of each function. ViewFences answers true. ViewInterleaves: what is computed. The machine of views: exchanged places, a further core: plain facts. -/
import Derived.Test.YthhclebbpbkgdaaLfk
set_option linter.unusedVariables false
set_option linter.unusedSimpArgs false
namespace Sp
theorem memI_succ {n : Nat} (h : n < 3) : (memI n).set n [m0] = memI (n + 1) := by
  have : n = 0 ∨ n = 1 ∨ n = 2 := by omega
  rcases this with rfl | rfl | rfl <;> rfl
theorem valid_iff {t : Lit} : valid t = true ↔ 1 ≤ t.1.length ∧ t.1.length ≤ 4 ∧ 1 ≤ total t.1 ∧ total t.1 ≤ 6 ∧ ∀ o ∈ cat t.1, usual o = true := by
  unfold valid
  have e : (!((cat t.1).any fun o => !usual o)) = true ↔ ∀ o ∈ cat t.1, usual o = true := by
    rw [Bool.not_eq_true', List.any_eq_false]
    constructor
    · intro h o ho
      have := h o ho
      cases hu : usual o
      · rw [hu] at this; exact absurd rfl this
      · rfl
    · intro h o ho
      rw [h o ho]; decide
  rw [Bool.and_eq_true, Bool.and_eq_true, Bool.and_eq_true, Bool.and_eq_true, e, decide_eq_true_eq, decide_eq_true_eq, decide_eq_true_eq, decide_eq_true_eq]
  constructor
  · rintro ⟨⟨⟨⟨h1, h2⟩, h3⟩, h4⟩, h5⟩
    exact ⟨h1, h2, h3, h4, h5⟩
  · rintro ⟨h1, h2, h3, h4, h5⟩
    exact ⟨⟨⟨⟨h1, h2⟩, h3⟩, h4⟩, h5⟩
end Sp
namespace Go.User
open Go.Lf Go.Proofs
theorem ok42 : FOk Try.prog 42 S42 := by
  have hC : CtxOK Try.prog C42 := okC (fns_cons okCat (fns_cons ok76 (fns_cons ok77 fns_nil))) rfl rfl rfl rfl rfl rfl rfl
  refine FOk.intro hC (stpS_ok hC) Try.call42 Try.func42 (by kernel_rfl) (by kernel_rfl) L42 (vc42.mpr ?_)
  simp only [z1, z2, z3, z4, z5, z6, z7, z8, z9, z10, z11, z12, z13, z14, z15, z16, z17, z18, z19, z20, z21, z22, z23, z24, z25, z26, z27, z28, z29, z30, z31, z32, z33, z34, z35, z36, z37, z38]
  rintro ⟨t, u⟩ h hx
  have h : Sp.total t.1 ≤ 1000 := h
  have hc := Sp.cat_len t.1
  refine ⟨h, ?_⟩
  show (decide ((1 : Int) ≤ (t.1.length : Int)) && decide ((t.1.length : Int) ≤ 4) && decide ((1 : Int) ≤ ((Sp.cat t.1).length : Int)) && decide (((Sp.cat t.1).length : Int) ≤ 6) && !((Sp.cat t.1).any fun e => !Sp.usual e)) = Sp.valid t
  unfold Sp.valid
  rw [hc]
  have e1 : decide ((1 : Int) ≤ (t.1.length : Int)) = decide (1 ≤ t.1.length) := decide_eq_decide.2 (by omega)
  have e2 : decide ((t.1.length : Int) ≤ 4) = decide (t.1.length ≤ 4) := decide_eq_decide.2 (by omega)
  have e3 : decide ((1 : Int) ≤ ((Sp.total t.1 : Nat) : Int)) = decide (1 ≤ Sp.total t.1) := decide_eq_decide.2 (by omega)
  have e4 : decide (((Sp.total t.1 : Nat) : Int) ≤ 6) = decide (Sp.total t.1 ≤ 6) := decide_eq_decide.2 (by omega)
  rw [e1, e2, e3, e4]
theorem ok19 : FOk Try.prog 19 S19 := by
  have hC : CtxOK Try.prog C19 := okC (fns_cons ok42 (fns_cons okCat (fns_cons ok44 (fns_cons ok45 fns_nil)))) rfl rfl rfl rfl rfl rfl rfl
  refine FOk.intro hC (stpS_ok hC) Try.call19 Try.func19 (by kernel_rfl) (by kernel_rfl) L19 (vc19.mpr ?_)
  simp only [z1, z2, z3, z4, z5, z6, z7, z8, z9, z10, z11, z12, z13, z14, z15, z16, z17, z18, z19, z20, z21, z22, z23, z24, z25, z26, z27, z28, z29, z30, z31, z32, z33, z34, z35, z36, z37, z38]
  rintro ⟨t, u⟩ h hx
  have h : Sp.total t.1 ≤ 1000 := h
  have hc := Sp.cat_len t.1
  refine ⟨h, fun hv => ?_, fun hv => ?_⟩
  · have hv : Sp.valid t = false := by simpa using hv
    show (Sp.stZ, (300 : Int), ()) = (Sp.stA t, Sp.errA t, ())
    unfold Sp.stA Sp.errA
    rw [if_neg (by rw [hv]; decide), if_neg (by rw [hv]; decide)]
  · have hv : Sp.valid t = true := by simpa using hv
    obtain ⟨v1, v2, v3, v4, v5⟩ := Sp.valid_iff.1 hv
    have hmx : maxNew = 2147483648 := rfl
    refine ⟨h, ⟨⟨Int.natCast_nonneg _, Int.le_refl _, ?_⟩, ⟨Int.natCast_nonneg _, ?_⟩, ⟨Int.natCast_nonneg _, Int.le_refl _, ?_⟩, Int.natCast_nonneg _, ?_⟩, ⟨0, by omega, rfl, ?_⟩, fun n hn _ => ⟨fun hlt => ⟨⟨by omega, hlt⟩, inK_mid (by omega) (by omega), n + 1, ?_, ?_, ?_, ?_⟩, fun hge => ?_⟩⟩
    · show (t.1.length : Int) ≤ maxNew; omega
    · show (t.1.length : Int) ≤ 6; omega
    · show ((Sp.cat t.1).length : Int) ≤ maxNew; omega
    · show ((Sp.cat t.1).length : Int) ≤ 6; omega
    · show (t, List.replicate t.1.length (0 : Int), List.replicate 3 ([] : List Sp.Msg), List.replicate t.1.length Sp.v0, Sp.v0, List.replicate (Sp.cat t.1).length (0 : Int), List.replicate (Sp.cat t.1).length (-1 : Int), ([] : List Int), ()) = Sp.stI t 0
      rw [hc]; rfl
    · have hlt : (n : Int) < 3 := hlt
      omega
    · have hlt : (n : Int) < 3 := hlt
      omega
    · omega
    · have hlt : (n : Int) < 3 := hlt
      show (t, Sp.zeros t.1.length, (Sp.memI n).set n [Sp.m0], Sp.views t.1.length, Sp.v0, Sp.zeros (Sp.total t.1), Sp.froms (Sp.total t.1), ([] : List Int), ()) = Sp.stI t (n + 1)
      rw [Sp.memI_succ (by omega)]; rfl
    · have hn : n ≤ 3 := hn
      have hge : (3 : Int) ≤ (n : Int) := hge
      have hn3 : n = 3 := by omega
      subst hn3
      show (Sp.start t, (0 : Int), ()) = (Sp.stA t, Sp.errA t, ())
      unfold Sp.stA Sp.errA
      rw [if_pos hv, if_pos hv]
end Go.User
namespace Go.User
open Go.Proofs Go.Lf
set_option maxRecDepth 100000
theorem vc39 : (funS C39a (stpS C39a) C39b (fun q => stpS (C39b q)) p39 n39 S39 L39a L39b Try.f39) = (
let q0 : Nat := (1000 : Nat);
let q1 : Prop := True ∧ True ∧ True;
let q2 : Prop := True ∧ q1;
let q3 : Prop := q2 ∧ True;
let q4 : Int := (0 : Int);
let q5 : Prop := (True ∧ True) ∧ True;
∀ (x : (List (List (Int × Int × Int × Unit)) × Unit) × Unit),
  let q6 : Prop := Sp.total x.1.1 ≤ q0;
  let q7 : Bool := Sp.errA x.1 != q4;
  let q8 : Int × Unit := (Sp.errA x.1, ());
  let q9 : List (List Int × List Int × Unit) × Int × Unit := (Sp.outs x.1, q8);
  let q10 : Nat := Sp.left (Sp.stA x.1);
  q6 → dFact (((Ty.int IntKind.i64).prod ((Ty.int IntKind.i64).prod ((Ty.int IntKind.i64).prod Ty.unit))).slice.slice.prod Ty.unit) x.1 ∧ True → q3 ∧ ((True ∧ q6 ∧ True ∧ q2) ∧ q1) ∧ (q1 ∧ True) ∧ (q7 = true → q3 ∧ (([] : List tOut.den), q8) = q9) ∧ (q7 = false → ((True ∧ True) ∧ True ∧ True) ∧ q5 ∧ q5 ∧ ∀ (q : Nat), (q1 ∧ (Option.some ((71 : Nat), KI.self :: KI.own q :: KI.fn (68 : Nat) :: ([] : List KI)) = Option.some ((71 : Go.FuncId), KI.self :: KI.own q :: KI.fn (68 : Go.FuncId) :: ([] : List KI)) ∧ Sp.okV q10 (([] : List tOut.den)) (Sp.stA x.1)) ∧ True) ∧ q3 ∧ (Sp.visit q10 (Sp.stA x.1) (([] : List tOut.den)), q4, ()) = q9)) := by kernel_rfl
end Go.User
namespace Sp
theorem usual_place {o : LOp} (h : usual o = true) : 0 ≤ o.2.1 ∧ o.2.1 < 3 := by
  unfold usual at h
  split at h
  · simp only [Bool.and_eq_true, decide_eq_true_eq] at h; omega
  · split at h
    · simp only [Bool.and_eq_true, decide_eq_true_eq] at h; omega
    · simp only [Bool.and_eq_true, decide_eq_true_eq] at h; omega
theorem rep_get {α : Type} {n c : Nat} (h : c < n) (a d : α) : (List.replicate n a).getD c d = a := by
  rw [Pl.getD_at (by rw [List.length_replicate]; exact h), List.getElem_replicate]
theorem start_pc (t : Lit) (c : Nat) : pcOf (start t) c = 0 := by
  show (List.replicate t.1.length (0 : Int)).getD c 0 = 0
  by_cases h : c < t.1.length
  · rw [rep_get h]
  · rw [Pl.getD_out (by rw [List.length_replicate]; omega)]
theorem start_mem (t : Lit) {x : Nat} (h : x < 3) : memOf (start t) x = [m0] := by
  have : x = 0 ∨ x = 1 ∨ x = 2 := by omega
  rcases this with rfl | rfl | rfl <;> rfl
theorem start_row (t : Lit) {c : Nat} (h : c < t.1.length) : rowOf (start t) c = v0 := rep_get h _ _
theorem v0_get {x : Nat} (h : x < 3) : v0.getD x 0 = -1 := by
  have : x = 0 ∨ x = 1 ∨ x = 2 := by omega
  rcases this with rfl | rfl | rfl <;> rfl
theorem start_left (t : Lit) : left (start t) = total t.1 := by
  unfold left total
  congr 1
  refine List.ext_getElem (by show ((List.range t.1.length).map _).length = (t.1.map List.length).length; simp) fun i h1 h2 => ?_
  simp only [List.getElem_map, List.getElem_range]
  have hi : i < t.1.length := by simpa using h2
  rw [start_pc]
  show (t.1.getD i []).length - 0 = _
  rw [Pl.getD_at hi]; rfl
theorem start_good {t : Lit} (h : valid t = true) : Good (start t) := by
  obtain ⟨v1, v2, v3, v4, v5⟩ := valid_iff.1 h
  have hsee : ∀ x, x < 3 → 0 ≤ plc [m0] (-1) := fun _ _ => by decide
  refine ⟨⟨by show t.1.length ≤ 1000; omega, by show total t.1 ≤ 1000; omega, List.length_replicate, ?_, ?_, rfl, ?_, List.length_replicate, ?_, ?_, rfl, ?_, List.length_replicate, List.length_replicate, Nat.zero_le _⟩, v2, by show total t.1 ≤ 8; omega, ?_, ?_⟩
  · intro c hc
    rw [start_pc]
    exact ⟨Int.le_refl _, Int.natCast_nonneg _⟩
  · intro l hl o ho
    exact usual_place (v5 o (List.mem_flatten.2 ⟨l, hl, ho⟩))
  · intro x hx
    rw [start_mem t hx]
    exact ⟨Nat.le_refl _, by show 1 ≤ 2000; omega⟩
  · intro c hc; rw [start_row t hc]; rfl
  · intro c hc x hx
    unfold plV vw
    rw [start_mem t hx, start_row t hc, v0_get hx]
    exact hsee x hx
  · intro x hx
    rw [start_mem t hx]
    show 0 ≤ plc [m0] (v0.getD x 0)
    rw [v0_get hx]; exact hsee x hx
  · intro x hx
    rw [start_mem t hx, start_left]
    exact Nat.le_refl _
  · rw [start_left]
    show 0 + total t.1 ≤ total t.1; omega
theorem sorted_nil : sortedO [] := fun i j _ h => by simp at h
end Sp
namespace Go.User
open Go.Lf Go.Proofs
theorem kno39 (q : Nat) : KnOK Try.prog q (t39 q) :=
  ⟨Try.call71, fun w F S0 cs x caps vs y h1 h2 h3 h4 h5 h6 h7 h8 => (visits (Sp.left y.1) q).2 w F S0 cs x caps vs y h1 h2 h3 h4 h5 h6 h7 h8⟩
set_option maxRecDepth 100000 in
theorem ok39 : FOk Try.prog 39 S39 := by
  have hC1 : CtxOK Try.prog C39a := okA (fns_cons ok19 fns_nil)
  have hC2 : ∀ q, CtxOK Try.prog (C39b q) := fun q => ctx_okQ q rfl rfl fns_nil ptrs_nil (fun _ h => by cases h) (fun _ h => by cases h) ins_nil (fun t h => by injection h with h; subst h; exact kno39 q)
  refine FOk.introS (n := n39) (p := p39) hC1 (stpS_ok hC1) hC2 (fun q => stpS_ok (hC2 q)) Try.call39 Try.func39 (by kernel_rfl) (fun q => by kernel_rfl) (by kernel_rfl) L39a L39b (vc39.mpr ?_)
  simp only [z1, z2, z3, z4, z5, z6, z7, z8, z9, z10, z11, z12, z13, z14, z15, z16, z17, z18, z19, z20, z21, z22, z23, z24, z25, z26, z27, z28, z29, z30, z31, z32, z33, z34, z35, z36, z37, z38]
  rintro ⟨t, u⟩ h _
  refine ⟨h, fun he => ?_, fun he => ?_⟩
  · have he : ¬ Sp.errA t = 0 := he
    have hv : ¬ Sp.valid t = true := fun hv => he (by unfold Sp.errA; rw [if_pos hv])
    show (([] : List Sp.Out), Sp.errA t, ()) = (Sp.outs t, Sp.errA t, ())
    unfold Sp.outs; rw [if_neg hv]
  · have he : Sp.errA t = 0 := he
    have hv : Sp.valid t = true := by
      refine Classical.byContradiction fun hv => ?_
      unfold Sp.errA at he
      rw [if_neg hv] at he
      exact absurd he (by decide)
    have hA : Sp.stA t = Sp.start t := by unfold Sp.stA; rw [if_pos hv]
    obtain ⟨v1, v2, v3, v4, v5⟩ := Sp.valid_iff.1 hv
    show Sp.okV (Sp.left (Sp.stA t)) [] (Sp.stA t) ∧ (Sp.visit (Sp.left (Sp.stA t)) (Sp.stA t) [], (0 : Int), ()) = (Sp.outs t, Sp.errA t, ())
    rw [hA, Sp.start_left, he]
    refine ⟨⟨Sp.start_good hv, v4, Sp.start_left t, Sp.sorted_nil, ?_⟩, ?_⟩
    · have : 28 ^ Sp.total t.1 ≤ 28 ^ 6 := Nat.pow_le_pow_right (by omega) v4
      have h6 : 28 ^ 6 = 481890304 := by decide
      show 0 + 28 ^ Sp.total t.1 ≤ 500000000; omega
    · unfold Sp.outs; rw [if_pos hv]
end Go.User
namespace Sp
open Go.Lf
-- an element behind place a
def insM {α : Type} (l : List α) (a : Nat) (w : α) : List α := l.take (a + 1) ++ [w] ++ l.drop (a + 1)
theorem insM_len {α : Type} {l : List α} {a : Nat} (h : a < l.length) (w : α) : (insM l a w).length = l.length + 1 := by
  unfold insM
  rw [List.length_append, List.length_append, List.length_take, List.length_drop]; simp only [List.length_singleton]; omega
theorem insM_get {α : Type} {l : List α} {a : Nat} (h : a < l.length) (w d : α) (i : Nat) : (insM l a w).getD i d = if i ≤ a then l.getD i d else if i = a + 1 then w else l.getD (i - 1) d := by
  unfold insM
  have hl : (l.take (a + 1)).length = a + 1 := by rw [List.length_take]; omega
  rw [List.getD_eq_getElem?_getD, List.append_assoc]
  by_cases h1 : i ≤ a
  · rw [if_pos h1, List.getElem?_append_left (by omega), List.getElem?_take, if_pos (by omega), List.getD_eq_getElem?_getD]
  · rw [if_neg h1, List.getElem?_append_right (by omega), hl]
    by_cases h2 : i = a + 1
    · rw [if_pos h2, h2, Nat.sub_self]; rfl
    · rw [if_neg h2]
      obtain ⟨j, hj⟩ : ∃ j, i - (a + 1) = j + 1 := ⟨i - (a + 1) - 1, by omega⟩
      rw [hj, List.singleton_append, List.getElem?_cons_succ, List.getElem?_drop, List.getD_eq_getElem?_getD]
      congr 2; omega
theorem mem_insM {α : Type} {l : List α} {a : Nat} {w x : α} : x ∈ insM l a w ↔ x ∈ l ∨ x = w := by
  unfold insM
  rw [List.mem_append, List.mem_append, List.mem_singleton]
  conv => rhs; rw [← List.take_append_drop (a + 1) l]
  rw [List.mem_append]
  constructor
  · rintro ((h | h) | h)
    · exact .inl (.inl h)
    · exact .inr h
    · exact .inl (.inr h)
  · rintro ((h | h) | h)
    · exact .inl (.inl h)
    · exact .inr h
    · exact .inl (.inr h)
theorem insM_map {α β : Type} (f : α → β) (l : List α) (a : Nat) (w : α) : (insM l a w).map f = insM (l.map f) a (f w) := by
  unfold insM; simp [List.map_take, List.map_drop]
theorem insM_nodup {α : Type} {l : List α} (a : Nat) {w : α} (h : l.Nodup) (hw : w ∉ l) : (insM l a w).Nodup := by
  unfold insM
  have hp : (l.take (a + 1) ++ [w] ++ l.drop (a + 1)).Perm (w :: l) := by
    rw [List.append_assoc]
    refine List.Perm.trans List.perm_append_comm ?_
    rw [List.cons_append]
    refine List.Perm.trans (List.Perm.cons w ?_) (List.Perm.refl _)
    refine List.Perm.trans List.perm_append_comm ?_
    rw [List.nil_append, List.take_append_drop]
  exact hp.nodup_iff.2 (List.nodup_cons.2 ⟨hw, h⟩)
-- places of events
def evs (m : List Msg) : List Int := m.map (·.1)
theorem plc_none {m : List Msg} {e : Int} (h : e ∉ evs m) : plc m e = -1 := by
  rcases plc_le m e with h1 | h1
  · refine Classical.byContradiction fun hn => h ?_
    have h2 : 0 ≤ plc m e := by
      unfold plc findM at hn ⊢
      split at hn
      · rename_i i hi; exact Int.natCast_nonneg _
      · exact absurd rfl hn
    obtain ⟨x, hx, he⟩ := plc_nn.1 h2
    exact List.mem_map.2 ⟨x, hx, he⟩
  · exact h1
theorem plc_at {m : List Msg} (hn : (evs m).Nodup) {i : Nat} (h : i < m.length) {e : Int} (he : (m.getD i msg0).1 = e) : plc m e = (i : Int) := by
  unfold plc findM
  have : m.findIdx? (fun m => decide (m.1 = e)) = some i := by
    rw [List.findIdx?_eq_some_iff_getElem]
    rw [Pl.getD_at h] at he
    refine ⟨h, decide_eq_true he, fun j hj => ?_⟩
    intro hd
    have hd := of_decide_eq_true hd
    have h1 : (evs m)[j]'(by unfold evs; rw [List.length_map]; omega) = (evs m)[i]'(by unfold evs; rw [List.length_map]; omega) := by
      simp only [evs, List.getElem_map]; rw [hd, he]
    have := (List.getElem_inj hn).1 h1
    omega
  rw [this]
theorem plc_get {m : List Msg} {e : Int} (h : 0 ≤ plc m e) : (plc m e).toNat < m.length ∧ (m.getD (plc m e).toNat msg0).1 = e := by
  unfold plc findM at h ⊢
  cases hf : m.findIdx? (fun m => decide (m.1 = e)) with
  | none => rw [hf] at h; exact absurd h (by decide)
  | some i =>
    obtain ⟨h1, h2, _⟩ := List.findIdx?_eq_some_iff_getElem.1 hf
    simp only [Int.toNat_natCast]
    refine ⟨h1, ?_⟩
    rw [Pl.getD_at h1]
    exact of_decide_eq_true h2
def sh (a : Nat) (q : Int) : Int := if q ≤ (a : Int) then q else q + 1
theorem sh_mono {a : Nat} {q r : Int} (h : q ≤ r) : sh a q ≤ sh a r := by
  unfold sh; split <;> split <;> omega
theorem plc_ins {m : List Msg} (hn : (evs m).Nodup) {a : Nat} (ha : a < m.length) {w : Msg} (hw : w.1 ∉ evs m) (e : Int) : plc (insM m a w) e = if e = w.1 then (a : Int) + 1 else sh a (plc m e) := by
  have hn' : (evs (insM m a w)).Nodup := by
    unfold evs
    rw [insM_map]
    exact insM_nodup a hn hw
  have hl := insM_len ha w
  by_cases he : e = w.1
  · rw [if_pos he]
    have := plc_at hn' (i := a + 1) (e := e) (by omega) (by rw [insM_get ha, if_neg (by omega), if_pos rfl, he])
    rw [this]; rfl
  · rw [if_neg he]
    by_cases h0 : 0 ≤ plc m e
    · obtain ⟨g1, g2⟩ := plc_get h0
      unfold sh
      by_cases h1 : plc m e ≤ (a : Int)
      · rw [if_pos h1]
        have := plc_at hn' (i := (plc m e).toNat) (e := e) (by omega) (by rw [insM_get ha, if_pos (by omega), g2])
        omega
      · rw [if_neg h1]
        have := plc_at hn' (i := (plc m e).toNat + 1) (e := e) (by omega) (by rw [insM_get ha, if_neg (by omega), if_neg (by omega)]; exact g2)
        omega
    · have h1 : e ∉ evs m := by
        intro h
        obtain ⟨x, hx, he⟩ := List.mem_map.1 h
        exact h0 (plc_nn.2 ⟨x, hx, he⟩)
      rw [plc_none h1]
      have : e ∉ evs (insM m a w) := by
        unfold evs
        rw [insM_map, mem_insM]
        rintro (h | h)
        · exact h1 h
        · exact he h
      rw [plc_none this]
      unfold sh; rw [if_pos (by omega)]
-- events of a test
def bas (t : Lit) (c : Nat) : Int := (total (t.1.take c) : Int)
theorem total_takeS {P : List (List LOp)} {c : Nat} (h : c < P.length) : total (P.take (c + 1)) = total (P.take c) + (P.getD c []).length := by
  rw [Pl.take_succ h []]
  unfold total
  rw [List.map_append, List.sum_append]; simp
theorem bas_succ {t : Lit} {c : Nat} (h : c < t.1.length) : bas t (c + 1) = bas t c + (t.1.getD c []).length := by
  unfold bas; rw [total_takeS h]; omega
theorem bas_mono {t : Lit} {c d : Nat} (h : c ≤ d) (hd : d ≤ t.1.length) : bas t c ≤ bas t d := by
  induction d with
  | zero => rw [Nat.le_zero.1 h]; exact Int.le_refl _
  | succ d ih =>
    rcases Nat.eq_or_lt_of_le h with h1 | h1
    · rw [h1]; exact Int.le_refl _
    · have := ih (by omega) (by omega)
      have := bas_succ (t := t) (c := d) (by omega)
      omega
theorem bas_nn (t : Lit) (c : Nat) : 0 ≤ bas t c := Int.natCast_nonneg _
theorem bas_inj {t : Lit} {c d : Nat} {i j : Int} (hc : c < t.1.length) (hd : d < t.1.length) (i0 : 0 ≤ i) (j0 : 0 ≤ j) (hi : i < ((t.1.getD c []).length : Int)) (hj : j < ((t.1.getD d []).length : Int)) (h : bas t c + i = bas t d + j) : c = d ∧ i = j := by
  rcases Nat.lt_trichotomy c d with h1 | h1 | h1
  · have := bas_succ hc
    have := bas_mono (t := t) (c := c + 1) (d := d) (by omega) (by omega)
    omega
  · subst h1; exact ⟨rfl, by omega⟩
  · have := bas_succ hd
    have := bas_mono (t := t) (c := d + 1) (d := c) (by omega) (by omega)
    omega
theorem bas_lt {t : Lit} {c : Nat} {i : Int} (hc : c < t.1.length) (hi : i < ((t.1.getD c []).length : Int)) : bas t c + i < (total t.1 : Int) := by
  have h1 := bas_succ hc
  have h2 := bas_mono (t := t) (c := c + 1) (d := t.1.length) (by omega) (Nat.le_refl _)
  have h3 : bas t t.1.length = (total t.1 : Int) := by unfold bas; rw [List.take_length]
  omega
def plF (s : VSt) (p : Nat) : Int := plc (memOf s p) (fnc s p)
def rOf (s : VSt) (e : Int) : Int := s.2.2.2.2.2.1.getD e.toNat 0
/-- A state of a valid test that the machine comes to: what all laws need. -/
structure Fine (s : VSt) : Prop where
  good : Good s
  us : ∀ l ∈ s.1.1, ∀ o ∈ l, usual o = true
  ev : ∀ p, p < 3 → ∀ m ∈ memOf s p, m.1 = -1 ∨ ∃ c j : Nat, c < s.1.1.length ∧ (j : Int) < pcOf s c ∧ m.1 = bas s.1 c + j
  nd : ∀ p, p < 3 → (evs (memOf s p)).Nodup
  bd : ∀ p, p < 3 → ∀ m ∈ memOf s p, -(100 * ((total s.1.1 : Int) - left s)) ≤ m.2.1 ∧ m.2.1 ≤ 100 * ((total s.1.1 : Int) - left s)
  hd : ∀ p, p < 3 → (memOf s p).getD 0 msg0 = m0
  rb : ∀ v ∈ s.2.2.2.2.2.1, -800 ≤ v ∧ v ≤ 800
/-- What a step is. -/
structure NX (s : VSt) (x : Cho) : Prop where
  xf : XF s x
  evt : evt s x.1 = bas s.1 (ofC x) + pcOf s (ofC x)
  us : usual (opX s x) = true
  p3 : plX s x < 3
  pc : ∀ c, pcOf (next s x) c = if c = ofC x then pcOf s (ofC x) + 1 else pcOf s c
  fen : (opX s x).1 = 4 → (∀ p, p < 3 → memOf (next s x) p = memOf s p) ∧ (∀ c p, c < s.1.1.length → p < 3 → plV (next s x) c p = if c = ofC x then max (plV s c p) (plF s p) else plV s c p) ∧
    (∀ p, p < 3 → plF (next s x) p = max (plV s (ofC x) p) (plF s p)) ∧ nR s x = s.2.2.2.2.2.1
  lod : (opX s x).1 = 1 → (∀ p, p < 3 → memOf (next s x) p = memOf s p) ∧ (∀ c p, c < s.1.1.length → p < 3 → plV (next s x) c p = if c = ofC x ∧ p = plX s x then x.2.1 else plV s c p) ∧
    (∀ p, p < 3 → plF (next s x) p = plF s p) ∧ nR s x = s.2.2.2.2.2.1.set (Sp.evt s x.1).toNat (msgX s x).2.1
  wri : (opX s x).1 = 2 ∨ (opX s x).1 = 3 → (∀ p, p < 3 → memOf (next s x) p = if p = plX s x then insM (memOf s p) x.2.1.toNat (newM s x) else memOf s p) ∧
    (∀ c p, c < s.1.1.length → p < 3 → plV (next s x) c p = if p = plX s x then (if c = ofC x then x.2.1 + 1 else sh x.2.1.toNat (plV s c p)) else plV s c p) ∧
    (∀ p, p < 3 → plF (next s x) p = if p = plX s x then sh x.2.1.toNat (plF s p) else plF s p) ∧
    nR s x = if (opX s x).1 = 2 then s.2.2.2.2.2.1 else s.2.2.2.2.2.1.set (Sp.evt s x.1).toNat (msgX s x).2.1
  wlt : (opX s x).1 ≠ 4 → x.2.1.toNat < (memOf s (plX s x)).length ∧ 0 ≤ x.2.1 ∧ plV s (ofC x) (plX s x) ≤ x.2.1
  new : (newM s x).1 ∉ evs (memOf s (plX s x))
  newV : (newM s x).2.1 = if (opX s x).1 = 3 then (msgX s x).2.1 + (opX s x).2.2.1 else (opX s x).2.2.1
  newA : (newM s x).2.2.1 = decide ((opX s x).1 = 3)
  kind : (opX s x).1 = 1 ∨ (opX s x).1 = 2 ∨ (opX s x).1 = 3 ∨ (opX s x).1 = 4
theorem usual_kind {o : LOp} (h : usual o = true) : o.1 = 1 ∨ o.1 = 2 ∨ o.1 = 3 ∨ o.1 = 4 := by
  unfold usual at h
  by_cases h1 : o.1 = 1
  · exact .inl h1
  · rw [if_neg h1] at h
    by_cases h2 : o.1 = 2 ∨ o.1 = 3
    · rcases h2 with h2 | h2
      · exact .inr (.inl h2)
      · exact .inr (.inr (.inl h2))
    · rw [if_neg h2] at h
      simp only [Bool.and_eq_true, decide_eq_true_eq] at h
      exact .inr (.inr (.inr h.1.1))
theorem usual_val {o : LOp} (h : usual o = true) : -100 ≤ o.2.2.1 ∧ o.2.2.1 ≤ 100 := by
  unfold usual at h
  split at h
  · simp only [Bool.and_eq_true, decide_eq_true_eq] at h; omega
  · split at h
    · simp only [Bool.and_eq_true, decide_eq_true_eq] at h; omega
    · simp only [Bool.and_eq_true, decide_eq_true_eq] at h; omega
theorem Fine.nx {s : VSt} (f : Fine s) {x : Cho} (hx : x ∈ choices s) : NX s x := by
  have g := f.good
  have h := g.ok
  have X := h.xf hx
  have hl : ofC x < s.2.1.length := by rw [h.pcl]; exact X.lt
  have hvc : ofC x < s.2.2.2.1.length := by rw [h.vwl]; exact X.lt
  have hr := h.row _ X.lt
  have p3 : plX s x < 3 := by have := X.pl0; have := X.pl1; unfold plX; omega
  have us : usual (opX s x) = true := f.us _ (Pl.getD_mem X.lt _) _ X.mem
  have hev : evt s x.1 = bas s.1 (ofC x) + pcOf s (ofC x) := by
    unfold evt bas
    rw [X.eq, Int.toNat_natCast]
  have htot := g.tot
  have hnew : (newM s x).1 ∉ evs (memOf s (plX s x)) := by
    rw [newM_e, hev]
    intro hm
    obtain ⟨m, hm, he⟩ := List.mem_map.1 hm
    have he : m.1 = bas s.1 (ofC x) + pcOf s (ofC x) := he
    rcases f.ev _ p3 m hm with h1 | ⟨c, j, h1, h2, h3⟩
    · have := bas_nn s.1 (ofC x); have := X.pc0; omega
    · have hpc := h.pc c h1
      have hpx := X.pc1
      have hp0 := X.pc0
      obtain ⟨e1, e2⟩ := bas_inj (t := s.1) (c := c) (d := ofC x) (i := (j : Int)) (j := pcOf s (ofC x)) h1 X.lt (by omega) X.pc0 (by unfold opsOf at hpc; omega) (by unfold opsOf at hpx; omega) (by omega)
      subst e1; omega
  have hvrow : ∀ c p, (∀ r, rowOf (next s x) c = r → vw (next s x) c p = r.getD p 0) := fun c p r h => by unfold vw; rw [h]
  have hrow : ∀ c, rowOf (next s x) c = (nVw s x).getD c [] := fun c => rfl
  have hkind := usual_kind us
  have hval := usual_val us
  refine { xf := X, evt := hev, us := us, p3 := p3, pc := pc_next s hl, fen := ?_, lod := ?_, wri := ?_, wlt := fun h4 => ⟨(X.idx h4).2.2.1, (X.idx h4).2.1, (X.idx h4).1⟩, new := hnew, newV := ?_, newA := ?_, kind := hkind }
  · intro h4
    have hmem : ∀ p, memOf (next s x) p = memOf s p := fun p => by
      show (nMem s x).getD p [] = _
      unfold nMem; rw [if_pos (.inl h4)]; rfl
    have hlat : ∀ p, p < 3 → plc (memOf s p) (later s (ofC x) p) = max (plV s (ofC x) p) (plF s p) := by
      intro p hp
      unfold later plF
      by_cases hlt : plV s (ofC x) p < plc (memOf s p) (fnc s p)
      · rw [if_pos hlt]; omega
      · rw [if_neg hlt]; unfold plV at hlt ⊢; omega
    refine ⟨fun p _ => hmem p, ?_, ?_, ?_⟩
    · intro c p hc hp
      unfold plV
      rw [hmem p]
      have hrw : rowOf (next s x) c = if c = ofC x then rowN s (ofC x) 3 else rowOf s c := by
        rw [hrow]; unfold nVw; rw [if_pos h4]; unfold vwN
        rw [Pl.getD_set c hvc]; rfl
      by_cases hcc : c = ofC x
      · rw [if_pos hcc] at hrw ⊢
        rw [hvrow c p _ hrw, rowN_get _ _ _ hp, if_pos hp, hlat p hp, hcc]; rfl
      · rw [if_neg hcc] at hrw ⊢
        rw [hvrow c p _ hrw]; rfl
    · intro p hp
      show plc (memOf (next s x) p) ((nFe s x).getD p 0) = _
      rw [hmem p]
      unfold nFe; rw [if_pos h4, rowN_get _ _ _ hp, if_pos hp, hlat p hp]
    · unfold nR; rw [if_pos (.inl h4)]
  · intro h1
    have h4 : ¬ (opX s x).1 = 4 := by omega
    have hmem : ∀ p, memOf (next s x) p = memOf s p := fun p => by
      show (nMem s x).getD p [] = _
      unfold nMem; rw [if_pos (.inr h1)]; rfl
    obtain ⟨i1, i2, i3, i4⟩ := X.idx h4
    refine ⟨fun p _ => hmem p, ?_, ?_, ?_⟩
    · intro c p hc hp
      unfold plV
      rw [hmem p]
      have hrw : rowOf (next s x) c = if c = ofC x then (rowOf s (ofC x)).set (plX s x) (msgX s x).1 else rowOf s c := by
        rw [hrow]; unfold nVw; rw [if_neg h4, if_pos h1, Pl.getD_set c hvc]; rfl
      by_cases hcc : c = ofC x
      · rw [if_pos hcc] at hrw
        rw [hvrow c p _ hrw, Pl.getD_set p (by rw [hr]; exact p3)]
        by_cases hpp : p = plX s x
        · rw [if_pos hpp, if_pos ⟨hcc, hpp⟩, hpp]
          have := plc_at (f.nd _ p3) i3 rfl
          show plc _ (msgX s x).1 = _
          unfold msgX; rw [this]; omega
        · rw [if_neg hpp, if_neg (fun h => hpp h.2), hcc]; rfl
      · rw [if_neg hcc] at hrw
        rw [if_neg (fun h => hcc h.1), hvrow c p _ hrw]; rfl
    · intro p hp
      show plc (memOf (next s x) p) ((nFe s x).getD p 0) = _
      rw [hmem p]
      unfold nFe; rw [if_neg h4]; rfl
    · unfold nR; rw [if_neg (by omega)]
  · intro h23
    have h4 : ¬ (opX s x).1 = 4 := by omega
    have h1 : ¬ (opX s x).1 = 1 := by omega
    obtain ⟨i1, i2, i3, i4⟩ := X.idx h4
    have hpm : plX s x < s.2.2.1.length := by rw [h.meml]; exact p3
    have hmem : ∀ p, memOf (next s x) p = if p = plX s x then insM (memOf s p) x.2.1.toNat (newM s x) else memOf s p := fun p => by
      show (nMem s x).getD p [] = _
      unfold nMem; rw [if_neg (by omega), Pl.getD_set p hpm]
      by_cases hpp : p = plX s x
      · rw [if_pos hpp, if_pos hpp, hpp]; rfl
      · rw [if_neg hpp, if_neg hpp]; rfl
    have hold : ∀ e p, p = plX s x → 0 ≤ plc (memOf s p) e → e ≠ (newM s x).1 := by
      rintro e p rfl h0 rfl
      obtain ⟨m, hm, he⟩ := plc_nn.1 h0
      exact hnew (List.mem_map.2 ⟨m, hm, he⟩)
    refine ⟨fun p _ => hmem p, ?_, ?_, ?_⟩
    · intro c p hc hp
      have hsee := h.see c hc p hp
      unfold plV at hsee ⊢
      rw [hmem p]
      have hrw : rowOf (next s x) c = if c = ofC x then (rowOf s (ofC x)).set (plX s x) (evt s x.1) else rowOf s c := by
        rw [hrow]; unfold nVw; rw [if_neg h4, if_neg h1, Pl.getD_set c hvc]; rfl
      by_cases hcc : c = ofC x
      · rw [if_pos hcc] at hrw
        rw [hvrow c p _ hrw, Pl.getD_set p (by rw [hr]; exact p3)]
        by_cases hpp : p = plX s x
        · rw [if_pos hpp, if_pos hpp, if_pos hpp, if_pos hcc, hpp, plc_ins (f.nd _ p3) i3 hnew, newM_e, if_pos rfl]; omega
        · rw [if_neg hpp, if_neg hpp, if_neg hpp, hcc]; rfl
      · rw [if_neg hcc] at hrw
        rw [hvrow c p _ hrw]
        by_cases hpp : p = plX s x
        · rw [if_pos hpp, if_pos hpp, if_neg hcc]
          have : vw s c p ≠ (newM s x).1 := hold _ p hpp hsee
          rw [hpp] at this ⊢
          rw [plc_ins (f.nd _ p3) i3 hnew]
          exact if_neg this
        · rw [if_neg hpp, if_neg hpp]; rfl
    · intro p hp
      have hfes := h.fes p hp
      show plc (memOf (next s x) p) ((nFe s x).getD p 0) = _
      rw [hmem p]
      unfold nFe; rw [if_neg h4]
      unfold plF
      by_cases hpp : p = plX s x
      · rw [if_pos hpp, if_pos hpp]
        have : fnc s p ≠ (newM s x).1 := hold _ p hpp hfes
        show plc _ (fnc s p) = _
        rw [hpp] at this ⊢
        rw [plc_ins (f.nd _ p3) i3 hnew, if_neg this]
      · rw [if_neg hpp, if_neg hpp]; rfl
    · unfold nR
      by_cases h2 : (opX s x).1 = 2
      · rw [if_pos (.inr h2), if_pos h2]
      · rw [if_neg (by omega), if_neg h2]
  · unfold newM
    by_cases h3 : (opX s x).1 = 3
    · rw [if_pos h3, if_pos h3]
      obtain ⟨_, _, i3, _⟩ := X.idx (by omega)
      have hb := f.bd _ p3 (msgX s x) (Pl.getD_mem i3 _)
      exact Pl.wrap_in (by omega) (by omega)
    · rw [if_neg h3, if_neg h3]
  · unfold newM
    by_cases h3 : (opX s x).1 = 3
    · rw [if_pos h3, decide_eq_true h3]
    · rw [if_neg h3, decide_eq_false h3]
end Sp
namespace Sp
open Go.Lf
theorem Fine.next {s : VSt} (f : Fine s) {x : Cho} (hx : x ∈ choices s) : Fine (next s x) := by
  have N := f.nx hx
  have h := f.good.ok
  have hln := left_next h hx
  have hpc0 := N.xf.pc0
  have hmemS : ∀ p, p < 3 → ∀ m ∈ memOf (Sp.next s x) p, m ∈ memOf s p ∨ (m = newM s x ∧ p = plX s x ∧ ((opX s x).1 = 2 ∨ (opX s x).1 = 3)) := by
    intro p hp m hm
    rcases N.kind with k | k | k | k
    · rw [(N.lod k).1 p hp] at hm; exact .inl hm
    · rw [(N.wri (.inl k)).1 p hp] at hm
      split at hm
      · rcases mem_insM.1 hm with h1 | h1
        · exact .inl h1
        · exact .inr ⟨h1, by assumption, .inl k⟩
      · exact .inl hm
    · rw [(N.wri (.inr k)).1 p hp] at hm
      split at hm
      · rcases mem_insM.1 hm with h1 | h1
        · exact .inl h1
        · exact .inr ⟨h1, by assumption, .inr k⟩
      · exact .inl hm
    · rw [(N.fen k).1 p hp] at hm; exact .inl hm
  have hv := usual_val N.us
  have hbd : ∀ p, p < 3 → ∀ m ∈ memOf s p, -800 ≤ m.2.1 ∧ m.2.1 ≤ 800 := by
    intro p hp m hm
    have := f.bd p hp m hm
    have := f.good.tot
    omega
  have hR : ∀ v ∈ s.2.2.2.2.2.1.set (evt s x.1).toNat (msgX s x).2.1, (opX s x).1 ≠ 4 → -800 ≤ v ∧ v ≤ 800 := by
    intro v hv h4
    rcases List.mem_or_eq_of_mem_set hv with h1 | h1
    · exact f.rb v h1
    · rw [h1]; exact hbd _ N.p3 _ (Pl.getD_mem (N.wlt h4).1 _)
  refine ⟨f.good.next hx, f.us, ?_, ?_, ?_, ?_, ?_⟩
  · intro p hp m hm
    rcases hmemS p hp m hm with h1 | ⟨h1, h2, h3⟩
    · rcases f.ev p hp m h1 with h4 | ⟨c, j, g1, g2, g3⟩
      · exact .inl h4
      · refine .inr ⟨c, j, g1, ?_, g3⟩
        rw [N.pc c]
        split
        · rename_i hc; rw [hc] at g2; omega
        · exact g2
    · refine .inr ⟨ofC x, (pcOf s (ofC x)).toNat, N.xf.lt, ?_, ?_⟩
      · rw [N.pc, if_pos rfl]; omega
      · rw [h1, newM_e, N.evt]
        show _ = bas s.1 (ofC x) + _
        omega
  · intro p hp
    rcases N.kind with k | k | k | k
    · rw [(N.lod k).1 p hp]; exact f.nd p hp
    · rw [(N.wri (.inl k)).1 p hp]
      split
      · rename_i hpp
        unfold evs; rw [insM_map]
        rw [hpp]
        exact insM_nodup _ (f.nd _ N.p3) N.new
      · exact f.nd p hp
    · rw [(N.wri (.inr k)).1 p hp]
      split
      · rename_i hpp
        unfold evs; rw [insM_map]
        rw [hpp]
        exact insM_nodup _ (f.nd _ N.p3) N.new
      · exact f.nd p hp
    · rw [(N.fen k).1 p hp]; exact f.nd p hp
  · intro p hp m hm
    show -(100 * ((total s.1.1 : Int) - left (Sp.next s x))) ≤ m.2.1 ∧ m.2.1 ≤ 100 * ((total s.1.1 : Int) - left (Sp.next s x))
    rcases hmemS p hp m hm with h1 | ⟨h1, h2, h3⟩
    · have := f.bd p hp m h1; omega
    · have hms := f.bd _ N.p3 (msgX s x) (Pl.getD_mem (N.wlt (by omega)).1 _)
      have hle : (left s : Int) ≤ total s.1.1 := by
        have := f.good.mem 0 (by omega)
        have := (h.mem 0 (by omega)).1
        omega
      rw [h1, N.newV]
      split <;> omega
  · intro p hp
    have h0 := f.hd p hp
    rcases N.kind with k | k | k | k
    · rw [(N.lod k).1 p hp]; exact h0
    · rw [(N.wri (.inl k)).1 p hp]
      split
      · rename_i hpp
        rw [insM_get (by rw [hpp]; exact (N.wlt (by omega)).1), if_pos (Nat.zero_le _)]; exact h0
      · exact h0
    · rw [(N.wri (.inr k)).1 p hp]
      split
      · rename_i hpp
        rw [insM_get (by rw [hpp]; exact (N.wlt (by omega)).1), if_pos (Nat.zero_le _)]; exact h0
      · exact h0
    · rw [(N.fen k).1 p hp]; exact h0
  · show ∀ v ∈ nR s x, _
    intro v hv
    rcases N.kind with k | k | k | k
    · rw [(N.lod k).2.2.2] at hv; exact hR v hv (by omega)
    · rw [(N.wri (.inl k)).2.2.2, if_pos k] at hv; exact f.rb v hv
    · rw [(N.wri (.inr k)).2.2.2, if_neg (by omega)] at hv; exact hR v hv (by omega)
    · rw [(N.fen k).2.2.2] at hv; exact f.rb v hv
theorem start_fine {t : Lit} (h : valid t = true) : Fine (start t) := by
  obtain ⟨v1, v2, v3, v4, v5⟩ := valid_iff.1 h
  refine ⟨start_good h, fun l hl o ho => v5 o (List.mem_flatten.2 ⟨l, hl, ho⟩), ?_, ?_, ?_, ?_, ?_⟩
  · intro p hp m hm
    rw [start_mem t hp] at hm
    rw [List.mem_singleton.1 hm]; exact .inl rfl
  · intro p hp
    rw [start_mem t hp]
    simp [evs]
  · intro p hp m hm
    rw [start_mem t hp] at hm
    rw [List.mem_singleton.1 hm, start_left]
    show -(100 * (((total t.1 : Nat) : Int) - ((total t.1 : Nat) : Int))) ≤ 0 ∧ 0 ≤ 100 * (((total t.1 : Nat) : Int) - ((total t.1 : Nat) : Int))
    omega
  · intro p hp; rw [start_mem t hp]; rfl
  · intro v hv
    have : v = 0 := List.eq_of_mem_replicate (show v ∈ List.replicate (total t.1) (0 : Int) from hv)
    omega
-- choices
theorem ch_fence {s : VSt} {c : Nat} (hc : c < s.1.1.length) (hn : ¬ pcOf s c = (opsOf s c).length) (h4 : (nextOp s c).1 = 4) : ((c : Int), 0, ()) ∈ choices s :=
  mem_choices.2 ⟨c, hc, by rw [chC_fence hn h4]; exact List.mem_singleton.2 rfl⟩
theorem ch_other {s : VSt} {c k : Nat} (hc : c < s.1.1.length) (hn : ¬ pcOf s c = (opsOf s c).length) (h4 : ¬ (nextOp s c).1 = 4) (hk : k < (memOf s (nextOp s c).2.1.toNat).length)
    (hv : plV s c (nextOp s c).2.1.toNat ≤ (k : Int)) (hm : may (nextOp s c) (memOf s (nextOp s c).2.1.toNat) k = true) : ((c : Int), (k : Int), ()) ∈ choices s :=
  mem_choices.2 ⟨c, hc, by rw [chC_other hn h4]; exact mem_chI.2 ⟨k, hk, hv, hm, rfl⟩⟩
theorem may_last (o : LOp) (m : List Msg) {k : Nat} (h : k + 1 = m.length) : may o m k = true := by
  unfold may; rw [decide_eq_true h]; simp
theorem plV_lt (s : VSt) (c p : Nat) : plV s c p < ((memOf s p).length : Int) := by
  rcases plc_le (memOf s p) (vw s c p) with h | h
  · exact h
  · unfold plV; rw [h]; omega
theorem plF_lt (s : VSt) (p : Nat) : plF s p < ((memOf s p).length : Int) := by
  rcases plc_le (memOf s p) (fnc s p) with h | h
  · exact h
  · unfold plF; rw [h]; omega
/-- The last message may always be chosen. -/
theorem ch_last {s : VSt} (h : OkS s) {c : Nat} (hc : c < s.1.1.length) (hn : ¬ pcOf s c = (opsOf s c).length) (h4 : ¬ (nextOp s c).1 = 4) : ((c : Int), (((memOf s (nextOp s c).2.1.toNat).length - 1 : Nat) : Int), ()) ∈ choices s := by
  obtain ⟨_, _, g3, g4, _⟩ := h.op hc hn
  have hm := (h.mem (nextOp s c).2.1.toNat (by omega)).1
  have := plV_lt s c (nextOp s c).2.1.toNat
  exact ch_other hc hn h4 (by omega) (by omega) (may_last _ _ (by omega))
theorem done_iff {s : VSt} (h : OkS s) : choices s = [] ↔ ∀ c, c < s.1.1.length → pcOf s c = (opsOf s c).length := by
  constructor
  · intro h0 c hc
    refine Classical.byContradiction fun hn => ?_
    by_cases h4 : (nextOp s c).1 = 4
    · have := ch_fence hc hn h4; rw [h0] at this; cases this
    · have := ch_last h hc hn h4; rw [h0] at this; cases this
  · intro hd
    refine List.eq_nil_iff_forall_not_mem.2 fun x hx => ?_
    have X := h.xf hx
    exact X.pcn (hd _ X.lt)
theorem left_zero {s : VSt} (h : OkS s) (h0 : left s = 0) : choices s = [] := by
  refine List.eq_nil_iff_forall_not_mem.2 fun x hx => ?_
  have := left_next h hx
  omega
-- what is reached
inductive Reach : VSt → VSt → Prop
  | refl (s : VSt) : Reach s s
  | step {s : VSt} {x : Cho} {s' : VSt} (hx : x ∈ choices s) (h : Reach (next s x) s') : Reach s s'
theorem Reach.trans {a b c : VSt} (h1 : Reach a b) (h2 : Reach b c) : Reach a c := by
  induction h1 with
  | refl s => exact h2
  | step hx h ih => exact .step hx (ih h2)
theorem Reach.one {s : VSt} {x : Cho} (hx : x ∈ choices s) : Reach s (next s x) := .step hx (.refl _)
theorem Reach.fine {a b : VSt} (h : Reach a b) : Fine a → Fine b := by
  induction h with
  | refl s => exact id
  | step hx h ih => exact fun f => ih (f.next hx)
theorem Reach.lit {a b : VSt} (h : Reach a b) : b.1 = a.1 := by
  induction h with
  | refl s => rfl
  | step hx h ih => exact ih
/-- What may be shown of each step, holds of all that is reached. -/
theorem Reach.inv {P : VSt → Prop} (hP : ∀ s x, Fine s → P s → x ∈ choices s → P (next s x)) {a b : VSt} (h : Reach a b) : Fine a → P a → P b := by
  induction h with
  | refl s => exact fun _ h => h
  | step hx h ih => exact fun f p => ih (f.next hx) (hP _ _ f p hx)
theorem ends {s : VSt} (f : Fine s) : ∃ s', Reach s s' ∧ choices s' = [] := by
  generalize hn : left s = n
  induction n generalizing s with
  | zero => exact ⟨s, .refl s, left_zero f.good.ok hn⟩
  | succ n ih =>
    cases h : choices s with
    | nil => exact ⟨s, .refl s, h⟩
    | cons x xs =>
      have hx : x ∈ choices s := by rw [h]; exact List.mem_cons_self
      have := left_next f.good.ok hx
      obtain ⟨s', h1, h2⟩ := ih (f.next hx) (by omega)
      exact ⟨s', .step hx h1, h2⟩
-- the search finds what is reached
theorem cmpI_eq : ∀ {a b : List Int}, cmpI a b = 0 → a = b
  | [], [], _ => rfl
  | [], _ :: _, h => by exact absurd (show (-1 : Int) = 0 from h) (by decide)
  | _ :: _, [], h => by exact absurd (show (1 : Int) = 0 from h) (by decide)
  | x :: a, y :: b, h => by
    rw [cmpI_cons] at h
    by_cases h3 : cmp3 x y = 0
    · rw [if_pos h3] at h
      rw [cmp3_zero.1 h3, cmpI_eq h]
    · rw [if_neg h3] at h; exact absurd h h3
theorem cmpO_eq {a b : Out} (h : cmpO a b = 0) : a = b := by
  unfold cmpO at h
  by_cases h1 : cmpI a.1 b.1 = 0
  · rw [if_pos h1] at h
    obtain ⟨a1, a2, u⟩ := a
    obtain ⟨b1, b2, v⟩ := b
    rw [show a1 = b1 from cmpI_eq h1, show a2 = b2 from cmpI_eq h]
  · rw [if_neg h1] at h; exact absurd h h1
theorem cmpO_self (a : Out) : cmpO a a = 0 := by
  have := cmpO_swap a a; omega
theorem mem_insO {l : List Out} (hs : sortedO l) {a o : Out} : o ∈ insO l a ↔ o ∈ l ∨ o = a := by
  unfold insO
  by_cases hf : foundO l a = true
  · rw [if_pos hf]
    unfold foundO at hf
    rw [Bool.and_eq_true, decide_eq_true_eq, decide_eq_true_eq] at hf
    constructor
    · exact .inl
    · rintro (h | h)
      · exact h
      · rw [h, ← cmpO_eq hf.2]; exact Pl.getD_mem hf.1 _
  · rw [if_neg hf, List.mem_append, List.mem_append, List.mem_singleton]
    conv => rhs; rw [← List.take_append_drop (below l a) l]
    rw [List.mem_append]
    constructor
    · rintro ((h | h) | h)
      · exact .inl (.inl h)
      · exact .inr h
      · exact .inl (.inr h)
    · rintro ((h | h) | h)
      · exact .inl (.inl h)
      · exact .inr h
      · exact .inl (.inr h)
/-- The outcome of a run. -/
def OutOf (s : VSt) (o : Out) : Prop := ∃ s', Reach s s' ∧ choices s' = [] ∧ outcome s' = o
theorem OutOf_done {s : VSt} (h : choices s = []) {o : Out} : OutOf s o ↔ outcome s = o := by
  constructor
  · rintro ⟨s', h1, h2, h3⟩
    cases h1 with
    | refl => exact h3
    | step hx => rw [h] at hx; cases hx
  · intro h3; exact ⟨s, .refl s, h, h3⟩
theorem OutOf_more {s : VSt} (h : choices s ≠ []) {o : Out} : OutOf s o ↔ ∃ x ∈ choices s, OutOf (next s x) o := by
  constructor
  · rintro ⟨s', h1, h2, h3⟩
    cases h1 with
    | refl => exact absurd h2 h
    | step hx h1 => exact ⟨_, hx, s', h1, h2, h3⟩
  · rintro ⟨x, hx, s', h1, h2, h3⟩; exact ⟨s', .step hx h1, h2, h3⟩
theorem mem_visit : ∀ (n : Nat) {s : VSt}, Fine s → total s.1.1 ≤ 6 → left s = n → ∀ l, sortedO l → ∀ o, o ∈ visit n s l ↔ o ∈ l ∨ OutOf s o
  | 0, s, f, h6, hl, l, hs, o => by
    have h0 := left_zero f.good.ok hl
    rw [visit_end h0, mem_insO hs, OutOf_done h0, eq_comm (a := o)]
  | n + 1, s, f, h6, hl, l, hs, o => by
    by_cases h0 : choices s = []
    · rw [visit_end h0, mem_insO hs, OutOf_done h0, eq_comm (a := o)]
    · rw [OutOf_more h0]
      unfold visit
      rw [if_neg h0]
      have key : ∀ (xs : List Cho), (∀ x ∈ xs, x ∈ choices s) → ∀ l, sortedO l → (o ∈ xs.foldl (fun l x => visit n (next s x) l) l ↔ o ∈ l ∨ ∃ x ∈ xs, OutOf (next s x) o) := by
        intro xs
        induction xs with
        | nil => intro _ l hl; simp
        | cons x xs ih =>
          intro hx l hl'
          have hxm := hx x List.mem_cons_self
          have hln := left_next f.good.ok hxm
          have hv := (visit_ok n (f.good.next hxm) h6 (by omega) l hl').1
          rw [List.foldl_cons, ih (fun y hy => hx y (List.mem_cons_of_mem _ hy)) _ hv, mem_visit n (f.next hxm) h6 (by omega) l hl' o]
          constructor
          · rintro ((h | h) | ⟨y, hy, h⟩)
            · exact .inl h
            · exact .inr ⟨x, List.mem_cons_self, h⟩
            · exact .inr ⟨y, List.mem_cons_of_mem _ hy, h⟩
          · rintro (h | ⟨y, hy, h⟩)
            · exact .inl (.inl h)
            · rcases List.mem_cons.1 hy with rfl | hy
              · exact .inl (.inr h)
              · exact .inr ⟨y, hy, h⟩
      exact key (choices s) (fun _ h => h) l hs
theorem mem_outs {t : Lit} (hv : valid t = true) {o : Out} : o ∈ outs t ↔ OutOf (start t) o := by
  obtain ⟨v1, v2, v3, v4, v5⟩ := valid_iff.1 hv
  unfold outs
  rw [if_pos hv, mem_visit (total t.1) (start_fine hv) v4 (start_left t) [] sorted_nil]
  constructor
  · rintro (h | h)
    · cases h
    · exact h
  · exact .inr
theorem outs_sorted (t : Lit) : sortedO (outs t) := by
  unfold outs
  split
  · rename_i hv
    obtain ⟨v1, v2, v3, v4, v5⟩ := valid_iff.1 hv
    exact (visit_ok (total t.1) (start_good hv) v4 (start_left t) [] sorted_nil).1
  · exact sorted_nil
theorem outs_some {t : Lit} (hv : valid t = true) : outs t ≠ [] := by
  obtain ⟨s', h1, h2⟩ := ends (start_fine hv)
  intro h
  have := (mem_outs hv).2 ⟨s', h1, h2, rfl⟩
  rw [h] at this; cases this
-- lists in order with the same elements are one
theorem sorted_cons {x : Out} {l : List Out} : sortedO (x :: l) ↔ (∀ y ∈ l, cmpO x y < 0) ∧ sortedO l := by
  constructor
  · intro h
    refine ⟨fun y hy => ?_, fun i j hij hj => ?_⟩
    · obtain ⟨i, hi, rfl⟩ := List.getElem_of_mem hy
      have := h 0 (i + 1) (by omega) (by simpa using hi)
      rw [Pl.getD_at (by simp), Pl.getD_at (by simpa using hi)] at this
      simpa using this
    · have := h (i + 1) (j + 1) (by omega) (by simpa using hj)
      simpa using this
  · rintro ⟨h1, h2⟩ i j hij hj
    obtain ⟨j, rfl⟩ : ∃ k, j = k + 1 := ⟨j - 1, by omega⟩
    have hj : j < l.length := by simpa using hj
    cases i with
    | zero =>
      have := h1 (l.getD j out0) (Pl.getD_mem hj _)
      simpa using this
    | succ i =>
      have := h2 i j (by omega) hj
      simpa using this
-- the reference's search in a list
def smallL (l : List Int) : Prop := ∀ v ∈ l, -100000 ≤ v ∧ v ≤ 100000
def smallO (o : Out) : Prop := smallL o.1 ∧ smallL o.2.1
theorem cmpR_sgn : ∀ {a b : List Int}, smallL a → smallL b → (cmpR a b < 0 ↔ cmpI a b < 0) ∧ (cmpR a b = 0 ↔ cmpI a b = 0)
  | [], [], _, _ => ⟨Iff.rfl, Iff.rfl⟩
  | [], y :: b, _, _ => by
    have e1 : cmpR [] (y :: b) = 0 - (((y :: b).length : Nat) : Int) := rfl
    have e2 : cmpI [] (y :: b) = -1 := rfl
    rw [e1, e2, List.length_cons]; omega
  | x :: a, [], _, _ => by
    have e1 : cmpR (x :: a) [] = (((x :: a).length : Nat) : Int) - 0 := rfl
    have e2 : cmpI (x :: a) [] = 1 := rfl
    rw [e1, e2, List.length_cons]; omega
  | x :: a, y :: b, ha, hb => by
    have e1 : cmpR (x :: a) (y :: b) = if x = y then cmpR a b else Go.IntKind.wrap .i64 (x - y) := rfl
    have e2 : cmpI (x :: a) (y :: b) = if x < y then -1 else if y < x then 1 else cmpI a b := rfl
    rw [e1, e2]
    have hx := ha x List.mem_cons_self
    have hy := hb y List.mem_cons_self
    by_cases h : x = y
    · rw [if_pos h, if_neg (by omega), if_neg (by omega)]
      exact cmpR_sgn (fun v hv => ha v (List.mem_cons_of_mem _ hv)) (fun v hv => hb v (List.mem_cons_of_mem _ hv))
    · rw [if_neg h, Pl.wrap_in (by omega) (by omega)]
      by_cases h1 : x < y
      · rw [if_pos h1]; omega
      · rw [if_neg h1, if_pos (by omega)]; omega
theorem cmpQ_sgn {a b : Out} (ha : smallO a) (hb : smallO b) : (cmpQ a b < 0 ↔ cmpO a b < 0) ∧ (cmpQ a b = 0 ↔ cmpO a b = 0) := by
  have h1 := cmpR_sgn ha.1 hb.1
  have h2 := cmpR_sgn ha.2 hb.2
  unfold cmpQ cmpO
  by_cases h : cmpR a.1 b.1 = 0
  · rw [if_neg (by simpa using h), if_pos (h1.2.1 h)]; exact h2
  · rw [if_pos h, if_neg (fun e => h (h1.2.2 e))]; exact h1
theorem inside_of {a b : List Out} (hb : sortedO b) (sa : ∀ o ∈ a, smallO o) (sb : ∀ o ∈ b, smallO o) (h : ∀ o ∈ a, o ∈ b) : inside a b = true := by
  unfold inside
  rw [List.all_eq_true]
  intro x hx
  refine decide_eq_true ?_
  obtain ⟨k, hk, he⟩ := List.getElem_of_mem (h x hx)
  have hkx : b.getD k out0 = x := by rw [Pl.getD_at hk]; exact he
  have hlt : ∀ i, i < k → cmpQ (b.getD i out0) x < 0 := by
    intro i hi
    have h1 := hb i k hi hk
    rw [hkx] at h1
    exact (cmpQ_sgn (sb _ (Pl.getD_mem (by omega) _)) (sa x hx)).1.2 h1
  have hz : cmpQ (b.getD k out0) x = 0 := by
    rw [hkx]; exact (cmpQ_sgn (sa x hx) (sa x hx)).2.2 (cmpO_self x)
  have hf : firstN b x = k := by
    have hle := Pl.tw_le (fun e => decide (cmpQ e x < 0)) b
    rcases Nat.lt_trichotomy (b.takeWhile fun e => decide (cmpQ e x < 0)).length k with h1 | h1 | h1
    · have := Pl.tw_stop (p := fun e => decide (cmpQ e x < 0)) (l := b) (d := out0) (by omega)
      have := of_decide_eq_false this
      exact absurd (hlt _ h1) this
    · exact h1
    · have := of_decide_eq_true (Pl.tw_get (p := fun e => decide (cmpQ e x < 0)) (l := b) (d := out0) h1)
      omega
  unfold added
  rw [hf, if_pos ⟨hk, hz⟩]
theorem outcome_small {s : VSt} (f : Fine s) : smallO (outcome s) := by
  refine ⟨?_, ?_⟩
  · intro v hv
    have hv : v ∈ outN (cat s.1.1) s.2.2.2.2.2.1 (total s.1.1) := hv
    unfold outN at hv
    obtain ⟨e, _, hv⟩ := List.mem_flatMap.1 hv
    split at hv
    · have hv := List.mem_singleton.1 hv
      rw [hv]
      by_cases he : e < s.2.2.2.2.2.1.length
      · have := f.rb _ (Pl.getD_mem he 0); omega
      · rw [Pl.getD_out (by omega)]; omega
    · cases hv
  · intro v hv
    have hv : v ∈ lastN s 3 := hv
    unfold lastN at hv
    obtain ⟨p, hp, rfl⟩ := List.mem_map.1 hv
    have hp := List.mem_range.1 hp
    have hl := (f.good.ok.mem p hp).1
    have := f.bd p hp _ (Pl.getD_mem (i := (memOf s p).length - 1) (by omega) msg0)
    have := f.good.tot
    unfold lastV
    omega
theorem outs_small {t : Lit} (hv : valid t = true) : ∀ o ∈ outs t, smallO o := by
  intro o ho
  obtain ⟨s', h1, h2, rfl⟩ := (mem_outs hv).1 ho
  exact outcome_small (h1.fine (start_fine hv))
end Sp
namespace Sp
open Go.Lf
def opAt (t : Lit) (c i : Nat) : LOp := (t.1.getD c []).getD i op0
def lenAt (t : Lit) (c : Nat) : Nat := (t.1.getD c []).length
def isRd (o : LOp) : Prop := o.1 = 1 ∨ o.1 = 3
instance (o : LOp) : Decidable (isRd o) := by unfold isRd; infer_instance
def ren (ρ : Int → Int) (m : Msg) : Msg := (ρ m.1, m.2)
def mv (π : Nat → Nat) (o : LOp) : LOp := if o.1 = 4 then o else (o.1, (π o.2.1.toNat : Int), o.2.2)
/-- The values that are read, core for core. -/
def outG (t : Lit) (r : Int → Int) : List Int := (List.range t.1.length).flatMap fun c => (List.range (lenAt t c)).flatMap fun (j : Nat) => if isRd (opAt t c j) then [r (bas t c + j)] else []
structure SimP where
  t : Lit
  t' : Lit
  π : Nat → Nat
  ρ : Int → Int
  A : Nat → Nat → Nat → Prop
structure SimP.OK (P : SimP) : Prop where
  rneg : P.ρ (-1) = -1
  rinj : ∀ a b, -1 ≤ a → -1 ≤ b → a ≤ 1000 → b ≤ 1000 → P.ρ a = P.ρ b → a = b
  rnn : ∀ a, 0 ≤ a → 0 ≤ P.ρ a
  p3 : ∀ p, p < 3 → P.π p < 3
  pinj : ∀ p q, p < 3 → q < 3 → P.π p = P.π q → p = q
  a0 : ∀ c, c < P.t'.1.length → P.A c 0 0
  stp : ∀ c i j, c < P.t'.1.length → P.A c i j → i < lenAt P.t' c → ((opAt P.t' c i).1 = 4 ∧ P.A c (i + 1) j) ∨
    (c < P.t.1.length ∧ j < lenAt P.t c ∧ opAt P.t c j = mv P.π (opAt P.t' c i) ∧ P.A c (i + 1) (j + 1) ∧ bas P.t c + j = P.ρ (bas P.t' c + i))
  fin : ∀ c j, c < P.t.1.length → (c < P.t'.1.length → P.A c (lenAt P.t' c) j) → ∀ i, j ≤ i → i < lenAt P.t c → (opAt P.t c i).1 = 4
  rd : ∀ r r' : Int → Int, (∀ c j : Nat, c < P.t'.1.length → j < lenAt P.t' c → isRd (opAt P.t' c j) → r (P.ρ (bas P.t' c + j)) = r' (bas P.t' c + j)) → outG P.t r = outG P.t' r'
structure Sim (P : SimP) (s' s : VSt) : Prop where
  f' : Fine s'
  f : Fine s
  T' : s'.1 = P.t'
  T : s.1 = P.t
  pc : ∀ c, c < P.t'.1.length → P.A c (pcOf s' c).toNat (pcOf s c).toNat
  mem : ∀ p, p < 3 → memOf s (P.π p) = (memOf s' p).map (ren P.ρ)
  vw : ∀ c p, c < P.t'.1.length → c < P.t.1.length → p < 3 → plV s c (P.π p) ≤ plV s' c p
  fe : ∀ p, p < 3 → plF s (P.π p) ≤ plF s' p
  r : ∀ c j : Nat, c < P.t'.1.length → j < lenAt P.t' c → isRd (opAt P.t' c j) → rOf s (P.ρ (bas P.t' c + j)) = rOf s' (bas P.t' c + j)
theorem map_getD (f : Msg → Msg) {m : List Msg} {k : Nat} (h : k < m.length) : (m.map f).getD k msg0 = f (m.getD k msg0) := by
  rw [Pl.getD_at (by simpa using h), Pl.getD_at h, List.getElem_map]
theorem may_ren {ρ : Int → Int} {o o' : LOp} {m : List Msg} {k : Nat} (ho : o.1 = o'.1) (h : may o' m k = true) : may o (m.map (ren ρ)) k = true := by
  unfold may at h ⊢
  simp only [Bool.or_eq_true, decide_eq_true_eq, Bool.not_eq_true'] at h ⊢
  rw [List.length_map, ho]
  rcases h with (h | h) | h
  · exact .inl (.inl h)
  · exact .inl (.inr h)
  · by_cases hk : k + 1 < m.length
    · rw [map_getD _ hk]; exact .inr h
    · rw [Pl.getD_out (by rw [List.length_map]; omega)]; exact .inr rfl
theorem mv_kind (π : Nat → Nat) (o : LOp) : (mv π o).1 = o.1 := by unfold mv; split <;> rfl
theorem mv_oth {π : Nat → Nat} {o : LOp} (h : ¬ o.1 = 4) : mv π o = (o.1, (π o.2.1.toNat : Int), o.2.2) := by unfold mv; rw [if_neg h]
theorem getD_setI {l : List Int} {a b : Nat} {v : Int} (h : a < l.length) : (l.set a v).getD b 0 = if b = a then v else l.getD b 0 := Pl.getD_set b h
theorem Sim.step {P : SimP} (H : P.OK) {s' s : VSt} (h : Sim P s' s) {x : Cho} (hx : x ∈ choices s') : ∃ s2, Reach s s2 ∧ Sim P (next s' x) s2 := by
  have N := h.f'.nx hx
  have X := N.xf
  have f'n := h.f'.next hx
  have hcl : ofC x < P.t'.1.length := by rw [← h.T']; exact X.lt
  have hpc0 := X.pc0
  have hpc1 := X.pc1
  have hop : opX s' x = opAt P.t' (ofC x) (pcOf s' (ofC x)).toNat := by
    show (s'.1.1.getD (ofC x) []).getD _ op0 = _
    rw [h.T']; rfl
  have hil : (pcOf s' (ofC x)).toNat < lenAt P.t' (ofC x) := by
    unfold lenAt; rw [← h.T']; exact hpc1
  have hpcn : ∀ c, (pcOf (next s' x) c).toNat = if c = ofC x then (pcOf s' (ofC x)).toNat + 1 else (pcOf s' c).toNat := by
    intro c
    rw [N.pc c]
    split <;> omega
  rcases H.stp _ _ _ hcl (h.pc _ hcl) hil with ⟨hf, hA⟩ | ⟨hcN, hjl, hopj, hA, hbas⟩
  · -- a fence that the other one does not have
    rw [← hop] at hf
    obtain ⟨n1, n2, n3, n4⟩ := N.fen hf
    refine ⟨s, .refl s, f'n, h.f, h.T', h.T, ?_, ?_, ?_, ?_, ?_⟩
    · intro c hc
      rw [hpcn c]
      split
      · rename_i e; rw [e]; exact hA
      · exact h.pc c hc
    · intro p hp; rw [n1 p hp]; exact h.mem p hp
    · intro c p hc hcN hp
      have h1 := h.vw c p hc hcN hp
      rw [n2 c p (by rw [h.T']; exact hc) hp]
      split <;> omega
    · intro p hp
      have h1 := h.fe p hp
      rw [n3 p hp]; omega
    · intro c j hc hj hr
      have := h.r c j hc hj hr
      show _ = (nR s' x).getD _ 0
      rw [n4]; exact this
  · -- the same step
    rw [← hop] at hopj
    have hcS : ofC x < s.1.1.length := by rw [h.T]; exact hcN
    have hok := h.f.good.ok
    have hpcS := hok.pc _ hcS
    have hlen : (opsOf s (ofC x)).length = lenAt P.t (ofC x) := by
      show (s.1.1.getD (ofC x) []).length = _
      rw [h.T]; rfl
    have hnS : ¬ pcOf s (ofC x) = (opsOf s (ofC x)).length := by omega
    have hnext : nextOp s (ofC x) = mv P.π (opX s' x) := by
      show (s.1.1.getD (ofC x) []).getD _ op0 = _
      rw [h.T]; exact hopj
    have hxe : x = (((ofC x : Nat) : Int), x.2.1, ()) := by
      rw [← X.eq]
    have hxs : x ∈ choices s := by
      by_cases h4 : (opX s' x).1 = 4
      · have := ch_fence hcS hnS (by rw [hnext, mv_kind]; exact h4)
        rw [hxe, X.fen h4]; exact this
      · have hp : (nextOp s (ofC x)).2.1.toNat = P.π (plX s' x) := by
          rw [hnext, mv_oth h4]; show ((P.π _ : Nat) : Int).toNat = _; rw [Int.toNat_natCast]; rfl
        obtain ⟨w1, w2, w3⟩ := N.wlt h4
        have hm := h.mem _ N.p3
        have hv := h.vw _ _ hcl hcN N.p3
        have := ch_other (k := x.2.1.toNat) hcS hnS (by rw [hnext, mv_kind]; exact h4) (by rw [hp, hm, List.length_map]; exact w1) (by rw [hp]; omega)
          (by rw [hp, hm]; exact may_ren (by rw [hnext, mv_kind]) ((X.idx h4).2.2.2))
        rw [hxe]
        have e : ((x.2.1.toNat : Nat) : Int) = x.2.1 := by omega
        rw [e] at this; exact this
    have M := h.f.nx hxs
    have hopS : opX s x = mv P.π (opX s' x) := hnext
    have hevt : evt s x.1 = P.ρ (evt s' x.1) := by
      rw [M.evt, N.evt, h.T, h.T']
      have : ((pcOf s (ofC x)).toNat : Int) = pcOf s (ofC x) := by omega
      have h2 : ((pcOf s' (ofC x)).toNat : Int) = pcOf s' (ofC x) := by omega
      rw [this, h2] at hbas; exact hbas
    have hk : (opX s x).1 = (opX s' x).1 := by rw [hopS, mv_kind]
    have hplX : (opX s' x).1 ≠ 4 → plX s x = P.π (plX s' x) := by
      intro h4
      unfold plX
      rw [hopS, mv_oth h4]; show ((P.π _ : Nat) : Int).toNat = _; rw [Int.toNat_natCast]
    have hmsg : (opX s' x).1 ≠ 4 → msgX s x = ren P.ρ (msgX s' x) := by
      intro h4
      unfold msgX
      rw [hplX h4, h.mem _ N.p3, map_getD _ (N.wlt h4).1]
    have hval : (opX s' x).1 ≠ 4 → (opX s x).2.2.1 = (opX s' x).2.2.1 := by
      intro h4; rw [hopS, mv_oth h4]
    have hnewM : (opX s' x).1 ≠ 4 → newM s x = ren P.ρ (newM s' x) := by
      intro h4
      have a1 : (newM s x).1 = P.ρ (newM s' x).1 := by rw [newM_e, newM_e, hevt]
      have a2 : (newM s x).2.1 = (newM s' x).2.1 := by rw [M.newV, N.newV, hk, hval h4, hmsg h4]; rfl
      have a3 : (newM s x).2.2.1 = (newM s' x).2.2.1 := by rw [M.newA, N.newA, hk]
      exact Prod.ext a1 (Prod.ext a2 (Prod.ext a3 rfl))
    have hpc' : ∀ c, c < P.t'.1.length → P.A c (pcOf (next s' x) c).toNat (pcOf (next s x) c).toNat := by
      intro c hc
      rw [hpcn c, M.pc c]
      by_cases e : c = ofC x
      · rw [if_pos e, if_pos e, e]
        have : (pcOf s (ofC x) + 1).toNat = (pcOf s (ofC x)).toNat + 1 := by omega
        rw [this]; exact hA
      · rw [if_neg e, if_neg e]; exact h.pc c hc
    have hlt := bas_lt (t := s'.1) (i := pcOf s' (ofC x)) X.lt (by unfold opsOf at hpc1; omega)
    have hltS := bas_lt (t := s.1) (i := pcOf s (ofC x)) hcS (by have := hpcS.2; unfold opsOf at this hnS; omega)
    have hb0 := bas_nn s'.1 (ofC x)
    have hb0S := bas_nn s.1 (ofC x)
    have hRset : ∀ v, (opX s' x).1 ≠ 4 → ∀ c j : Nat, c < P.t'.1.length → j < lenAt P.t' c → isRd (opAt P.t' c j) →
        (s.2.2.2.2.2.1.set (evt s x.1).toNat v).getD (P.ρ (bas P.t' c + j)).toNat 0 = (s'.2.2.2.2.2.1.set (evt s' x.1).toNat v).getD (bas P.t' c + j).toNat 0 := by
      intro v h4 c j hc hj hr
      have e1 : (evt s x.1).toNat < s.2.2.2.2.2.1.length := by rw [hok.rl, M.evt]; omega
      have e2 : (evt s' x.1).toNat < s'.2.2.2.2.2.1.length := by rw [h.f'.good.ok.rl, N.evt]; omega
      rw [getD_setI e1, getD_setI e2, hevt]
      have hbn := bas_nn P.t' c
      have hbl := bas_lt (t := P.t') (c := c) (i := (j : Int)) hc (by unfold lenAt at hj; omega)
      have ht8 := h.f'.good.tot
      have ht8' : total P.t'.1 ≤ 8 := by rw [← h.T']; exact ht8
      have hev0 : 0 ≤ evt s' x.1 := by rw [N.evt]; omega
      have q1 := H.rnn (bas P.t' c + j) (by omega)
      have q2 := H.rnn (evt s' x.1) hev0
      by_cases e : bas P.t' c + j = evt s' x.1
      · rw [e, if_pos rfl, if_pos rfl]
      · rw [if_neg (fun e' => e (H.rinj _ _ (by omega) (by omega) (by omega) (by rw [N.evt]; omega) (by omega))), if_neg (by omega)]
        exact h.r c j hc hj hr
    refine ⟨next s x, Reach.one hxs, f'n, h.f.next hxs, h.T', h.T, hpc', ?_, ?_, ?_, ?_⟩
    · intro p hp
      have hp' := H.p3 p hp
      rcases N.kind with k | k | k | k
      · rw [(N.lod k).1 p hp, (M.lod (hk.trans k)).1 _ hp']; exact h.mem p hp
      all_goals first
        | (have kk : (opX s' x).1 = 2 ∨ (opX s' x).1 = 3 := by omega
           have k4 : (opX s' x).1 ≠ 4 := by omega
           rw [(N.wri kk).1 p hp, (M.wri (by rw [hk]; exact kk)).1 _ hp', hplX k4]
           by_cases e : p = plX s' x
           · rw [if_pos e, if_pos (by rw [e]), h.mem p hp, hnewM k4, insM_map]
           · rw [if_neg e, if_neg (fun e' => e (H.pinj _ _ hp N.p3 e'))]; exact h.mem p hp)
        | (rw [(N.fen k).1 p hp, (M.fen (hk.trans k)).1 _ hp']; exact h.mem p hp)
    · intro c p hc hcN' hp
      have hp' := H.p3 p hp
      have hc' : c < s'.1.1.length := by rw [h.T']; exact hc
      have hcS' : c < s.1.1.length := by rw [h.T]; exact hcN'
      have hv := h.vw c p hc hcN' hp
      rcases N.kind with k | k | k | k
      · have k4 : (opX s' x).1 ≠ 4 := by omega
        rw [(N.lod k).2.1 c p hc' hp, (M.lod (hk.trans k)).2.1 c _ hcS' hp', hplX k4]
        by_cases e : c = ofC x ∧ p = plX s' x
        · rw [if_pos e, if_pos ⟨e.1, by rw [e.2]⟩]; exact Int.le_refl _
        · rw [if_neg e, if_neg (fun e' => e ⟨e'.1, H.pinj _ _ hp N.p3 e'.2⟩)]; exact hv
      all_goals first
        | (have kk : (opX s' x).1 = 2 ∨ (opX s' x).1 = 3 := by omega
           have k4 : (opX s' x).1 ≠ 4 := by omega
           rw [(N.wri kk).2.1 c p hc' hp, (M.wri (by rw [hk]; exact kk)).2.1 c _ hcS' hp', hplX k4]
           by_cases e : p = plX s' x
           · rw [if_pos e, if_pos (by rw [e])]
             split
             · exact Int.le_refl _
             · exact sh_mono hv
           · rw [if_neg e, if_neg (fun e' => e (H.pinj _ _ hp N.p3 e'))]; exact hv)
        | (have hf := h.fe p hp
           rw [(N.fen k).2.1 c p hc' hp, (M.fen (hk.trans k)).2.1 c _ hcS' hp']
           split
           · omega
           · exact hv)
    · intro p hp
      have hp' := H.p3 p hp
      have hf := h.fe p hp
      rcases N.kind with k | k | k | k
      · rw [(N.lod k).2.2.1 p hp, (M.lod (hk.trans k)).2.2.1 _ hp']; exact hf
      all_goals first
        | (have kk : (opX s' x).1 = 2 ∨ (opX s' x).1 = 3 := by omega
           have k4 : (opX s' x).1 ≠ 4 := by omega
           rw [(N.wri kk).2.2.1 p hp, (M.wri (by rw [hk]; exact kk)).2.2.1 _ hp', hplX k4]
           by_cases e : p = plX s' x
           · rw [if_pos e, if_pos (by rw [e])]; exact sh_mono hf
           · rw [if_neg e, if_neg (fun e' => e (H.pinj _ _ hp N.p3 e'))]; exact hf)
        | (have hv := h.vw _ p hcl hcN hp
           rw [(N.fen k).2.2.1 p hp, (M.fen (hk.trans k)).2.2.1 _ hp']
           omega)
    · intro c j hc hj hr
      show (nR s x).getD _ 0 = (nR s' x).getD _ 0
      rcases N.kind with k | k | k | k
      · have k4 : (opX s' x).1 ≠ 4 := by omega
        rw [(N.lod k).2.2.2, (M.lod (hk.trans k)).2.2.2, hmsg k4]
        exact hRset _ k4 c j hc hj hr
      · rw [(N.wri (.inl k)).2.2.2, (M.wri (.inl (hk.trans k))).2.2.2, if_pos k, if_pos (hk.trans k)]
        exact h.r c j hc hj hr
      · have k4 : (opX s' x).1 ≠ 4 := by omega
        rw [(N.wri (.inr k)).2.2.2, (M.wri (.inr (hk.trans k))).2.2.2, if_neg (by omega), if_neg (by omega), hmsg k4]
        exact hRset _ k4 c j hc hj hr
      · rw [(N.fen k).2.2.2, (M.fen (hk.trans k)).2.2.2]
        exact h.r c j hc hj hr
theorem Sim.run {P : SimP} (H : P.OK) {s' e : VSt} (hr : Reach s' e) : ∀ {s : VSt}, Sim P s' s → ∃ s2, Reach s s2 ∧ Sim P e s2 := by
  induction hr with
  | refl s' => exact fun {s} h => ⟨s, .refl s, h⟩
  | step hx _ ih =>
    intro s h
    obtain ⟨s2, h1, h2⟩ := h.step H hx
    obtain ⟨s3, h3, h4⟩ := ih h2
    exact ⟨s3, h1.trans h3, h4⟩
/-- Fences that are left change nothing that is read. -/
theorem fences_left {s : VSt} (f : Fine s) (hl : ∀ c, c < s.1.1.length → ∀ i : Nat, (pcOf s c).toNat ≤ i → i < lenAt s.1 c → (opAt s.1 c i).1 = 4) :
    ∃ s2, Reach s s2 ∧ choices s2 = [] ∧ (∀ p, p < 3 → memOf s2 p = memOf s p) ∧ s2.2.2.2.2.2.1 = s.2.2.2.2.2.1 := by
  generalize hn : left s = n
  induction n generalizing s with
  | zero => exact ⟨s, .refl s, left_zero f.good.ok hn, fun _ _ => rfl, rfl⟩
  | succ n ih =>
    cases h : choices s with
    | nil => exact ⟨s, .refl s, h, fun _ _ => rfl, rfl⟩
    | cons x xs =>
      have hx : x ∈ choices s := by rw [h]; exact List.mem_cons_self
      have hln := left_next f.good.ok hx
      have N := f.nx hx
      have h4 : (opX s x).1 = 4 := hl _ N.xf.lt _ (Nat.le_refl _) N.xf.pc1
      obtain ⟨n1, _, _, n4⟩ := N.fen h4
      obtain ⟨s2, r1, r2, r3, r4⟩ := ih (f.next hx) (fun c hc i hi hil => hl c hc i (by
        rw [N.pc c] at hi
        have := N.xf.pc0
        split at hi
        · rename_i e; rw [e]; omega
        · exact hi) hil) (by omega)
      exact ⟨s2, .step hx r1, r2, fun p hp => by rw [r3 p hp, n1 p hp], by rw [r4]; exact n4⟩
-- the values that are read
theorem total_consS (l : List LOp) (P : List (List LOp)) : total (l :: P) = l.length + total P := by unfold total; simp
theorem cat_get {P : List (List LOp)} : ∀ {c j : Nat}, c < P.length → j < (P.getD c []).length → (cat P).getD (total (P.take c) + j) op0 = (P.getD c []).getD j op0 := by
  induction P with
  | nil => intro c j hc _; exact absurd hc (Nat.not_lt_zero _)
  | cons l P ih =>
    intro c j hc hj
    unfold cat
    rw [List.flatten_cons, List.getD_eq_getElem?_getD]
    cases c with
    | zero =>
      have hj : j < l.length := hj
      rw [List.take_zero, show total ([] : List (List LOp)) = 0 from rfl, Nat.zero_add, List.getElem?_append_left hj, List.getD_eq_getElem?_getD]; rfl
    | succ c =>
      have hc : c < P.length := by simpa using hc
      have hj : j < (P.getD c []).length := hj
      rw [List.take_succ_cons, total_consS, Nat.add_assoc, List.getElem?_append_right (by omega), Nat.add_sub_cancel_left, ← List.getD_eq_getElem?_getD]
      exact ih hc hj
theorem fm_congr {α β : Type} {f g : α → List β} : ∀ {l : List α}, (∀ a ∈ l, f a = g a) → l.flatMap f = l.flatMap g
  | [], _ => rfl
  | a :: l, h => by
    rw [List.flatMap_cons, List.flatMap_cons, h a List.mem_cons_self, fm_congr fun b hb => h b (List.mem_cons_of_mem _ hb)]
theorem range_add {a b : Nat} : List.range (a + b) = List.range a ++ (List.range b).map (fun k => a + k) := List.range_add
theorem outG_eq (t : Lit) (r : List Int) : outN (cat t.1) r (total t.1) = outG t (fun e => r.getD e.toNat 0) := by
  have key : ∀ n, n ≤ t.1.length → outN (cat t.1) r (total (t.1.take n)) = (List.range n).flatMap fun c => (List.range (lenAt t c)).flatMap fun (j : Nat) => if isRd (opAt t c j) then [r.getD (bas t c + j).toNat 0] else [] := by
    intro n
    induction n with
    | zero => intro _; rfl
    | succ n ih =>
      intro hn
      rw [List.range_succ, List.flatMap_append, ← ih (by omega), total_takeS (by omega : n < t.1.length)]
      unfold outN
      rw [range_add, List.flatMap_append]
      congr 1
      rw [List.flatMap_singleton, List.flatMap_map]
      refine fm_congr fun j hj => ?_
      have hj := List.mem_range.1 hj
      rw [cat_get (by omega) hj]
      have e : (bas t n + (j : Int)).toNat = total (t.1.take n) + j := by unfold bas; omega
      rw [e]; rfl
  have := key t.1.length (Nat.le_refl _)
  rw [List.take_length] at this
  exact this
theorem outcome_eq {s : VSt} : outcome s = (outG s.1 (rOf s), lastN s 3, ()) := by
  unfold outcome outR
  rw [outG_eq]; rfl
/-- Each outcome of the test that leads is one of the test that follows, its places exchanged. -/
theorem Sim.out {P : SimP} (H : P.OK) (hv : valid P.t = true) (hv' : valid P.t' = true) {o : Out} (ho : OutOf (start P.t') o) :
    ∃ o2, OutOf (start P.t) o2 ∧ o2.1 = o.1 ∧ o2.2.1.length = 3 ∧ o.2.1.length = 3 ∧ ∀ p, p < 3 → o2.2.1.getD (P.π p) 0 = o.2.1.getD p 0 := by
  obtain ⟨s', r1, r2, rfl⟩ := ho
  have h0 : Sim P (start P.t') (start P.t) := by
    have o1 := (start_good hv).ok
    have o2 := (start_good hv').ok
    have hV : ∀ (t : Lit) c p, c < t.1.length → p < 3 → plV (start t) c p = 0 := by
      intro t c p hc hp
      unfold plV Sp.vw
      rw [start_mem t hp, start_row t hc, v0_get hp]; decide
    have hF : ∀ (t : Lit) p, p < 3 → plF (start t) p = 0 := by
      intro t p hp
      unfold plF
      rw [start_mem t hp]
      show plc [m0] (v0.getD p 0) = 0
      rw [v0_get hp]; decide
    refine ⟨start_fine hv', start_fine hv, rfl, rfl, ?_, ?_, ?_, ?_, ?_⟩
    · intro c hc
      rw [start_pc, start_pc]; exact H.a0 c hc
    · intro p hp
      rw [start_mem _ hp, start_mem _ (H.p3 p hp)]
      show [m0] = [ren P.ρ m0]
      have : ren P.ρ m0 = m0 := by
        show (P.ρ (-1), m0.2) = m0
        rw [H.rneg]; rfl
      rw [this]
    · intro c p hc hcN hp
      rw [hV _ c p hc hp, hV _ c _ hcN (H.p3 p hp)]; exact Int.le_refl _
    · intro p hp
      rw [hF _ p hp, hF _ _ (H.p3 p hp)]; exact Int.le_refl _
    · intro c j hc hj hr
      have z : ∀ n k, (zeros n).getD k 0 = 0 := by
        intro n k
        by_cases h : k < n
        · exact rep_get h _ _
        · exact Pl.getD_out (by unfold zeros; rw [List.length_replicate]; omega) _
      show (zeros _).getD _ 0 = (zeros _).getD _ 0
      rw [z, z]
  obtain ⟨s, q1, q2⟩ := Sim.run H r1 h0
  have hd := (done_iff q2.f'.good.ok).1 r2
  obtain ⟨s2, w1, w2, w3, w4⟩ := fences_left q2.f (fun c hc i hi hil => by
    rw [q2.T] at hc hil ⊢
    refine H.fin c (pcOf s c).toNat hc (fun hc' => ?_) i hi hil
    have := q2.pc c hc'
    have hdc := hd c (by rw [q2.T']; exact hc')
    have e : (pcOf s' c).toNat = lenAt P.t' c := by
      have : (opsOf s' c).length = lenAt P.t' c := by show (s'.1.1.getD c []).length = _; rw [q2.T']; rfl
      omega
    rw [e] at this; exact this)
  have hlit : s2.1 = P.t := by rw [w1.lit, q2.T]
  refine ⟨outcome s2, ⟨s2, q1.trans w1, w2, rfl⟩, ?_, by unfold outcome lastN; simp, by unfold outcome lastN; simp, ?_⟩
  · rw [outcome_eq, outcome_eq, hlit, q2.T']
    refine H.rd _ _ fun c j hc hj hr => ?_
    have := q2.r c j hc hj hr
    show (s2.2.2.2.2.2.1).getD _ 0 = _
    rw [w4]; exact this
  · intro p hp
    have hp' := H.p3 p hp
    have hL : ∀ (s : VSt) k, k < 3 → (outcome s).2.1.getD k 0 = lastV (memOf s k) := by
      intro s k hk
      have : k = 0 ∨ k = 1 ∨ k = 2 := by omega
      rcases this with rfl | rfl | rfl <;> rfl
    rw [hL _ _ hp', hL _ _ hp, w3 _ hp', q2.mem p hp]
    unfold lastV
    have hml := (q2.f'.good.ok.mem p hp).1
    rw [List.length_map, map_getD _ (by omega)]; rfl
end Sp
namespace Go.User
open Go.Proofs Go.Lf
set_option maxRecDepth 100000
theorem vc13 : (funI C13 (stpS C13) S13 L13 Try.f13) = (
let q0 : Nat := (1000 : Nat);
let q1 : Prop := True ∧ True ∧ True;
let q2 : Prop := True ∧ q1;
∀ (x : (List (List (Int × Int × Int × Unit)) × Unit) × Unit),
  let q3 : Prop := Sp.total x.1.1 ≤ q0;
  let q4 : List (List Int × List Int × Unit) × Int × Unit := (Sp.outs x.1, Sp.errA x.1, ());
  q3 → dFact (((Ty.int IntKind.i64).prod ((Ty.int IntKind.i64).prod ((Ty.int IntKind.i64).prod Ty.unit))).slice.slice.prod Ty.unit) x.1 ∧ True → (q1 ∧ True) ∧ ((True ∧ q3 ∧ True ∧ True ∧ q2) ∧ True) ∧ (q2 ∧ True ∧ True) ∧ q4 = q4) := by kernel_rfl
theorem vc34 : (funI C34 (stpS C34) S34 L34 Try.f34) = (
∀ (x : List (Int × Int × Int × Unit) × List (Int × Int × Int × Unit) × Unit), True → dFact ((Ty.int IntKind.i64).prod ((Ty.int IntKind.i64).prod ((Ty.int IntKind.i64).prod Ty.unit))).slice x.1 ∧ dFact ((Ty.int IntKind.i64).prod ((Ty.int IntKind.i64).prod ((Ty.int IntKind.i64).prod Ty.unit))).slice x.2.1 ∧ True → ((True ∧ True) ∧ True) ∧ ((True ∧ True ∧ True ∧ True ∧ True) ∧ True ∧ True) ∧ (x.1 :: x.2.1 :: ([] : List tLOp.slice.den), ()) = Sp.tst x.1 x.2.1) := by kernel_rfl
theorem vc35 : (funI C35 (stpS C35) S35 L35 Try.f35) = (
∀ (x : Int × Unit), True → dFact (Ty.int IntKind.i64) x.1 ∧ True → ((True ∧ True) ∧ True) ∧ ((True ∧ True ∧ True) ∧ True ∧ True) ∧ ((2 : Int), x.1, (1 : Int), ()) = Sp.stO x.1) := by kernel_rfl
theorem vc36 : (funI C36 (stpS C36) S36 L36 Try.f36) = (
∀ (x : Int × Unit), True → dFact (Ty.int IntKind.i64) x.1 ∧ True → ((True ∧ True) ∧ True) ∧ ((True ∧ True ∧ True) ∧ True ∧ True) ∧ ((1 : Int), x.1, (0 : Int), ()) = Sp.ldO x.1) := by kernel_rfl
theorem vc37 : (funI C37 (stpS C37) S37 L37 Try.f37) = (
let q0 : Int := (0 : Int);
∀ (x : Unit), True → True → ((True ∧ True) ∧ True) ∧ ((True ∧ True) ∧ True ∧ True) ∧ ((4 : Int), q0, q0, ()) = Sp.feO) := by kernel_rfl
theorem vc11 : (funI C11 (stpS C11) S11 L11 Try.f11) = (
let q0 : Prop := (True ∧ True) ∧ True;
let q1 : Int := (0 : Int);
let q2 : Int × Int × Int × Unit := Sp.stO q1;
let q3 : Int := (1 : Int);
let q4 : Int × Int × Int × Unit := Sp.ldO q3;
let q5 : List (Int × Int × Int × Unit) := q4 :: ([] : List tLOp.den);
let q6 : List (Int × Int × Int × Unit) := q2 :: q5;
let q7 : Int × Int × Int × Unit := Sp.stO q3;
let q8 : Int × Int × Int × Unit := Sp.ldO q1;
let q9 : List (Int × Int × Int × Unit) := q8 :: ([] : List tLOp.den);
let q10 : List (Int × Int × Int × Unit) := q7 :: q9;
let q11 : Nat := (1000 : Nat);
let q12 : List (Int × Int × Int × Unit) := q2 :: Sp.feO :: q5;
let q13 : List (Int × Int × Int × Unit) := q7 :: Sp.feO :: q9;
let q14 : List (Int × Int × Int × Unit) := q8 :: q7 :: ([] : List tLOp.den);
let q15 : List (Int × Int × Int × Unit) := q4 :: q2 :: ([] : List tLOp.den);
let q16 : List (List (Int × Int × Int × Unit)) := ([] : List tLOp.slice.den);
let q17 : Prop := (true && true) = true → True;
let q18 : List (List (Int × Int × Int × Unit)) × Unit := Sp.tst q6 q10;
let q19 : List (List (Int × Int × Int × Unit)) × Unit := Sp.tst q12 q13;
let q20 : List (List (Int × Int × Int × Unit)) × Unit := Sp.tst q14 q15;
let q21 : Bool := bif bif bif Sp.errA q18 != q1 then true else Sp.errA q19 != q1 then true else Sp.errA q20 != q1 then true else Sp.errA (q16, ()) != (300 : Int);
let q22 : List (List Int × List Int × Unit) := Sp.outs q18;
let q23 : List (List Int × List Int × Unit) := Sp.outs q19;
let q24 : Int := (3 : Int);
let q25 : List (List Int × List Int × Unit) := Sp.outs q20;
∀ (x : Unit), True → True → q0 ∧ ((True ∧ True ∧ True ∧ True ∧ True ∧ True ∧ True ∧ Sp.total (q6 :: q10 :: ([] : List (List Sp.LOp))) ≤ q11 ∧ True ∧ True) ∧ True ∧ True) ∧ ((True ∧ True ∧ True ∧ True ∧ True ∧ True ∧ True ∧ True ∧ True ∧ Sp.total (q12 :: q13 :: ([] : List (List Sp.LOp))) ≤ q11 ∧ True ∧ True) ∧ True ∧ True) ∧ ((True ∧ True ∧ True ∧ True ∧ True ∧ True ∧ True ∧ Sp.total (q14 :: q15 :: ([] : List (List Sp.LOp))) ≤ q11 ∧ True ∧ True) ∧ True ∧ True) ∧ ((True ∧ Sp.total q16 ≤ q11 ∧ True ∧ True) ∧ True ∧ True) ∧ ((True ∧ True ∧ True ∧ True ∧ q17 ∧ q17 ∧ q17 ∧ True ∧ True ∧ q17 ∧ q17 ∧ q17 ∧ True ∧ True ∧ q17 ∧ q17 ∧ q17 ∧ True ∧ True) ∧ True) ∧ (q21 = true → q0 ∧ false = Sp.exOK) ∧ (q21 = false → ((True ∧ True ∧ True ∧ True ∧ q17 ∧ q17 ∧ q17 ∧ True ∧ True ∧ q17 ∧ q17 ∧ q17 ∧ q17 ∧ True ∧ True ∧ q17 ∧ q17 ∧ q17 ∧ q17 ∧ True ∧ True ∧ q17 ∧ q17 ∧ q17 ∧ q17 ∧ True ∧ True ∧ q17 ∧ q17 ∧ q17 ∧ q17 ∧ True ∧ True ∧ q17 ∧ q17 ∧ q17 ∧ q17 ∧ True ∧ True ∧ True) ∧ True) ∧ (bif bif bif bif bif bif Sp.rds q22 q1 q1 then Sp.rds q22 q3 q3 else false then (↑q22.length : Int) == (4 : Int) else false then !Sp.rds q23 q1 q1 else false then (↑q23.length : Int) == q24 else false then !Sp.rds q25 q3 q3 else false then (↑q25.length : Int) == q24 else false) = Sp.exOK)) := by kernel_rfl
end Go.User
namespace Go.User
open Go.Lf Go.Proofs
theorem ex_e : Sp.exE = true := by kernel_rfl
theorem ex_l : Sp.exL = true := by kernel_rfl
theorem ex_ok : Sp.exOK = true := by
  unfold Sp.exOK; rw [if_pos ex_e]; exact ex_l
theorem ok13 : FOk Try.prog 13 S13 := by
  have hC : CtxOK Try.prog C13 := okC (fns_cons ok39 fns_nil) rfl rfl rfl rfl rfl rfl rfl
  refine FOk.intro hC (stpS_ok hC) Try.call13 Try.func13 (by kernel_rfl) (by kernel_rfl) L13 (vc13.mpr ?_)
  simp only [z1, z2, z3, z4, z5, z6, z7, z8, z9, z10, z11, z12, z13, z14, z15, z16, z17, z18, z19, z20, z21, z22, z23, z24, z25, z26, z27, z28, z29, z30, z31, z32, z33, z34, z35, z36, z37, z38]
  exact fun x h _ => h
theorem ok34 : FOk Try.prog 34 S34 := by
  have hC : CtxOK Try.prog C34 := okC fns_nil rfl rfl rfl rfl rfl rfl rfl
  refine FOk.intro hC (stpS_ok hC) Try.call34 Try.func34 (by kernel_rfl) (by kernel_rfl) L34 (vc34.mpr ?_)
  simp only [z1, z2, z3, z4, z5, z6, z7, z8, z9, z10, z11, z12, z13, z14, z15, z16, z17, z18, z19, z20, z21, z22, z23, z24, z25, z26, z27, z28, z29, z30, z31, z32, z33, z34, z35, z36, z37, z38]
  exact fun x _ => rfl
theorem ok35 : FOk Try.prog 35 S35 := by
  refine FOk.intro (okA fns_nil) (stpS_ok (okA fns_nil)) Try.call35 Try.func35 (by kernel_rfl) (by kernel_rfl) L35 (vc35.mpr ?_)
  simp only [z1, z2, z3, z4, z5, z6, z7, z8, z9, z10, z11, z12, z13, z14, z15, z16, z17, z18, z19, z20, z21, z22, z23, z24, z25, z26, z27, z28, z29, z30, z31, z32, z33, z34, z35, z36, z37, z38]
  exact fun x _ => rfl
theorem ok36 : FOk Try.prog 36 S36 := by
  refine FOk.intro (okA fns_nil) (stpS_ok (okA fns_nil)) Try.call36 Try.func36 (by kernel_rfl) (by kernel_rfl) L36 (vc36.mpr ?_)
  simp only [z1, z2, z3, z4, z5, z6, z7, z8, z9, z10, z11, z12, z13, z14, z15, z16, z17, z18, z19, z20, z21, z22, z23, z24, z25, z26, z27, z28, z29, z30, z31, z32, z33, z34, z35, z36, z37, z38]
  exact fun x _ => rfl
theorem ok37 : FOk Try.prog 37 S37 := by
  refine FOk.intro (okA fns_nil) (stpS_ok (okA fns_nil)) Try.call37 Try.func37 (by kernel_rfl) (by kernel_rfl) L37 (vc37.mpr ?_)
  simp only [z1, z2, z3, z4, z5, z6, z7, z8, z9, z10, z11, z12, z13, z14, z15, z16, z17, z18, z19, z20, z21, z22, z23, z24, z25, z26, z27, z28, z29, z30, z31, z32, z33, z34, z35, z36, z37, z38]
  first | exact fun _ => rfl | rfl
theorem ok11 : FOk Try.prog 11 S11 := by
  have hC : CtxOK Try.prog C11 := okC (fns_cons ok13 (fns_cons ok34 (fns_cons ok35 (fns_cons ok36 (fns_cons ok37 (fns_cons ok38 fns_nil)))))) rfl rfl rfl rfl rfl rfl rfl
  refine FOk.intro hC (stpS_ok hC) Try.call11 Try.func11 (by kernel_rfl) (by kernel_rfl) L11 (vc11.mpr ?_)
  simp only [z1, z2, z3, z4, z5, z6, z7, z8, z9, z10, z11, z12, z13, z14, z15, z16, z17, z18, z19, z20, z21, z22, z23, z24, z25, z26, z27, z28, z29, z30, z31, z32, z33, z34, z35, z36, z37, z38]
  refine ⟨by decide, by decide, by decide, by decide, fun h => ?_, fun _ => ?_⟩
  · have hf : ∀ {b : Bool}, b = true → b = false → false = Sp.exOK := fun h1 h2 => by rw [h1] at h2; cases h2
    exact hf h (by kernel_rfl)
  · kernel_rfl
end Go.User
namespace Go.User
open Go.Proofs Go.Lf
set_option maxRecDepth 100000
theorem vc12 : (funI C12 (stpS C12) S12 L12 Try.f12) = (
let q0 : Nat := (4 : Nat);
let q1 : Prop := (True ∧ True) ∧ True;
let q2 : Prop := True ∧ True ∧ True;
let q3 : Int := (0 : Int);
let q4 : List (List (Int × Int × Int × Unit)) := ([] : List tLOp.slice.den);
let q5 : List (List (Int × Int × Int × Unit)) × Unit := (q4, ());
let q6 : Prop := q5 = q5;
let q7 : Prop := q6 ∧ True;
let q8 : Int := (4 : Int);
let q9 : Prop := q8 ≠ q3;
let q10 : Nat := (1 : Nat);
let q11 : List Int := List.replicate q0 q3;
let q12 : Nat := q3.toNat;
let q13 : Prop := True ∧ q2;
let q14 : Prop := True ∧ q13;
let q15 : List (List (Int × Int × Int × Unit)) := ([] : List tLOp.den) :: q4;
let q16 : List Step := List.append._f (([] : List Step)) PUnit.unit (Step.fst :: ([] : List Step));
let q17 : Int := (1 : Int);
let q18 : Int := (6 : Int);
let q19 : Nat := q17.toNat;
let q20 : Int := (2 : Int);
let q21 : Int := (3 : Int);
let q22 : List Int := q17 :: q20 :: q17 :: q20 :: q21 :: q8 :: ([] : List tI.den);
let q23 : Nat := q21.toNat;
let q24 : Prop := (True ∧ True) ∧ True ∧ True;
let q25 : Prop := q13 ∧ True;
let q26 : Int × Unit := (q3, ());
let q27 : Int × Int × Unit := (q3, q26);
let q28 : Nat := q20.toNat;
∀ (x : List (List Int) × Int × Unit),
  let q29 : Nat := Sp.mT x.1 x.2.1;
  let q30 : Prop := x.1 = x.1;
  let q31 : Prop := x.2.1 = x.2.1;
  let q32 : Prop := q30 ∧ q31 ∧ q7;
  let q33 : Nat := x.1.length;
  let q34 : List (List (Int × Int × Int × Unit)) × Unit := Sp.made x.1 x.2.1;
  (0 : (AK.val tI).den) ≤ x.2.1 ∧ x.2.1 ≤ (6 : (AK.val tI).den) →
    dFact (Ty.arr q0 (Ty.int IntKind.u8)).slice x.1 ∧ dFact (Ty.int IntKind.i64) x.2.1 ∧ True →
      q1 ∧
        (q2 ∧ True ∧ True) ∧
          q1 ∧
            (∃ (x_1 : Nat), x_1 ≤ q29 ∧ q3 = (↑x_1 : Int) ∧ q5 = (Sp.mN x.1 x_1, ()) ∧ q32) ∧
              ∀ (x_1 : Nat),
                let q35 : List (List (Int × Int × Int × Unit)) × Unit := (Sp.mN x.1 x_1, ());
                let q36 : Bool := decide ((↑x_1 : Int) < (↑q33 : Int));
                let q37 : Prop := (true && bif q36 then true else false) = true → True;
                let q38 : Bool := bif q36 then decide ((↑x_1 : Int) < x.2.1) else false;
                let q39 : Prop := inN (↑x_1 : Int) q33;
                let q40 : Nat := Sp.mC x.1 x_1 + q10 - (Sp.mN x.1 x_1).length;
                let q41 : List Int := x.1.getD (↑x_1 : Int).toNat q11;
                let q42 : Int := q41.getD q12 q3 % q8;
                let q43 : Prop := q30 ∧ q31 ∧ q6 ∧ (↑x_1 : Int) = (↑x_1 : Int) ∧ q42 = q42 ∧ True;
                let q44 : Int := q41.getD q19 q3 % q18;
                let q45 : Int := q41.getD q23 q3 % q8 + q17;
                let q46 : Int := q22.getD q44.toNat q3;
                let q47 : Bool := q46 == q17;
                let q48 : Prop := (true && bif q47 then false else true) = true → True;
                let q49 : Bool := q46 == q8;
                let q50 : Bool := bif q47 then true else q49;
                let q51 : Prop := q49 = true;
                let q52 : Nat := q42.toNat;
                let q53 : List (Int × Int × Int × Unit) := (q46, q27) :: ([] : List tLOp.den);
                let q54 : Int := (↑x_1 : Int) + q17;
                let q55 : Prop := (True ∧ inK IntKind.i64 q54 ∧ True ∧ True) ∧ True;
                let q56 : Prop := q49 = false;
                let q57 : Int := q41.getD q28 q3 % q21;
                let q58 : List (Int × Int × Int × Unit) := (q46, q57, q26) :: ([] : List tLOp.den);
                let q59 : Int × Unit := (q45, ());
                let q60 : List (Int × Int × Int × Unit) := (q46, q3, q59) :: ([] : List tLOp.den);
                let q61 : List (Int × Int × Int × Unit) := (q46, q57, q59) :: ([] : List tLOp.den);
                let q62 : Bool := (↑(Sp.mN x.1 x_1).length : Int) == q3;
                x_1 ≤ q29 →
                  dFact (Ty.int IntKind.i64) (↑x_1 : Int) ∧ dFact (((Ty.int IntKind.i64).prod ((Ty.int IntKind.i64).prod ((Ty.int IntKind.i64).prod Ty.unit))).slice.slice.prod Ty.unit) q35 ∧ True →
                    ((True ∧ True ∧ True ∧ True ∧ True ∧ q37 ∧ q37 ∧ q37 ∧ True ∧ True) ∧ True) ∧
                      (q38 = true →
                          ((True ∧ True ∧ q39 ∧ inN q3 q0 ∧ True ∧ q9 ∧ q2) ∧ True) ∧
                            (∃ (x_2 : Nat), x_2 ≤ q40 ∧ q35 = (Sp.mG x.1 x_1 x_2, ()) ∧ q43) ∧
                              ∀ (x_2 : Nat),
                                let q63 : List (List (Int × Int × Int × Unit)) := Sp.mG x.1 x_1 x_2;
                                let q64 : Nat := q63.length;
                                let q65 : Bool := decide ((↑q64 : Int) ≤ q42);
                                let q66 : Prop := inN q42 q64;
                                let q67 : List (Int × Int × Int × Unit) := q63.getD q52 (([] : List tLOp.den));
                                let q68 : Nat := q67.length;
                                let q69 : Prop := (↑((0 : Nat) + q68) : Int) ≤ maxNew;
                                let q70 : Prop := q66 ∧ True;
                                x_2 ≤ q40 → dFact (((Ty.int IntKind.i64).prod ((Ty.int IntKind.i64).prod ((Ty.int IntKind.i64).prod Ty.unit))).slice.slice.prod Ty.unit) (q63, ()) ∧ True → ((True ∧ q14) ∧ True) ∧ (q65 = true → (q13 ∧ (↑(q64 + q15.length) : Int) ≤ maxNew ∧ True ∧ q16 = q16 ∧ True) ∧ ∃ (y : Nat), y ≤ q40 ∧ q40 - y < q40 - x_2 ∧ (q63 ++ q15, ()) = (Sp.mG x.1 x_1 y, ()) ∧ q43) ∧ (q65 = false → ((True ∧ True ∧ True ∧ q39 ∧ inN q17 q0 ∧ True ∧ q18 ≠ q3 ∧ inN q44 q22.length ∧ True ∧ True ∧ True ∧ q39 ∧ inN q20 q0 ∧ True ∧ q21 ≠ q3 ∧ True ∧ True ∧ True ∧ q39 ∧ inN q21 q0 ∧ True ∧ q9 ∧ True ∧ inK IntKind.i64 q45 ∧ q2) ∧ True ∧ True) ∧ ((True ∧ True ∧ True ∧ True ∧ q48 ∧ q48 ∧ q48 ∧ True ∧ True) ∧ True) ∧ (q50 = true → q24 ∧ q25 ∧ (q51 → q24 ∧ ((True ∧ True ∧ True ∧ True ∧ True ∧ True ∧ True ∧ q66 ∧ True ∧ q69 ∧ True ∧ True ∧ (↑(q68 + q53.length) : Int) ≤ maxNew ∧ q70) ∧ True ∧ True) ∧ q55 ∧ ∃ (y : Nat), y ≤ q29 ∧ q29 - y < q29 - x_1 ∧ q54 = (↑y : Int) ∧ (q63.set q52 (q67 ++ q53), ()) = (Sp.mN x.1 y, ()) ∧ q32) ∧ (q56 → ((True ∧ True ∧ True ∧ True ∧ True ∧ True ∧ True ∧ q66 ∧ True ∧ q69 ∧ True ∧ True ∧ (↑(q68 + q58.length) : Int) ≤ maxNew ∧ q70) ∧ True ∧ True) ∧ q55 ∧ ∃ (y : Nat), y ≤ q29 ∧ q29 - y < q29 - x_1 ∧ q54 = (↑y : Int) ∧ (q63.set q52 (q67 ++ q58), ()) = (Sp.mN x.1 y, ()) ∧ q32)) ∧ (q50 = false → q25 ∧ (q51 → q24 ∧ ((True ∧ True ∧ True ∧ True ∧ True ∧ True ∧ True ∧ q66 ∧ True ∧ q69 ∧ True ∧ True ∧ (↑(q68 + q60.length) : Int) ≤ maxNew ∧ q70) ∧ True ∧ True) ∧ q55 ∧ ∃ (y : Nat), y ≤ q29 ∧ q29 - y < q29 - x_1 ∧ q54 = (↑y : Int) ∧ (q63.set q52 (q67 ++ q60), ()) = (Sp.mN x.1 y, ()) ∧ q32) ∧ (q56 → ((True ∧ True ∧ True ∧ True ∧ True ∧ True ∧ True ∧ q66 ∧ True ∧ q69 ∧ True ∧ True ∧ (↑(q68 + q61.length) : Int) ≤ maxNew ∧ q70) ∧ True ∧ True) ∧ q55 ∧ ∃ (y : Nat), y ≤ q29 ∧ q29 - y < q29 - x_1 ∧ q54 = (↑y : Int) ∧ (q63.set q52 (q67 ++ q61), ()) = (Sp.mN x.1 y, ()) ∧ q32)))) ∧
                        (q38 = false → (q14 ∧ True) ∧ (q62 = true → (q14 ∧ True ∧ True) ∧ q24 ∧ (((q17, q27) :: ([] : List tLOp.den)) :: q4, ()) = q34) ∧ (q62 = false → q24 ∧ q35 = q34))) := by kernel_rfl
end Go.User
namespace Sp
theorem mC_lt (x : List (List Int)) (i : Nat) : mC x i < 4 := by unfold mC; omega
theorem gro_len (P : List (List LOp)) (c : Nat) : (gro P c).length = P.length + (c + 1 - P.length) := by unfold gro; rw [List.length_append, List.length_replicate]
theorem mN_len (x : List (List Int)) : ∀ i, (mN x i).length ≤ 4
  | 0 => by show 0 ≤ 4; omega
  | i + 1 => by
    show (mPut (mN x i) (mC x i) (mOp x i)).length ≤ 4
    unfold mPut
    rw [List.length_set, gro_len]
    have := mN_len x i
    have := mC_lt x i
    omega
theorem gro_el {P : List (List LOp)} {c n : Nat} (h : ∀ l ∈ P, l.length ≤ n) : ∀ l ∈ gro P c, l.length ≤ n := by
  intro l hl
  unfold gro at hl
  rcases List.mem_append.1 hl with hl | hl
  · exact h l hl
  · rw [List.eq_of_mem_replicate hl]; exact Nat.zero_le _
theorem getD_el {P : List (List LOp)} {n : Nat} (h : ∀ l ∈ P, l.length ≤ n) (c : Nat) : (P.getD c []).length ≤ n := by
  by_cases hc : c < P.length
  · exact h _ (Pl.getD_mem hc _)
  · rw [Pl.getD_out (by omega)]; exact Nat.zero_le _
theorem mN_el (x : List (List Int)) : ∀ i, ∀ l ∈ mN x i, l.length ≤ i
  | 0, l, hl => by cases hl
  | i + 1, l, hl => by
    have hl : l ∈ mPut (mN x i) (mC x i) (mOp x i) := hl
    unfold mPut at hl
    have hg := gro_el (c := mC x i) (mN_el x i)
    rcases List.mem_or_eq_of_mem_set hl with hl | rfl
    · have := hg l hl; omega
    · have := getD_el hg (mC x i)
      rw [List.length_append]; simp only [List.length_singleton]; omega
theorem mG_succ (x : List (List Int)) (i j : Nat) : mG x i j ++ [[]] = mG x i (j + 1) := by
  unfold mG; rw [List.replicate_succ', List.append_assoc]
theorem mG_len (x : List (List Int)) (i j : Nat) : (mG x i j).length = (mN x i).length + j := by unfold mG; rw [List.length_append, List.length_replicate]
end Sp
namespace Go.User
open Go.Lf Go.Proofs
set_option maxRecDepth 100000 in
theorem ok12 : FOk Try.prog 12 S12 := by
  have hC : CtxOK Try.prog C12 := okC fns_nil rfl rfl rfl rfl rfl rfl rfl
  refine FOk.intro hC (stpS_ok hC) Try.call12 Try.func12 (by kernel_rfl) (by kernel_rfl) L12 (vc12.mpr ?_)
  simp only [z1, z2, z3, z4, z5, z6, z7, z8, z9, z10, z11, z12, z13, z14, z15, z16, z17, z18, z19, z20, z21, z22, z23, z24, z25, z26, z27, z28, z29, z30, z31, z32, z33, z34, z35, z36, z37, z38]
  rintro ⟨x, n, u⟩ h _
  obtain ⟨h0, h6⟩ : 0 ≤ n ∧ n ≤ 6 := h
  have hmx : maxNew = 2147483648 := rfl
  have hmT : Sp.mT x n = min x.length n.toNat := rfl
  refine ⟨⟨0, Nat.zero_le _, rfl, rfl⟩, fun i hi _ => ⟨fun hlt => ?_, fun hge => ?_⟩⟩
  · obtain ⟨hl1, hl2⟩ := hlt
    have hl1 : (i : Int) < (x.length : Int) := hl1
    have hl2 : (i : Int) < n := hl2
    have hB : ∀ j, (x.getD i (List.replicate 4 0)).getD j 0 = Sp.mB x i j := by
      intro j; unfold Sp.mB; rw [Pl.getD_at (show i < x.length by omega), Pl.getD_at (show i < x.length by omega)]
    have hin : inN (i : Int) x.length := ⟨by omega, hl1⟩
    have hc4 := Sp.mC_lt x i
    have hNl := Sp.mN_len x i
    have hNe := Sp.mN_el x i
    have hcE : (x.getD i (List.replicate 4 0)).getD 0 0 % 4 = ((Sp.mC x i : Nat) : Int) := by rw [hB]; unfold Sp.mC; omega
    refine ⟨⟨hin, ⟨by omega, by omega⟩, by omega⟩, ⟨0, Nat.zero_le _, ?_⟩, fun j hj _ => ⟨fun hle => ⟨?_, j + 1, ?_, ?_, ?_⟩, fun hgt => ?_⟩⟩
    · show (Sp.mN x i, ()) = (Sp.mG x i 0, ())
      unfold Sp.mG; rw [List.replicate_zero, List.append_nil]
    · have hj : j ≤ Sp.mC x i + 1 - (Sp.mN x i).length := hj
      show (((Sp.mG x i j).length + 1 : Nat) : Int) ≤ maxNew
      rw [Sp.mG_len]; omega
    · have hle : ((Sp.mG x i j).length : Int) ≤ (x.getD i (List.replicate 4 0)).getD 0 0 % 4 := hle
      rw [hcE, Sp.mG_len] at hle
      show j + 1 ≤ Sp.mC x i + 1 - (Sp.mN x i).length; omega
    · have hle : ((Sp.mG x i j).length : Int) ≤ (x.getD i (List.replicate 4 0)).getD 0 0 % 4 := hle
      rw [hcE, Sp.mG_len] at hle
      show Sp.mC x i + 1 - (Sp.mN x i).length - (j + 1) < Sp.mC x i + 1 - (Sp.mN x i).length - j; omega
    · show (Sp.mG x i j ++ [[]], ()) = (Sp.mG x i (j + 1), ())
      rw [Sp.mG_succ]
    · have hj : j ≤ Sp.mC x i + 1 - (Sp.mN x i).length := hj
      have hgt : (x.getD i (List.replicate 4 0)).getD 0 0 % 4 < ((Sp.mG x i j).length : Int) := hgt
      rw [hcE, Sp.mG_len] at hgt
      have hG : Sp.mG x i j = Sp.gro (Sp.mN x i) (Sp.mC x i) := by
        unfold Sp.mG Sp.gro
        rw [show j = Sp.mC x i + 1 - (Sp.mN x i).length from by omega]
      have hGl : Sp.mC x i < (Sp.gro (Sp.mN x i) (Sp.mC x i)).length := by rw [Sp.gro_len]; omega
      have hGe := Sp.getD_el (Sp.gro_el (c := Sp.mC x i) hNe) (Sp.mC x i)
      have hk : ∀ op, op = Sp.mOp x i → inK .i64 ((i : Int) + 1) ∧ ∃ y, y ≤ Sp.mT x n ∧ Sp.mT x n - y < Sp.mT x n - i ∧ (i : Int) + 1 = (y : Int) ∧ ((Sp.mG x i j).set ((x.getD i (List.replicate 4 0)).getD 0 0 % 4).toNat ((Sp.mG x i j).getD ((x.getD i (List.replicate 4 0)).getD 0 0 % 4).toNat [] ++ [op]), ()) = (Sp.mN x y, ()) := by
        rintro op rfl
        refine ⟨inK_mid (by omega) (by omega), i + 1, by omega, by omega, by omega, ?_⟩
        rw [hcE, Int.toNat_natCast, hG]; rfl
      have hq : inN ((x.getD i (List.replicate 4 0)).getD 0 0 % 4) (Sp.mG x i j).length ∧ (((0 + ((Sp.mG x i j).getD ((x.getD i (List.replicate 4 0)).getD 0 0 % 4).toNat []).length : Nat) : Int)) ≤ maxNew ∧ (((((Sp.mG x i j).getD ((x.getD i (List.replicate 4 0)).getD 0 0 % 4).toNat []).length + 1 : Nat) : Int)) ≤ maxNew ∧ inN ((x.getD i (List.replicate 4 0)).getD 0 0 % 4) (Sp.mG x i j).length := by
        rw [hcE, Int.toNat_natCast, hG]
        exact ⟨⟨by omega, by omega⟩, by omega, by omega, ⟨by omega, by omega⟩⟩
      have hK : [1, 2, 1, 2, 3, 4].getD ((x.getD i (List.replicate 4 0)).getD 1 0 % 6).toNat 0 = Sp.mK x i := by rw [hB]; rfl
      refine ⟨⟨hin, ⟨by omega, by omega⟩, by omega, ⟨by omega, ?_⟩, hin, ⟨by omega, by omega⟩, by omega, hin, ⟨by omega, by omega⟩, by omega, inK_mid (by omega) (by omega)⟩, fun hor => ⟨fun h4 => ⟨hq, hk _ ?_⟩, fun h4 => ⟨hq, hk _ ?_⟩⟩, fun hor => ⟨fun h4 => absurd h4 hor.2, fun h4 => ⟨hq, hk _ ?_⟩⟩⟩
      · show (x.getD i (List.replicate 4 0)).getD 1 0 % 6 < ((6 : Nat) : Int); omega
      · have h4 : Sp.mK x i = 4 := hK ▸ h4
        unfold Sp.mOp Sp.mX Sp.mV
        rw [if_pos h4, if_pos (.inr h4), ← hK]; rfl
      · have h4 : ¬ Sp.mK x i = 4 := hK ▸ h4
        have h1 : Sp.mK x i = 1 := by
          have hor : (Sp.mK x i == 1 || Sp.mK x i == 4) = true := hK ▸ hor
          simp only [Bool.or_eq_true, beq_iff_eq] at hor
          exact hor.resolve_right h4
        unfold Sp.mOp Sp.mX Sp.mV
        rw [if_neg h4, if_pos (.inl h1), ← hK, ← hB]; rfl
      · have h4 : ¬ Sp.mK x i = 4 := hK ▸ h4
        have h1 : ¬ Sp.mK x i = 1 := hK ▸ hor.1
        unfold Sp.mOp Sp.mX Sp.mV
        rw [if_neg h4, if_neg (fun h => h.elim h1 h4), ← hK, ← hB, ← hB]; try rfl
  · have hi : i ≤ Sp.mT x n := hi
    have hge : (decide ((i : Int) < (x.length : Int)) && decide ((i : Int) < n)) = false := hge
    have he : i = Sp.mT x n := by
      rw [Bool.and_eq_false_iff, decide_eq_false_iff_not, decide_eq_false_iff_not] at hge
      omega
    subst he
    refine ⟨fun hz => ?_, fun hz => ?_⟩
    · have hz : (((Sp.mN x (Sp.mT x n)).length : Nat) : Int) = 0 := hz
      have hnil : Sp.mN x (Sp.mT x n) = [] := List.eq_nil_of_length_eq_zero (by omega)
      show ([[(1, 0, 0, ())]], ()) = Sp.made x n
      unfold Sp.made Sp.madeP; rw [if_pos hnil]
    · have hz : ¬ (((Sp.mN x (Sp.mT x n)).length : Nat) : Int) = 0 := hz
      have hnil : ¬ Sp.mN x (Sp.mT x n) = [] := fun h => hz (by rw [h]; rfl)
      show (Sp.mN x (Sp.mT x n), ()) = Sp.made x n
      unfold Sp.made Sp.madeP; rw [if_neg hnil]
end Go.User
namespace Sp
end Sp
namespace Go.User
open Go.Lf Go.Proofs
end Go.User
namespace Go.User
open Go.Proofs Go.Lf
set_option maxRecDepth 100000
end Go.User
namespace Go.User
open Go.Lf Go.Proofs
end Go.User
namespace Sp
end Sp
namespace Sp
theorem total_cons (l : List LOp) (P : List (List LOp)) : total (l :: P) = l.length + total P := by unfold total; simp
theorem total_set : ∀ (P : List (List LOp)) (c : Nat) (l : List LOp), c < P.length → total (P.set c l) + (P.getD c []).length = total P + l.length
  | p :: P, 0, l, _ => by
    rw [List.set_cons_zero, total_cons, total_cons]
    show _ + p.length = _
    omega
  | p :: P, c + 1, l, h => by
    rw [List.set_cons_succ, total_cons, total_cons]
    have := total_set P c l (by simpa using h)
    show _ + (P.getD c []).length = _
    omega
theorem total_app (P Q : List (List LOp)) : total (P ++ Q) = total P + total Q := by unfold total; rw [List.map_append, List.sum_append]
theorem total_gro (P : List (List LOp)) (c : Nat) : total (gro P c) = total P := by
  unfold gro
  rw [total_app]
  have : ∀ n, total (List.replicate n ([] : List LOp)) = 0 := by
    intro n; unfold total; rw [List.map_replicate]; simp
  rw [this]; rfl
theorem total_mN (x : List (List Int)) : ∀ i, total (mN x i) = i
  | 0 => rfl
  | i + 1 => by
    show total (mPut (mN x i) (mC x i) (mOp x i)) = i + 1
    unfold mPut
    have h := total_set (gro (mN x i) (mC x i)) (mC x i) ((gro (mN x i) (mC x i)).getD (mC x i) [] ++ [mOp x i]) (by rw [gro_len]; omega)
    rw [total_gro, total_mN x i, List.length_append] at h
    simp only [List.length_singleton] at h
    omega
theorem total_made {x : List (List Int)} {n : Int} (h0 : 1 ≤ n) (h6 : n ≤ 6) : 1 ≤ total (madeP x n) ∧ total (madeP x n) ≤ 6 ∧ 1 ≤ (madeP x n).length ∧ (madeP x n).length ≤ 4 := by
  unfold madeP
  split
  · exact ⟨by decide, by decide, by decide, by decide⟩
  · rename_i hn
    have ht := total_mN x (mT x n)
    have hl := mN_len x (mT x n)
    have hm : mT x n ≤ 6 := by unfold mT; omega
    have hp : 1 ≤ (mN x (mT x n)).length := by
      cases h : mN x (mT x n) with
      | nil => exact absurd h hn
      | cons a l => simp
    refine ⟨?_, by omega, hp, hl⟩
    rw [ht]
    refine Classical.byContradiction fun h => hn ?_
    have : mT x n = 0 := by omega
    rw [this]; rfl
end Sp
namespace Sp
open Go.Lf
-- an element at place i
section
variable {t : Lit} {k i : Nat}
variable (hk : k < t.1.length)
include hk
variable (hi : i ≤ lenAt t k)
include hi
end
theorem opAt_usual {t : Lit} (hv : valid t = true) {c j : Nat} (hc : c < t.1.length) (hj : j < lenAt t c) : usual (opAt t c j) = true :=
  (valid_iff.1 hv).2.2.2.2 _ (List.mem_flatten.2 ⟨_, Pl.getD_mem hc [], Pl.getD_mem hj _⟩)
/-- The part of a core of what is read. -/
def outC (t : Lit) (r : Int → Int) (c : Nat) : List Int := (List.range (lenAt t c)).flatMap fun (j : Nat) => if isRd (opAt t c j) then [r (bas t c + j)] else []
theorem outC_same {t t' : Lit} {r r' : Int → Int} {c : Nat} (hl : lenAt t c = lenAt t' c) (h : ∀ j, j < lenAt t c → (isRd (opAt t c j) ↔ isRd (opAt t' c j)) ∧ (isRd (opAt t c j) → r (bas t c + j) = r' (bas t' c + j))) : outC t r c = outC t' r' c := by
  unfold outC
  rw [← hl]
  refine fm_congr fun j hj => ?_
  obtain ⟨h1, h2⟩ := h j (List.mem_range.1 hj)
  by_cases hr : isRd (opAt t c j)
  · rw [if_pos hr, if_pos (h1.1 hr), h2 hr]
  · rw [if_neg hr, if_neg (fun h => hr (h1.2 h))]
theorem out_ext {o o2 : Out} (h1 : o2.1 = o.1) (h2 : o2.2.1.length = 3) (h3 : o.2.1.length = 3) (h : ∀ p, p < 3 → o2.2.1.getD p 0 = o.2.1.getD p 0) : o2 = o := by
  refine Prod.ext h1 (Prod.ext (List.ext_getElem (by omega) fun p hp _ => ?_) rfl)
  have := h p (by omega)
  rw [Pl.getD_at (by omega), Pl.getD_at (by omega)] at this
  exact this
end Sp
namespace Sp
end Sp
namespace Go.User
open Go.Lf
def S3 : FSpec := { args := [.val tRaw, .val (.int .u8), .val (.int .u8)], multi := false, res := .bool, mode := .shr, pre := fun _ => True, fn := fun _ => true }
end Go.User
namespace Sp
open Go.Lf
theorem mOp_usual (x : List (List Int)) (i : Nat) : usual (mOp x i) = true := by
  have hk : mK x i = 1 ∨ mK x i = 2 ∨ mK x i = 3 ∨ mK x i = 4 := by
    unfold mK
    have : ∀ n : Nat, n < 6 → kinds.getD n 0 = 1 ∨ kinds.getD n 0 = 2 ∨ kinds.getD n 0 = 3 ∨ kinds.getD n 0 = 4 := by decide
    exact this _ (by omega)
  have hX : 0 ≤ mX x i ∧ mX x i < 3 ∧ (mK x i = 4 → mX x i = 0) := by unfold mX; split <;> omega
  have hV : -100 ≤ mV x i ∧ mV x i ≤ 100 ∧ (mK x i = 1 ∨ mK x i = 4 → mV x i = 0) := by unfold mV; split <;> omega
  show usual (mK x i, mX x i, mV x i, ()) = true
  unfold usual
  rcases hk with h | h | h | h
  · rw [if_pos h]; simp only [Bool.and_eq_true, decide_eq_true_eq]; exact ⟨⟨hX.1, hX.2.1⟩, hV.2.2 (.inl h)⟩
  · rw [if_neg (by show ¬ mK x i = 1; omega), if_pos (.inl h)]; simp only [Bool.and_eq_true, decide_eq_true_eq]; exact ⟨⟨⟨hX.1, hX.2.1⟩, hV.1⟩, hV.2.1⟩
  · rw [if_neg (by show ¬ mK x i = 1; omega), if_pos (.inr h)]; simp only [Bool.and_eq_true, decide_eq_true_eq]; exact ⟨⟨⟨hX.1, hX.2.1⟩, hV.1⟩, hV.2.1⟩
  · rw [if_neg (by show ¬ mK x i = 1; omega), if_neg (by show ¬ (mK x i = 2 ∨ mK x i = 3); omega)]; simp only [Bool.and_eq_true, decide_eq_true_eq]; exact ⟨⟨h, hX.2.2 h⟩, hV.2.2 (.inr h)⟩
theorem mN_usual (x : List (List Int)) : ∀ i, ∀ l ∈ mN x i, ∀ o ∈ l, usual o = true
  | 0, l, hl => by cases hl
  | i + 1, l, hl => by
    have hl : l ∈ mPut (mN x i) (mC x i) (mOp x i) := hl
    have ih := mN_usual x i
    have hg : ∀ l ∈ gro (mN x i) (mC x i), ∀ o ∈ l, usual o = true := by
      intro l hl
      unfold gro at hl
      rcases List.mem_append.1 hl with hl | hl
      · exact ih l hl
      · rw [List.eq_of_mem_replicate hl]; intro o ho; cases ho
    unfold mPut at hl
    rcases List.mem_or_eq_of_mem_set hl with hl | rfl
    · exact hg l hl
    · intro o ho
      rcases List.mem_append.1 ho with ho | ho
      · by_cases hc : mC x i < (gro (mN x i) (mC x i)).length
        · exact hg _ (Pl.getD_mem hc _) o ho
        · rw [Pl.getD_out (by omega)] at ho; cases ho
      · rw [List.mem_singleton.1 ho]; exact mOp_usual x i
theorem made_valid {x : List (List Int)} {n : Int} (h1 : 1 ≤ n) (h6 : n ≤ 6) : valid (made x n) = true := by
  obtain ⟨a, b, c, d⟩ := total_made (x := x) h1 h6
  refine valid_iff.2 ⟨c, d, a, b, ?_⟩
  intro o ho
  obtain ⟨l, hl, ho⟩ := List.mem_flatten.1 ho
  have hl : l ∈ madeP x n := hl
  unfold madeP at hl
  split at hl
  · rw [List.mem_singleton.1 hl] at ho
    rw [List.mem_singleton.1 ho]; decide
  · exact mN_usual x _ l hl o ho
theorem made_total {x : List (List Int)} {n : Int} (h1 : 1 ≤ n) (h6 : n ≤ 6) : (total (made x n).1 : Int) ≤ n := by
  show (total (madeP x n) : Int) ≤ n
  unfold madeP
  split
  · show ((1 : Nat) : Int) ≤ n; omega
  · rw [total_mN]; unfold mT; omega
theorem outs_len {t : Lit} : (outs t).length ≤ 28 ^ total t.1 := by
  unfold outs
  split
  · rename_i hv
    obtain ⟨v1, v2, v3, v4, v5⟩ := valid_iff.1 hv
    have := (visit_ok (total t.1) (start_good hv) v4 (start_left t) [] sorted_nil).2
    simpa using this
  · exact Nat.zero_le _
theorem errA_zero {t : Lit} (hv : valid t = true) : errA t = 0 := by unfold errA; rw [if_pos hv]
end Sp
namespace Sp
def low (z : Int) : Int := Go.IntKind.i64.wrap ((BitVec.ofInt 64 z &&& BitVec.ofInt 64 3).toNat : Int)
end Sp
namespace Go.User
open Go.Proofs Go.Lf
set_option maxRecDepth 100000
end Go.User
namespace Sp
theorem el_total {P : List (List LOp)} {c : Nat} : (P.getD c []).length ≤ total P := by
  by_cases h : c < P.length
  · have := total_set P c [] h
    simp only [List.length_nil] at this
    omega
  · rw [Pl.getD_out (by omega)]; exact Nat.zero_le _
end Sp
namespace Go.User
open Go.Lf Go.Proofs
end Go.User
namespace Sp
def iBusy (t : Lit) (pc : List Int) (c : Nat) : Bool := decide (pc.getD c 0 < ((t.1.getD c []).length : Int))
def iOp (t : Lit) (pc : List Int) (c : Nat) : LOp := (t.1.getD c []).getD (pc.getD c 0).toNat op0
def iPc (pc : List Int) (c : Nat) : List Int := pc.set c (pc.getD c 0 + 1)
def iMem (t : Lit) (pc mem : List Int) (c : Nat) : List Int :=
  if (iOp t pc c).1 = 2 then mem.set (iOp t pc c).2.1.toNat (iOp t pc c).2.2.1 else if (iOp t pc c).1 = 3 then mem.set (iOp t pc c).2.1.toNat (mem.getD (iOp t pc c).2.1.toNat 0 + (iOp t pc c).2.2.1) else mem
def iR (t : Lit) (pc mem r : List Int) (c : Nat) : List Int :=
  if (iOp t pc c).1 = 1 ∨ (iOp t pc c).1 = 3 then r.set ((total (t.1.take c) : Int) + pc.getD c 0).toNat (mem.getD (iOp t pc c).2.1.toNat 0) else r
def iDone (t : Lit) (pc : List Int) (c : Nat) : Bool := (List.range c).all fun k => !iBusy t pc k
def iLast (mem : List Int) : List Int := [mem.getD 0 0, mem.getD 1 0, mem.getD 2 0]
def iFin (t : Lit) (mem r : List Int) : Out := (outN (cat t.1) r (total t.1), iLast mem, ())
def addL (l : List Out) (o : Out) : List Out := if inside [o] l = true then l else l ++ [o]
def ilv : Nat → List Out → Lit → List Int → List Int → List Int → List Out
  | 0, l, t, pc, mem, r => addL l (iFin t mem r)
  | n + 1, l, t, pc, mem, r => if iDone t pc t.1.length = true then addL l (iFin t mem r) else
    (List.range t.1.length).foldl (fun l c => if iBusy t pc c = true then ilv n l t (iPc pc c) (iMem t pc mem c) (iR t pc mem r c) else l) l
/-- As far as a core. -/
def ilvC (n : Nat) (l : List Out) (t : Lit) (pc mem r : List Int) (c : Nat) : List Out :=
  (List.range c).foldl (fun l c => if iBusy t pc c = true then ilv (n - 1) l t (iPc pc c) (iMem t pc mem c) (iR t pc mem r c) else l) l
def iLeft (t : Lit) (pc : List Int) : Nat := ((List.range t.1.length).map fun (c : Nat) => (t.1.getD c []).length - (pc.getD c 0).toNat).sum
structure iOk (n : Nat) (l : List Out) (t : Lit) (pc mem r : List Int) : Prop where
  val : valid t = true
  tot : total t.1 ≤ 5
  pcl : pc.length = t.1.length
  pcr : ∀ c, c < t.1.length → 0 ≤ pc.getD c 0 ∧ pc.getD c 0 ≤ ((t.1.getD c []).length : Int)
  left : iLeft t pc = n
  ml : mem.length = 3
  mv : ∀ v ∈ mem, -(100 * ((total t.1 : Int) - n)) ≤ v ∧ v ≤ 100 * ((total t.1 : Int) - n)
  rl : r.length = total t.1
  ll : l.length + 4 ^ n ≤ 900000
def busyN (P : List (List LOp)) (c : Nat) : Nat := ((P.take c).filter fun l => decide (0 < l.length)).length
end Sp
namespace Go.User
open Go.Lf
def S17 (n : Nat) : FSpec := { args := [.val (.slice tOut), .val tLit, .val (.slice tI), .val tV3, .val (.slice tI)], multi := false, res := .slice tOut, mode := .shr, pre := fun x => Sp.iOk n x.1 x.2.1 x.2.2.1 x.2.2.2.1 x.2.2.2.2.1, fn := fun x => Sp.ilv n x.1 x.2.1 x.2.2.1 x.2.2.2.1 x.2.2.2.2.1 }
def S17k (n : Nat) : FSpec := { args := [.val (.slice tOut), .val tLit, .val (.slice tI), .val tV3, .val (.slice tI)], multi := false, res := .slice tOut, mode := .shr, pre := fun x => 1 ≤ n ∧ Sp.iOk (n - 1) x.1 x.2.1 x.2.2.1 x.2.2.2.1 x.2.2.2.2.1, fn := fun x => Sp.ilv (n - 1) x.1 x.2.1 x.2.2.1 x.2.2.2.1 x.2.2.2.2.1 }
def S17a : FSpec := { args := [.val (.slice tOut), .val tLit, .val (.slice tI), .val tV3, .val (.slice tI)], multi := false, res := .slice tOut, mode := .shr, pre := fun x => Sp.iOk (Sp.iLeft x.2.1 x.2.2.1) x.1 x.2.1 x.2.2.1 x.2.2.2.1 x.2.2.2.2.1, fn := fun x => Sp.ilv (Sp.iLeft x.2.1 x.2.2.1) x.1 x.2.1 x.2.2.1 x.2.2.2.1 x.2.2.2.2.1 }
def C17 (n : Nat) : Ctx := { mkS 190 [(15, S15), (17, S17k n)] with mds := [(128, mOut), (18, mOut)], frz := [189], fz1 := [18], fzs := [15, 17], asn := [15, 17] }
def L17 (n : Nat) (x : kdens (S17 n).args) : List LoopI := [
  { ι := Nat, inv := fun c => c ≤ List.length x.2.1.1, dec := fun c => List.length x.2.1.1 - c, ovr := fun c => [(13, .shr tI (c : Int)), (12, .shr tI (Sp.total (List.take c x.2.1.1) : Int)), (11, .shr .bool (Sp.iDone x.2.1 x.2.2.1 c)), (0, .shr (.slice tOut) (Sp.ilvC n x.1 x.2.1 x.2.2.1 x.2.2.2.1 x.2.2.2.2.1 c))], keep := [2, 4, 6, 8] },
  { ι := Nat, inv := fun c => c ≤ List.length x.2.1.1, dec := fun c => List.length x.2.1.1 - c, ovr := fun c => [(19, .shr tI (c : Int)), (12, .shr tI (Sp.total (List.take c x.2.1.1) : Int)), (18, .box tOut mOut (Sp.outN (Sp.cat x.2.1.1) x.2.2.2.2.1 (Sp.total (List.take c x.2.1.1)), Sp.iLast x.2.2.2.1, ()))], keep := [0, 4, 6], sub := fun c => [
    { ι := Nat, inv := fun i => i ≤ List.length (List.getD x.2.1.1 c []), dec := fun i => List.length (List.getD x.2.1.1 c []) - i, ovr := fun i => [(20, .shr tI (i : Int)), (12, .shr tI ((Sp.total (List.take c x.2.1.1) : Int) + (i : Int))), (18, .box tOut mOut (Sp.outN (Sp.cat x.2.1.1) x.2.2.2.2.1 (Sp.total (List.take c x.2.1.1) + i), Sp.iLast x.2.2.2.1, ()))], keep := [0, 4, 6, 19] }] }]
def S4 : FSpec := { args := [.val tRaw], multi := false, res := .bool, mode := .shr, pre := fun _ => True, fn := fun _ => true }
def C4 : Ctx := { mkS 64 [(11, S11), (12, S12), (13, S13), (17, S17a), (18, S18), (15, S15)] with mds := [(4, .pair .shr .shr), (5, .pair .shr (.pair .shr .shr))], frz := [20, 24] }
def L4 (x : kdens S4.args) : List LoopI := [
  { ι := Nat, inv := fun c => c ≤ List.length (Sp.madeP x.1 4), dec := fun c => List.length (Sp.madeP x.1 4) - c, ovr := fun c => [(8, .shr tI (c : Int)), (7, .shr tI (Sp.busyN (Sp.madeP x.1 4) c : Int))], keep := [3, 4, 5, 6] }]
end Go.User
namespace Sp
open Go.Lf
/-- Two tests with the same operations, but for their places. -/
structure Al (π : Nat → Nat) (t t' : Lit) : Prop where
  p3 : ∀ p, p < 3 → π p < 3
  pinj : ∀ p q, p < 3 → q < 3 → π p = π q → p = q
  len : ∀ c, lenAt t c = lenAt t' c
  op : ∀ c j, j < lenAt t' c → opAt t c j = mv π (opAt t' c j)
  bas : ∀ c, bas t c = bas t' c
theorem lenAt_out {t : Lit} {c : Nat} (h : t.1.length ≤ c) : lenAt t c = 0 := by unfold lenAt; rw [Pl.getD_out h]; rfl
theorem lenAt_lt {t : Lit} {c : Nat} (h : 0 < lenAt t c) : c < t.1.length := by
  refine Classical.byContradiction fun hn => ?_
  rw [lenAt_out (by omega)] at h; omega
theorem outG_ge (t : Lit) (r : Int → Int) : ∀ d, outG t r = (List.range (t.1.length + d)).flatMap (outC t r)
  | 0 => rfl
  | d + 1 => by
    rw [← Nat.add_assoc, List.range_succ, List.flatMap_append, ← outG_ge t r d]
    have : [t.1.length + d].flatMap (outC t r) = [] := by
      show outC t r (t.1.length + d) ++ [] = []
      unfold outC
      rw [lenAt_out (by omega)]; rfl
    rw [this, List.append_nil]
def simA (π : Nat → Nat) (t t' : Lit) : SimP where
  t := t
  t' := t'
  π := π
  ρ := fun e => e
  A := fun _ i' j => i' = j
theorem simA_ok {π : Nat → Nat} {t t' : Lit} (a : Al π t t') : (simA π t t').OK := by
  refine ⟨rfl, fun _ _ _ _ _ _ h => h, fun _ h => h, a.p3, a.pinj, fun _ _ => rfl, ?_, ?_, ?_⟩
  · intro c i' j hc hA hlt
    have hA : i' = j := hA
    have hlt : i' < lenAt t' c := hlt
    subst hA
    have hl := a.len c
    exact .inr ⟨lenAt_lt (show 0 < lenAt t c by omega), by show i' < lenAt t c; omega, a.op c i' hlt, rfl, by show bas t c + i' = bas t' c + i'; rw [a.bas]⟩
  · intro c j hc hA m hm hml
    have hml : m < lenAt t c := hml
    have hl := a.len c
    have hc' : c < t'.1.length := lenAt_lt (show 0 < lenAt t' c by omega)
    have hA : lenAt t' c = j := hA hc'
    omega
  · intro r r' h
    have h : ∀ c j : Nat, c < t'.1.length → j < lenAt t' c → isRd (opAt t' c j) → r (bas t' c + j) = r' (bas t' c + j) := h
    show outG t r = outG t' r'
    rw [outG_ge t r t'.1.length, outG_ge t' r' t.1.length, Nat.add_comm]
    refine fm_congr fun c _ => outC_same (a.len c) fun j hj => ?_
    have hj' : j < lenAt t' c := by rw [← a.len c]; exact hj
    have ho := a.op c j hj'
    have hr : isRd (opAt t c j) ↔ isRd (opAt t' c j) := by unfold isRd; rw [ho, mv_kind]
    refine ⟨hr, fun h1 => ?_⟩
    rw [a.bas]
    exact h c j (lenAt_lt (by omega)) hj' (hr.1 h1)
-- a further core
-- exchanged places
def trnO (p q : Int) (o : LOp) : LOp := if o.1 ≠ 4 ∧ o.2.1 = p then (o.1, q, o.2.2) else if o.1 ≠ 4 ∧ o.2.1 = q then (o.1, p, o.2.2) else o
def trnL (p q : Int) (l : List LOp) : List LOp := l.map (trnO p q)
def turned (t : Lit) (p q : Int) : Lit := (t.1.map (trnL p q), ())
def swp (a b n : Nat) : Nat := if n = a then b else if n = b then a else n
theorem trn_mv {p q : Int} (hp : 0 ≤ p ∧ p < 3) (hq : 0 ≤ q ∧ q < 3) {o : LOp} (h : usual o = true) : trnO p q o = mv (swp p.toNat q.toNat) o := by
  have hx := usual_place h
  obtain ⟨k, X, V⟩ := o
  have hx : 0 ≤ X ∧ X < 3 := hx
  unfold trnO mv swp
  by_cases h4 : k = 4
  · rw [if_neg (fun h => h.1 h4), if_neg (fun h => h.1 h4), if_pos h4]
  · have h4' : (k, X, V).1 ≠ 4 := h4
    rw [if_neg (show ¬ (k, X, V).1 = 4 from h4)]
    by_cases h1 : X = p
    · rw [if_pos ⟨h4', h1⟩]
      show (k, q, V) = (k, ((if X.toNat = p.toNat then q.toNat else _ : Nat) : Int), V)
      rw [if_pos (by rw [h1]), Int.toNat_of_nonneg hq.1]
    · rw [if_neg (fun h => h1 h.2)]
      by_cases h2 : X = q
      · rw [if_pos ⟨h4', h2⟩]
        show (k, p, V) = (k, ((if X.toNat = p.toNat then q.toNat else if X.toNat = q.toNat then p.toNat else X.toNat : Nat) : Int), V)
        rw [if_neg (by omega), if_pos (by rw [h2]), Int.toNat_of_nonneg hp.1]
      · rw [if_neg (fun h => h2 h.2)]
        show (k, X, V) = (k, ((if X.toNat = p.toNat then q.toNat else if X.toNat = q.toNat then p.toNat else X.toNat : Nat) : Int), V)
        rw [if_neg (by omega), if_neg (by omega), Int.toNat_of_nonneg hx.1]
theorem usual_set {k X V Y : Int} {u : Unit} (h : usual (k, X, V, u) = true) (h4 : ¬ k = 4) (hY : 0 ≤ Y ∧ Y < 3) : usual (k, Y, V, u) = true := by
  have h : (if k = 1 then decide (0 ≤ X) && decide (X < 3) && decide (V = 0) else if k = 2 ∨ k = 3 then decide (0 ≤ X) && decide (X < 3) && decide (-100 ≤ V) && decide (V ≤ 100) else decide (k = 4) && decide (X = 0) && decide (V = 0)) = true := h
  show (if k = 1 then decide (0 ≤ Y) && decide (Y < 3) && decide (V = 0) else if k = 2 ∨ k = 3 then decide (0 ≤ Y) && decide (Y < 3) && decide (-100 ≤ V) && decide (V ≤ 100) else decide (k = 4) && decide (Y = 0) && decide (V = 0)) = true
  by_cases h1 : k = 1
  · rw [if_pos h1] at h ⊢
    simp only [Bool.and_eq_true, decide_eq_true_eq] at h ⊢
    exact ⟨hY, h.2⟩
  · rw [if_neg h1] at h ⊢
    by_cases h2 : k = 2 ∨ k = 3
    · rw [if_pos h2] at h ⊢
      simp only [Bool.and_eq_true, decide_eq_true_eq] at h ⊢
      exact ⟨⟨hY, h.1.2⟩, h.2⟩
    · rw [if_neg h2] at h
      simp only [Bool.and_eq_true, decide_eq_true_eq] at h
      exact absurd h.1.1 h4
theorem trn_usual {p q : Int} (hp : 0 ≤ p ∧ p < 3) (hq : 0 ≤ q ∧ q < 3) {o : LOp} (h : usual o = true) : usual (trnO p q o) = true := by
  unfold trnO
  obtain ⟨k, X, V, u⟩ := o
  by_cases h1 : (k, X, V, u).1 ≠ 4 ∧ (k, X, V, u).2.1 = p
  · rw [if_pos h1]; exact usual_set h h1.1 hq
  · rw [if_neg h1]
    by_cases h2 : (k, X, V, u).1 ≠ 4 ∧ (k, X, V, u).2.1 = q
    · rw [if_pos h2]; exact usual_set h h2.1 hp
    · rw [if_neg h2]; exact h
theorem trn_trn {p q : Int} (o : LOp) : trnO p q (trnO p q o) = o := by
  unfold trnO
  obtain ⟨k, X, V⟩ := o
  by_cases h4 : k = 4
  · simp [h4]
  · by_cases h1 : X = p
    · by_cases h3 : q = p
      · simp [h4, h1, h3]
      · simp [h4, h1, h3]
    · by_cases h2 : X = q
      · have : ¬ q = p := fun e => h1 (h2.trans e)
        simp [h4, h2, this]
      · simp [h4, h1, h2]
theorem turned_turned (t : Lit) (p q : Int) : turned (turned t p q) p q = t := by
  unfold turned
  refine Prod.ext ?_ rfl
  show (t.1.map (trnL p q)).map (trnL p q) = t.1
  rw [List.map_map]
  have : (trnL p q ∘ trnL p q) = id := by
    funext l
    show (l.map (trnO p q)).map (trnO p q) = l
    rw [List.map_map]
    have : (trnO p q ∘ trnO p q) = id := by funext o; exact trn_trn o
    rw [this, List.map_id]
  rw [this, List.map_id]
theorem turned_row (t : Lit) (p q : Int) (c : Nat) : (turned t p q).1.getD c [] = trnL p q (t.1.getD c []) := by
  show (t.1.map (trnL p q)).getD c [] = _
  by_cases h : c < t.1.length
  · rw [Pl.getD_at (by simpa using h), Pl.getD_at h, List.getElem_map]
  · rw [Pl.getD_out (by simpa using h), Pl.getD_out (by omega)]; rfl
theorem turned_total (P : List (List LOp)) (p q : Int) : total (P.map (trnL p q)) = total P := by
  unfold total
  rw [List.map_map]
  have : (List.length ∘ trnL p q) = List.length := by funext l; exact List.length_map _
  rw [this]
theorem turned_valid {t : Lit} {p q : Int} (hp : 0 ≤ p ∧ p < 3) (hq : 0 ≤ q ∧ q < 3) (hv : valid t = true) : valid (turned t p q) = true := by
  obtain ⟨v1, v2, v3, v4, v5⟩ := valid_iff.1 hv
  have hl : (turned t p q).1.length = t.1.length := List.length_map _
  have ht : total (turned t p q).1 = total t.1 := turned_total _ _ _
  refine valid_iff.2 ⟨by omega, by omega, by omega, by omega, ?_⟩
  intro o ho
  obtain ⟨l, hl, ho⟩ := List.mem_flatten.1 ho
  obtain ⟨l0, h0, rfl⟩ := List.mem_map.1 hl
  obtain ⟨o0, h1, rfl⟩ := List.mem_map.1 ho
  exact trn_usual hp hq (v5 o0 (List.mem_flatten.2 ⟨l0, h0, h1⟩))
theorem swp_lt {a b n : Nat} (ha : a < 3) (hb : b < 3) (hn : n < 3) : swp a b n < 3 := by unfold swp; split <;> (try split) <;> omega
theorem swp_swp (a b n : Nat) : swp a b (swp a b n) = n := by
  unfold swp
  by_cases h1 : n = a
  · rw [if_pos h1]
    by_cases h3 : b = a
    · rw [if_pos h3]; omega
    · rw [if_neg h3, if_pos rfl, h1]
  · rw [if_neg h1]
    by_cases h2 : n = b
    · rw [if_pos h2, if_pos rfl, h2]
    · rw [if_neg h2, if_neg h1, if_neg h2]
theorem turned_al {t : Lit} {p q : Int} (hp : 0 ≤ p ∧ p < 3) (hq : 0 ≤ q ∧ q < 3) (hv : valid t = true) : Al (swp p.toNat q.toNat) (turned t p q) t := by
  have hl : ∀ c, lenAt (turned t p q) c = lenAt t c := by
    intro c; unfold lenAt; rw [turned_row]; exact List.length_map _
  refine ⟨fun n hn => swp_lt (by omega) (by omega) hn, fun m n hm hn h => ?_, hl, ?_, ?_⟩
  · rw [← swp_swp p.toNat q.toNat m, h, swp_swp]
  · intro c j hj
    have hc := lenAt_lt (show 0 < lenAt t c by omega)
    rw [← trn_mv hp hq (opAt_usual hv hc hj)]
    unfold opAt
    rw [turned_row]
    unfold lenAt at hj
    rw [Pl.getD_at (by unfold trnL; rw [List.length_map]; exact hj), Pl.getD_at hj]
    exact List.getElem_map _
  · intro c
    unfold bas
    show (total ((t.1.map (trnL p q)).take c) : Int) = _
    rw [← List.map_take, turned_total]
def backO (p q : Int) (o : Out) : Out := (o.1, (o.2.1.set p.toNat (o.2.1.getD q.toNat 0)).set q.toNat (o.2.1.getD p.toNat 0), ())
theorem back_get {p q : Int} (hp : 0 ≤ p ∧ p < 3) (hq : 0 ≤ q ∧ q < 3) {o : Out} (h3 : o.2.1.length = 3) {n : Nat} (hn : n < 3) : (backO p q o).2.1.getD n 0 = o.2.1.getD (swp p.toNat q.toNat n) 0 := by
  show ((o.2.1.set p.toNat _).set q.toNat _).getD n 0 = _
  rw [getD_setI (by rw [List.length_set]; omega), getD_setI (by omega)]
  unfold swp
  by_cases h1 : n = p.toNat
  · rw [if_pos h1]
    by_cases h2 : n = q.toNat
    · rw [if_pos h2, if_pos h1, ← h1, ← h2]
    · rw [if_neg h2, if_pos h1]
  · rw [if_neg h1]
    by_cases h2 : n = q.toNat
    · rw [if_pos h2, if_neg h1, if_pos h2]
    · rw [if_neg h2, if_neg h1, if_neg h2]
theorem turn_out {t : Lit} {p q : Int} (hp : 0 ≤ p ∧ p < 3) (hq : 0 ≤ q ∧ q < 3) (hv : valid t = true) : ∀ o ∈ outs t, backO p q o ∈ outs (turned t p q) ∧ o.2.1.length = 3 := by
  intro o ho
  have hv' := turned_valid hp hq hv
  obtain ⟨o2, h1, h2, h3, h4, h5⟩ := Sim.out (simA_ok (turned_al hp hq hv)) hv' hv ((mem_outs hv).1 ho)
  have : o2 = backO p q o := by
    refine out_ext (o := backO p q o) h2 h3 (by show ((o.2.1.set _ _).set _ _).length = 3; rw [List.length_set, List.length_set]; exact h4) fun n hn => ?_
    rw [back_get hp hq h4 hn, ← h5 _ (swp_lt (by omega) (by omega) hn)]
    show _ = o2.2.1.getD (swp p.toNat q.toNat (swp p.toNat q.toNat n)) 0
    rw [swp_swp]
  rw [← this]
  exact ⟨(mem_outs hv').2 h1, h4⟩
theorem back_back {p q : Int} (hp : 0 ≤ p ∧ p < 3) (hq : 0 ≤ q ∧ q < 3) {o : Out} (h3 : o.2.1.length = 3) : backO p q (backO p q o) = o := by
  have hl : (backO p q o).2.1.length = 3 := by show ((o.2.1.set _ _).set _ _).length = 3; rw [List.length_set, List.length_set]; exact h3
  refine out_ext (o := o) rfl (by show (((backO p q o).2.1.set _ _).set _ _).length = 3; rw [List.length_set, List.length_set]; exact hl) h3 fun n hn => ?_
  rw [back_get hp hq hl hn, back_get hp hq h3 (swp_lt (by omega) (by omega) hn), swp_swp]
instance iOut : DecidableEq Out := inferInstance
theorem len_le : ∀ {l l' : List Out}, l.Nodup → (∀ x ∈ l, x ∈ l') → l.length ≤ l'.length
  | [], _, _, _ => Nat.zero_le _
  | x :: l, l', hn, h => by
    have hx := h x List.mem_cons_self
    obtain ⟨h1, h2⟩ := List.nodup_cons.1 hn
    have := len_le (l' := l'.erase x) h2 fun y hy => (List.mem_erase_of_ne (fun e => h1 (by rw [← e]; exact hy))).2 (h y (List.mem_cons_of_mem _ hy))
    rw [List.length_erase_of_mem hx] at this
    have := List.length_pos_of_mem hx
    rw [List.length_cons]; omega
theorem sorted_nodup {l : List Out} (h : sortedO l) : l.Nodup := by
  induction l with
  | nil => exact List.nodup_nil
  | cons x l ih =>
    obtain ⟨h1, h2⟩ := sorted_cons.1 h
    refine List.nodup_cons.2 ⟨fun hm => ?_, ih h2⟩
    have := h1 x hm
    rw [cmpO_self] at this; omega
theorem map_nodup {l : List Out} {f g : Out → Out} (hl : l.Nodup) (h : ∀ x ∈ l, g (f x) = x) : (l.map f).Nodup := by
  induction l with
  | nil => exact List.nodup_nil
  | cons x l ih =>
    obtain ⟨h1, h2⟩ := List.nodup_cons.1 hl
    rw [List.map_cons]
    refine List.nodup_cons.2 ⟨fun hm => ?_, ih h2 fun y hy => h y (List.mem_cons_of_mem _ hy)⟩
    obtain ⟨y, hy, e⟩ := List.mem_map.1 hm
    have e2 : y = x := by rw [← h y (List.mem_cons_of_mem _ hy), e, h x List.mem_cons_self]
    exact h1 (e2 ▸ hy)
theorem names {t : Lit} {p q : Int} (hp : 0 ≤ p ∧ p < 3) (hq : 0 ≤ q ∧ q < 3) (hv : valid t = true) :
    (∀ o ∈ outs (turned t p q), o.2.1.length = 3) ∧ ((outs (turned t p q)).map (backO p q)).length = (outs t).length ∧ (∀ o ∈ (outs (turned t p q)).map (backO p q), o ∈ outs t) := by
  have hv' := turned_valid hp hq hv
  have h1 := turn_out hp hq hv
  have h2 := turn_out hp hq hv'
  rw [turned_turned] at h2
  have hsub : ∀ o ∈ (outs (turned t p q)).map (backO p q), o ∈ outs t := by
    intro o ho
    obtain ⟨o', h, rfl⟩ := List.mem_map.1 ho
    exact (h2 o' h).1
  refine ⟨fun o ho => (h2 o ho).2, ?_, hsub⟩
  have a1 := len_le (map_nodup (g := backO p q) (sorted_nodup (outs_sorted (turned t p q))) fun o ho => back_back hp hq (h2 o ho).2) hsub
  have a2 := len_le (map_nodup (f := backO p q) (g := backO p q) (sorted_nodup (outs_sorted t)) fun o ho => back_back hp hq (h1 o ho).2) (l' := outs (turned t p q)) (fun o ho => by
    obtain ⟨o', h, rfl⟩ := List.mem_map.1 ho
    exact (h1 o' h).1)
  rw [List.length_map] at a1 a2 ⊢
  omega
end Sp
