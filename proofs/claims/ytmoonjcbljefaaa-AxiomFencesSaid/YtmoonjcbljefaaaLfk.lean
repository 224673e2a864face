/- The law of fences. -/
import Derived.Test.YtmoonjcbljefaaaLfj
set_option linter.unusedVariables false
set_option linter.unusedSimpArgs false
namespace Go.Proofs.Ytmoonjcbljefaaa
open Go.ChangeShapes Go.WideShapes Go.ChangeAt Go.RowKit Go.Proofs Go.Lf

theorem arg_num {P : Program} {W : World} {base : Nat} {t : TypeId} {k : IntKind} {v : Value} (ht : P.underlying t = some (.int k)) (h : Value.okWide P W .any base t v) (F : NSet) :
    ∃ n : Int, OwnV F W (.int k) .shr none' v n := by
  obtain ⟨n, rfl⟩ := okWide_int ht h
  simp only [Value.okWide, ht, Cell.okWide] at h
  simp [Cell.ok, ht] at h
  exact ⟨n, OwnV.mk_int _ _ _ _ h.1 h.2⟩

set_option maxRecDepth 100000 in
theorem fences_lifted (hF : FOk Try.prog 7 Go.User.S7) (os : Os) (started : os.Started) (H : Type) (enc : TypeId × Value → H) :
    ReturnsInHanded {} Try.checked os 7 .any (Rows.axiomFencesSpec.pre6 enc Try.prog Try.f7 Rows.axiomFencesRow.domain false) (Rows.axiomFencesSpec.post enc Try.prog Try.f7 false true false false) := by
  refine returnsInHanded_of_change_sized (C := Try.checked) Try.own started (by kernel_rfl) Try.func7
    (ChangeSpec.witness6 (enc := enc) (C := Try.checked) false ⟨#[], #[.slice none 0 0, .slice none 0 0, .int .u8 0], []⟩ 8 (by kernel_rfl) (by kernel_rfl) (by kernel_rfl) (by kernel_rfl)) ?_
  intro W base args ds gs before hval0 hW _ hsz0 _
  have hsz : (DataW.weightsEach Try.prog (Try.f7.params.toList ++ Rows.axiomFencesSpec.plain.varTypes Try.prog) (ds ++ gs)).all (· ≤ reachBytes) = true := hsz0
  clear hsz0
  have hval : ∀ (j : Nat) t v, Try.f7.params[j]? = some t → args[j]? = some v → Value.okWide Try.prog W .any base t v := hval0
  have hW' := hW
  obtain ⟨p, q, hA0, hV, rfl, _, _⟩ := hW
  have hA : DataW.TrodAll enc Try.prog W 0 (fun _ => true) true Try.f7.params.toList args.toList ds p := hA0
  rw [Try.params7] at hA hval hsz
  obtain ⟨v0, v1, v2, d0, d1, d2, p0, p1, p2, rfl, rfl, rfl, h0, h1, h2⟩ := trodAll_three hA
  obtain ⟨rfl, rfl⟩ := trodVars_none hV
  clear hA0 hval0
  simp only [List.append_nil, List.append_assoc] at hW'
  have hlt0 : ∀ x ∈ p0, x.block < W.heap.size := fun x hx => hW'.lt x (by simp [hx])
  have hlt1 : ∀ x ∈ p1, x.block < W.heap.size := fun x hx => hW'.lt x (by simp [hx])
  have hlt2 : ∀ x ∈ p2, x.block < W.heap.size := fun x hx => hW'.lt x (by simp [hx])
  have sz : ∀ (j : Nat) (xs ys : List (DataW H)), ([22, 22, 5] : List TypeId)[j]? = some 22 → ([d0, d1, d2] ++ ([] : List (DataW H)))[j]? = some (.slice xs ys) → xs.length ≤ lim := by
    intro j xs ys h1 h2
    have := sized_slice hsz (j := j) (t := 22) (e := 5) (show (([22, 22, 5] : List TypeId) ++ [])[j]? = some 22 by simpa using h1) h2 Try.underlying22
    rw [Try.bytes5] at this
    simp only [reachBytes] at this
    unfold lim
    omega
  obtain ⟨xs, hx⟩ := argOK_ints (k := .u8) Try.underlying22 Try.underlying5 Try.cells5 (hval 0 22 v0 rfl rfl) h0 hlt0 (fun xs ys h => sz 0 xs ys rfl (by rw [h]; rfl))
  obtain ⟨ys, hy⟩ := argOK_ints (k := .u8) Try.underlying22 Try.underlying5 Try.cells5 (hval 1 22 v1 rfl rfl) h1 hlt1 (fun xs ys h => sz 1 xs ys rfl (by rw [h]; rfl))
  obtain ⟨n, hn⟩ := arg_num Try.underlying5 (hval 2 5 v2 rfl rfl) (fun b => b < W.heap.size)
  have hcall := hF.2 W (fun b => b < W.heap.size) [v0, v1, v2] (xs, ys, n, ()) (fun b h => h) ⟨v0, [v1, v2], rfl, hx, v1, [v2], rfl, hy, v2, [], rfl, hn, rfl⟩ trivial
  refine hcall.mono ?_
  rintro e W' ⟨v, F', S', rfl, hb, _, _, _, _, hv⟩
  have hv : OwnV F' W' .bool .shr S' v true := hv
  have := hv.bool_eq
  subst this
  have hargs0 := Below.trod Try.laidOut (by kernel_rfl) (of_decide_eq_true (by kernel_rfl)) h0 hb hlt0
  have hargs1 := Below.trod Try.laidOut (by kernel_rfl) (of_decide_eq_true (by kernel_rfl)) h1 hb hlt1
  have hargs2 := Below.trod Try.laidOut (by kernel_rfl) (of_decide_eq_true (by kernel_rfl)) h2 hb hlt2
  refine ⟨_, rfl, _, _, _, [], p0 ++ (p1 ++ p2), [], hW', ?_, trodAll_mk3 hargs0 hargs1 hargs2, rfl, hb.frame _, fun h => by cases h⟩
  exact trodAll_mk1 (shut_bool Try.underlying4 true)

theorem axiomFences_holds : Rows.AxiomFencesSaid :=
  OpenClaim.holds_of_wide 7 Try.f7 rfl rfl rfl rfl rfl rfl rfl ⟨rfl, rfl, rfl, rfl, rfl⟩ rfl rfl rfl rfl rfl (by kernel_rfl) Try.func7 (by kernel_rfl)
    (of_decide_eq_true (by kernel_rfl)) (by unfold Func.isWrapper; first | (rw [if_pos (by decide +kernel)]; kernel_rfl) | (rw [if_neg (by decide +kernel)]; exact ⟨rfl, rfl⟩))
    (fun os started H enc _ => fences_lifted Go.User.ok7 os started H enc)
end Go.Proofs.Ytmoonjcbljefaaa
