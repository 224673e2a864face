/- ViewFences answers true. The law ViewFences. -/
import Derived.Test.YthhclebbpbkgdaaLfl
set_option linter.unusedVariables false
set_option linter.unusedSimpArgs false
namespace Sp
theorem el_total {P : List (List LOp)} {c : Nat} : (P.getD c []).length ≤ total P := by
  by_cases h : c < P.length
  · have := total_set P c [] h
    simp only [List.length_nil] at this
    omega
  · rw [Pl.getD_out (by omega)]; exact Nat.zero_le _
end Sp
namespace Go.User
open Go.Lf Go.Proofs
set_option maxRecDepth 100000 in
theorem ok14 : FOk Try.prog 14 S14 := by
  have hC : CtxOK Try.prog C14 := okC (fns_cons ok37 fns_nil) rfl rfl rfl rfl rfl rfl rfl
  refine FOk.intro hC (stpS_ok hC) Try.call14 Try.func14 (by kernel_rfl) (by kernel_rfl) L14 (vc14.mpr ?_)
  simp only [z1, z2, z3, z4, z5, z6, z7, z8, z9, z10, z11, z12, z13, z14, z15, z16, z17, z18, z19, z20, z21, z22, z23, z24, z25, z26, z27, z28, z29, z30, z31, z32, z33, z34, z35, z36, z37, z38]
  rintro ⟨t, a, b, u⟩ ⟨h1, h2, h3, ha, hb⟩ hk
  have h1 : 1 ≤ t.1.length := h1
  have h2 : t.1.length ≤ 1000 := h2
  have h3 : Sp.total t.1 ≤ 1000 := h3
  have ha : 0 ≤ a := ha
  have hb : 0 ≤ b := hb
  have hmx : maxNew = 2147483648 := rfl
  dsimp only
  have hf : Sp.fencedG t a b = Sp.fenced t (a.tmod (List.length t.1 : Int)).toNat (b.tmod ((List.length (List.getD t.1 (a.tmod (List.length t.1 : Int)).toNat []) : Int) + 1)).toNat := rfl
  rw [hf]
  obtain ⟨k0, k1⟩ := Sp.tmod_lt (n := (t.1.length : Int)) ha (by omega)
  generalize a.tmod (t.1.length : Int) = k at k0 k1 ⊢
  have hel := Sp.el_total (P := t.1) (c := k.toNat)
  unfold Sp.fenced Sp.insL
  generalize hL : t.1.getD k.toNat [] = L at hel ⊢
  obtain ⟨i0, i1⟩ := Sp.tmod_lt (n := (L.length : Int) + 1) hb (by omega)
  generalize b.tmod ((L.length : Int) + 1) = i at i0 i1 ⊢
  have e1 : win 0 i L = L.take i.toNat := by unfold win; simp
  have e2 : win i (L.length : Int) L = L.drop i.toNat := by
    unfold win
    rw [Int.toNat_natCast, List.take_length]
  have hin : inN k t.1.length := ⟨k0, k1⟩
  rw [e1, e2]
  refine ⟨by omega, by omega, ⟨hin, inK_mid (by omega) (by omega), by omega⟩, ⟨hin, ?_, ?_, ?_, hin, ?_, ?_, hin⟩, rfl⟩
  · exact ⟨by omega, i0, by omega⟩
  · rw [List.length_take]; omega
  · rw [List.length_take]; omega
  · exact ⟨i0, by omega, by omega⟩
  · rw [List.length_append, List.length_take, List.length_drop]; simp only [List.length_singleton]; omega
set_option maxRecDepth 100000 in
theorem ok3 : FOk Try.prog 3 S3 := by
  have hC : CtxOK Try.prog C3 := okC (fns_cons ok11 (fns_cons ok12 (fns_cons ok13 (fns_cons ok14 (fns_cons ok15 (fns_cons ok16 fns_nil)))))) rfl rfl rfl rfl rfl rfl rfl
  refine FOk.intro hC (stpS_ok hC) Try.call3 Try.func3 (by kernel_rfl) (by kernel_rfl) L3 (vc3.mpr ?_)
  simp only [z1, z2, z3, z4, z5, z6, z7, z8, z9, z10, z11, z12, z13, z14, z15, z16, z17, z18, z19, z20, z21, z22, z23, z24, z25, z26, z27, z28, z29, z30, z31, z32, z33, z34, z35, z36, z37, z38]
  have hex := ex_ok
  rintro ⟨x, a, b, u⟩ hk
  have ha : 0 ≤ a := hk.2.1.1
  have hb : 0 ≤ b := hk.2.2.1
  have hM := Sp.total_made (x := x) (n := 4) (by omega) (by omega)
  have hv := Sp.made_valid (x := x) (n := 4) (by omega) (by omega)
  have ht := Sp.made_total (x := x) (n := 4) (by omega) (by omega)
  have hmd : Sp.made x 4 = (Sp.madeP x 4, ()) := rfl
  dsimp only
  rw [hmd] at hv ht ⊢
  generalize Sp.madeP x 4 = P at hM hv ht ⊢
  obtain ⟨m1, m2, m3, m4⟩ := hM
  have ht : (Sp.total P : Int) ≤ 4 := ht
  obtain ⟨k0, k1⟩ := Sp.tmod_lt (n := (P.length : Int)) ha (by omega)
  generalize a.tmod (P.length : Int) = k at k0 k1 ⊢
  have hkk : k.tmod (P.length : Int) = k := Sp.tmod_small k0 k1
  have hel := Sp.el_total (P := P) (c := k.toNat)
  obtain ⟨i0, i1⟩ := Sp.tmod_lt (n := ((P.getD k.toNat []).length : Int) + 1) hb (by omega)
  have hll : (((P.getD k.toNat []).length : Nat) : Int).tmod (((P.getD k.toNat []).length : Int) + 1) = (P.getD k.toNat []).length := Sp.tmod_small (by omega) (by omega)
  have hF : ∀ c, Sp.fencedG (P, ()) k c = Sp.fenced (P, ()) k.toNat (c.tmod (((P.getD k.toNat []).length : Int) + 1)).toNat := by
    intro c; unfold Sp.fencedG; rw [hkk]
  rw [hkk, hF, hF, hll, Int.toNat_natCast]
  have hi : (b.tmod (((P.getD k.toNat []).length : Int) + 1)).toNat ≤ Sp.lenAt (P, ()) k.toNat := by show _ ≤ (P.getD k.toNat []).length; omega
  generalize (b.tmod (((P.getD k.toNat []).length : Int) + 1)).toNat = i at hi ⊢
  have hkl : k.toNat < ((P, ()) : Sp.Lit).1.length := by show k.toNat < P.length; omega
  have hl : (P.getD k.toNat []).length = Sp.lenAt (P, ()) k.toNat := rfl
  have ht5 : Sp.total ((P, ()) : Sp.Lit).1 ≤ 5 := by show Sp.total P ≤ 5; omega
  have hv1 := Sp.fen_valid hkl hi hv ht5
  have hv2 := Sp.fen_valid hkl (Nat.le_refl (Sp.lenAt (P, ()) k.toNat)) hv ht5
  have t1 := Sp.fen_total hkl hi
  have t2 := Sp.fen_total hkl (Nat.le_refl (Sp.lenAt (P, ()) k.toNat))
  have hsub := Sp.fenced_sub hkl hi hv ht5
  have hend := Sp.fenced_end hkl hv ht5
  have hsome := Sp.outs_some hv1
  have hlen := Sp.outs_len (t := (P, ()))
  have h28 : 28 ^ Sp.total P ≤ 28 ^ 4 := Nat.pow_le_pow_right (by omega) (by omega)
  have h284 : 28 ^ 4 = 614656 := by decide
  have ht0 : Sp.total ((P, ()) : Sp.Lit).1 = Sp.total P := rfl
  rw [ht0] at t1 t2 hlen
  rw [hl, Sp.errA_zero hv, Sp.errA_zero hv1, Sp.errA_zero hv2, hend]
  have hs1 : Sp.total (P.set k.toNat (Sp.insL (P.getD k.toNat []) i Sp.feO)) ≤ 1000 := by
    have : Sp.total (P.set k.toNat (Sp.insL (P.getD k.toNat []) i Sp.feO)) = Sp.total P + 1 := t1
    omega
  have hs2 : Sp.total (P.set k.toNat (Sp.insL (P.getD k.toNat []) (Sp.lenAt (P, ()) k.toNat) Sp.feO)) ≤ 1000 := by
    have : Sp.total (P.set k.toNat (Sp.insL (P.getD k.toNat []) (Sp.lenAt (P, ()) k.toNat) Sp.feO)) = Sp.total P + 1 := t2
    omega
  refine ⟨fun h => absurd hex (by rw [h]; decide), fun _ => ⟨by decide, by omega, ⟨by omega, ⟨m3, by omega, by omega, k0, hb⟩, hs1, ⟨k0, by omega⟩, ⟨m3, by omega, by omega, k0, by omega⟩, hs2⟩, fun _ => by omega, ?_⟩⟩
  have hin : Sp.inside (Sp.outs (Sp.fenced (P, ()) k.toNat i)) (Sp.outs (P, ())) = true := Sp.inside_of (Sp.outs_sorted _) (Sp.outs_small hv1) (Sp.outs_small hv) hsub
  have hpos : decide (0 < ((Sp.outs (Sp.fenced (P, ()) k.toNat i)).length : Int)) = true := by
    refine decide_eq_true ?_
    have := List.length_pos_iff.2 hsome
    omega
  have hsm : Sp.sameOs (Sp.outs (P, ())) (Sp.outs (P, ())) = true := decide_eq_true rfl
  exact ⟨⟨⟨⟨⟨⟨rfl, rfl⟩, rfl⟩, of_decide_eq_true hpos⟩, hin⟩, hsm⟩, hex⟩
end Go.User
namespace Go.Proofs.Ythhclebbpbkgdaa
open Go.ChangeShapes Go.WideShapes Go.ChangeAt Go.RowKit Go.Proofs Go.Lf

set_option maxRecDepth 100000 in
theorem viewFences_lifted (hF : FOk Try.prog 3 Go.User.S3) (os : Os) (started : os.Started) (H : Type) (enc : TypeId × Value → H) :
    ReturnsInHanded {} Try.checked os 3 .any (Rows.viewFencesSpec.pre6 enc Try.prog Try.f3 Rows.viewFencesRow.domain false) (Rows.viewFencesSpec.post enc Try.prog Try.f3 false true false false) := by
  refine returnsInHanded_of_change_sized (C := Try.checked) Try.own started (by kernel_rfl) Try.func3
    (ChangeSpec.witness6 (enc := enc) (C := Try.checked) false ⟨#[], #[.slice none 0 0, .int .u8 0, .int .u8 0], []⟩ 8 (by kernel_rfl) (by kernel_rfl) (by kernel_rfl) (by kernel_rfl)) ?_
  intro W base args ds gs before hval0 hW _ hsz0 _
  have hsz : (DataW.weightsEach Try.prog (Try.f3.params.toList ++ Rows.viewFencesSpec.plain.varTypes Try.prog) (ds ++ gs)).all (· ≤ reachBytes) = true := hsz0
  clear hsz0
  have hval : ∀ (j : Nat) t v, Try.f3.params[j]? = some t → args[j]? = some v → Value.okWide Try.prog W .any base t v := hval0
  have hW' := hW
  obtain ⟨p, q, hA0, hV, rfl, _, _⟩ := hW
  have hA : DataW.TrodAll enc Try.prog W 0 (fun _ => true) true Try.f3.params.toList args.toList ds p := hA0
  rw [Try.params3] at hA hval hsz
  obtain ⟨v0, v1, v2, d0, d1, d2, p0, p1, p2, rfl, rfl, rfl, h0, h1, h2⟩ := trodAll_three hA
  obtain ⟨rfl, rfl⟩ := trodVars_none hV
  clear hA0 hval0
  simp only [List.append_nil, List.append_assoc] at hW'
  have hlt0 : ∀ x ∈ p0, x.block < W.heap.size := fun x hx => hW'.lt x (by simp [hx])
  have hlt1 : ∀ x ∈ p1, x.block < W.heap.size := fun x hx => hW'.lt x (by simp [hx])
  have hlt2 : ∀ x ∈ p2, x.block < W.heap.size := fun x hx => hW'.lt x (by simp [hx])
  obtain ⟨x0, hx0⟩ := arg_of (τ := Go.User.tRaw) (by kernel_rfl) (hval 0 23 v0 rfl rfl) h0 hlt0 (sz_of hsz (j := 0) rfl rfl)
  obtain ⟨x1, hx1⟩ := arg_of (τ := .int .u8) (by kernel_rfl) (hval 1 5 v1 rfl rfl) h1 hlt1 (sz_of hsz (j := 1) rfl rfl)
  obtain ⟨x2, hx2⟩ := arg_of (τ := .int .u8) (by kernel_rfl) (hval 2 5 v2 rfl rfl) h2 hlt2 (sz_of hsz (j := 2) rfl rfl)
  have hcall := hF.2 W (fun b => b < W.heap.size) [v0, v1, v2] (x0, x1, x2, ()) (fun b h => h) ⟨v0, [v1, v2], rfl, hx0, v1, [v2], rfl, hx1, v2, [], rfl, hx2, rfl⟩ trivial
  refine hcall.mono ?_
  rintro e W' ⟨v, F', S', rfl, hb, _, _, _, _, hv⟩
  have hv : OwnV F' W' .bool .shr S' v true := hv
  have := hv.bool_eq
  subst this
  have hargs0 := Below.trod Try.laidOut (by kernel_rfl) (of_decide_eq_true (by kernel_rfl)) h0 hb hlt0
  have hargs1 := Below.trod Try.laidOut (by kernel_rfl) (of_decide_eq_true (by kernel_rfl)) h1 hb hlt1
  have hargs2 := Below.trod Try.laidOut (by kernel_rfl) (of_decide_eq_true (by kernel_rfl)) h2 hb hlt2
  refine ⟨_, rfl, _, _, _, [], p0 ++ (p1 ++ p2), [], hW', ?_, trodAll_mk3 hargs0 hargs1 hargs2, rfl, hb.frame _, fun h => by cases h⟩
  exact trodAll_mk1 (shut_bool Try.underlying4 true)

theorem viewFences_holds : Rows.ViewFencesSaid :=
  OpenClaim.holds_of_wide 3 Try.f3 rfl rfl rfl rfl rfl rfl rfl ⟨rfl, rfl, rfl, rfl, rfl⟩ rfl rfl rfl rfl rfl (by kernel_rfl) Try.func3 (by kernel_rfl)
    (of_decide_eq_true (by kernel_rfl)) (by unfold Func.isWrapper; first | (rw [if_pos (by decide +kernel)]; kernel_rfl) | (rw [if_neg (by decide +kernel)]; exact ⟨rfl, rfl⟩))
    (fun os started H enc _ => viewFences_lifted Go.User.ok3 os started H enc)
end Go.Proofs.Ythhclebbpbkgdaa
