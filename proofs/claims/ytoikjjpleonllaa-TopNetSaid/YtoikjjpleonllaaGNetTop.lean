/-
  TopNet proved: whatever the input, purlieutop.TopNet returns true and its arguments read as they did. No condition.
-/
import Derived.Test.YtoikjjpleonllaaRows
import Derived.Test.YtoikjjpleonllaaPAM
import Derived.Test.YtoikjjpleonllaaKC
/- The text GNetTop. -/
set_option linter.unusedVariables false
set_option linter.unusedSimpArgs false
namespace Go.Proofs.Ytoikjjpleonllaa
open Go Go.KK Gr Go.ChangeMaps Go.ChangeShapes Go.WideShapes Go.ChangeAt Go.RowKit Go.Deep

theorem Try.own : ownKnob Try.prog.godebug = none := by kernel_rfl
theorem Try.laidOut : laidOutB Try.prog = true := by kernel_rfl

set_option maxRecDepth 100000 in
theorem topNet_lifted (os : Os) (started : os.Started) (H : Type) (enc : TypeId × Value → H) :
    ReturnsInHanded {} Try.checked os 9 .any (Rows.topNetSpec.pre6 enc Try.prog Try.f9 Rows.topNetRow.domain false) (Rows.topNetSpec.post enc Try.prog Try.f9 false true false false) := by
  refine returnsInHanded_of_change_sized (C := Try.checked) Try.own started (by kernel_rfl) Try.func9
    (ChangeSpec.witness6 (enc := enc) (C := Try.checked) false ⟨#[], #[.slice none 0 0, .int .i64 0, .agg #[.slice none 0 0, .slice none 0 0]], []⟩ 8 (by kernel_rfl) (by kernel_rfl) (by kernel_rfl) (by kernel_rfl)) ?_
  intro W base args ds gs before hval0 hW hcnd hsz0 _
  have hval : ∀ (j : Nat) t v, Try.f9.params[j]? = some t → args[j]? = some v → Value.okWide Try.prog W .any base t v := hval0
  have hW' := hW
  obtain ⟨p, q, hA0, hV, rfl, hfz, hnd⟩ := hW
  have hA : DataW.TrodAll enc Try.prog W 0 (fun _ => true) true Try.f9.params.toList args.toList ds p := hA0
  rw [Try.params9] at hA hval
  obtain ⟨v0, v1, v2, d0, d1, d2, p0, p1, p2, rfl, rfl, rfl, h0, h1, h2⟩ := trodAll_three hA
  obtain ⟨rfl, rfl⟩ := trodVars_none hV
  have hsz := hsz0
  rw [Try.params9] at hsz
  have h0k := h0
  have h2k := h2
  obtain ⟨a0, al0, cap0, rfl, hlen0, hcap0, hnil0, hs0, hx0⟩ := open_gen intE Try.underlying22 (by kernel_rfl) (by decide) (fun fuel cs x hx => by obtain ⟨n, e, _⟩ := DataW.trod_int Try.underlying3 hx; exact ⟨n, e.symm⟩) (okWide_slice Try.underlying22 (hval 0 22 _ rfl rfl)) h0
  have hz0 := reach_len Try.underlying22 h0 (j := 0) hsz rfl rfl
  rw [show Try.prog.bytesOf 3 = 8 from by kernel_rfl] at hz0
  obtain ⟨n1, rfl, rfl, rfl, w1⟩ := open_int Try.underlying3 (hval 1 3 v1 rfl rfl) h1
  obtain ⟨cs2, ys2, rfl, rfl, -, hl2, hy2, hF2⟩ := open_struct Try.underlying60 (hone_of (by kernel_rfl)) (by kernel_rfl) (okWide_struct Try.underlying60 (hval 2 60 _ rfl rfl)) h2
  obtain ⟨c2_0, c2_1, rfl⟩ := len2 hl2
  obtain ⟨y2_0, y2_1, rfl⟩ := len2 hy2
  have hr2 := reach_fields (j := 2) hsz rfl rfl Try.underlying60
  obtain ⟨m2_0, t2_0⟩ := hF2 0 _ _ _ rfl rfl rfl
  obtain ⟨hv2_0, hT2_0⟩ := cell_slice Try.underlying22 t2_0
  obtain ⟨a2_0, al2_0, cap2_0, rfl, hlen2_0, hcap2_0, hnil2_0, hs2_0, -⟩ := open_gen intE Try.underlying22 (by kernel_rfl) (by decide) (fun fuel cs x hx => by obtain ⟨n, e, _⟩ := DataW.trod_int Try.underlying3 hx; exact ⟨n, e.symm⟩) hv2_0 hT2_0
  have hz2_0 := reach_len Try.underlying22 hT2_0 (j := 0) hr2 rfl rfl
  rw [show Try.prog.bytesOf 3 = 8 from by kernel_rfl] at hz2_0
  obtain ⟨m2_1, t2_1⟩ := hF2 1 _ _ _ rfl rfl rfl
  obtain ⟨hv2_1, hT2_1⟩ := cell_slice Try.underlying22 t2_1
  obtain ⟨a2_1, al2_1, cap2_1, rfl, hlen2_1, hcap2_1, hnil2_1, hs2_1, -⟩ := open_gen intE Try.underlying22 (by kernel_rfl) (by decide) (fun fuel cs x hx => by obtain ⟨n, e, _⟩ := DataW.trod_int Try.underlying3 hx; exact ⟨n, e.symm⟩) hv2_1 hT2_1
  have hz2_1 := reach_len Try.underlying22 hT2_1 (j := 1) hr2 rfl rfl
  rw [show Try.prog.bytesOf 3 = 8 from by kernel_rfl] at hz2_1
  clear hA0 hval0 hsz0
  simp only [List.append_nil] at hW'
  have hlt0 : ∀ x ∈ p0, x.block < W.heap.size := fun x hx => by
    have := hW'.lt x (by simp [hx])
    simpa using this
  have hlt2 : ∀ x ∈ p2, x.block < W.heap.size := fun x hx => by
    have := hW'.lt x (by simp [hx])
    simpa using this
  haveI hI0 : Inp intE (hp W) a0 al0 := ⟨hs0⟩
  haveI hI2_0 : Inp intE (hp W) a2_0 al2_0 := ⟨hs2_0⟩
  haveI hI2_1 : Inp intE (hp W) a2_1 al2_1 := ⟨hs2_1⟩
  refine ((lawNet (z := n1) (vs := al0) (l1 := al2_0) (l2 := al2_1) rfl rfl rfl (fun hne => by obtain ⟨fuel, y, hh⟩ := hx0 (al0.getD 0 0) (by rw [List.getD_eq_getElem?_getD, List.getElem?_eq_getElem (by omega)]; exact List.getElem_mem _); obtain ⟨m, e, -, hw⟩ := DataW.trod_int Try.underlying3 hh; have e2 : al0.getD 0 0 = m := (by simpa [intE] using e); rw [e2]; exact lit_ok hw) : CallS Try.prog 9 _ [inp (hp W)] _).run (W := W)).mono fun e W' ⟨he, hb⟩ => ?_
  subst he
  exact ⟨_, rfl, _, _, _, [], _, [], hW', trodAll_mk1 (shut_bool Try.underlying4 true), trodAll_mk3 (Below.trod Try.laidOut (by kernel_rfl) (of_decide_eq_true (by kernel_rfl)) h0k hb hlt0) (shut_int Try.underlying3 w1) (Below.trod Try.laidOut (by kernel_rfl) (of_decide_eq_true (by kernel_rfl)) h2k hb hlt2), rfl, hb.frame _, fun h => by cases h⟩

set_option maxHeartbeats 4000000 in
theorem topNet_closed : joinedFacts Try.prog 9 Try.f9 Rows.topNetSpec Rows.topNetRow = true := by
  simp only [joinedFacts, Bool.and_eq_true]
  repeat' apply And.intro
  all_goals (as_aux_lemma => kernel_rfl)
theorem topNet_holds : Rows.TopNetSaid :=
  OpenClaim.holds_of_wide 9 Try.f9 rfl rfl rfl rfl rfl rfl rfl ⟨rfl, rfl, rfl, rfl, rfl⟩ rfl rfl rfl rfl rfl (by kernel_rfl) Try.func9 topNet_closed
    (of_decide_eq_true (by kernel_rfl)) (by unfold Func.isWrapper; first | (rw [if_pos (by decide +kernel)]; kernel_rfl) | (rw [if_neg (by decide +kernel)]; exact ⟨rfl, rfl⟩))
    (fun os started H enc _ => topNet_lifted os started H enc)
end Go.Proofs.Ytoikjjpleonllaa
