/-
  LayoutTouches proved: whatever the input, purlieulaw06.LayoutTouches returns true and its arguments read as they did. No condition.
-/
import Derived.Test.YtnhippfllgnngaaRows
import Derived.Test.YtnhippfllgnngaaPAW
import Derived.Test.YtnhippfllgnngaaKD
/- The text LTouchesTop. -/
set_option linter.unusedVariables false
set_option linter.unusedSimpArgs false
namespace Go.Proofs.Ytnhippfllgnngaa
open Go Go.KK Dm Go.ChangeMaps Go.ChangeShapes Go.WideShapes Go.ChangeAt Go.RowKit Go.Deep

theorem Try.own : ownKnob Try.prog.godebug = none := by kernel_rfl
theorem Try.laidOut : laidOutB Try.prog = true := by kernel_rfl

set_option maxRecDepth 100000 in
theorem layoutTouches_lifted (os : Os) (started : os.Started) (H : Type) (enc : TypeId × Value → H) :
    ReturnsInHanded {} Try.checked os 14 .any (Rows.layoutTouchesSpec.pre6 enc Try.prog Try.f14 Rows.layoutTouchesRow.domain false) (Rows.layoutTouchesSpec.post enc Try.prog Try.f14 false true false false) := by
  refine returnsInHanded_of_change_sized (C := Try.checked) Try.own started (by kernel_rfl) Try.func14
    (ChangeSpec.witness6 (enc := enc) (C := Try.checked) false ⟨#[], #[.string ByteArray.empty, .agg #[.slice none 0 0], .agg #[.slice none 0 0]], []⟩ 8 (by kernel_rfl) (by kernel_rfl) (by kernel_rfl) (by kernel_rfl)) ?_
  intro W base args ds gs before hval0 hW hcnd hsz0 _
  have hval : ∀ (j : Nat) t v, Try.f14.params[j]? = some t → args[j]? = some v → Value.okWide Try.prog W .any base t v := hval0
  have hW' := hW
  obtain ⟨p, q, hA0, hV, rfl, hfz, hnd⟩ := hW
  have hA : DataW.TrodAll enc Try.prog W 0 (fun _ => true) true Try.f14.params.toList args.toList ds p := hA0
  rw [Try.params14] at hA hval
  obtain ⟨v0, v1, v2, d0, d1, d2, p0, p1, p2, rfl, rfl, rfl, h0, h1, h2⟩ := trodAll_three hA
  obtain ⟨rfl, rfl⟩ := trodVars_none hV
  have hsz := hsz0
  rw [Try.params14] at hsz
  have h1k := h1
  have h2k := h2
  obtain ⟨s0, rfl, rfl, rfl, w0⟩ := open_string Try.underlying9 (hval 0 9 v0 rfl rfl) h0
  obtain ⟨cs1, ys1, rfl, rfl, -, hl1, hy1, hF1⟩ := open_struct Try.underlying24 (hone_of (by kernel_rfl)) (by kernel_rfl) (okWide_struct Try.underlying24 (hval 1 24 _ rfl rfl)) h1
  obtain ⟨c1_0, rfl⟩ := len1 hl1
  obtain ⟨y1_0, rfl⟩ := len1 hy1
  have hr1 := reach_fields (j := 1) hsz rfl rfl Try.underlying24
  obtain ⟨m1_0, t1_0⟩ := hF1 0 _ _ _ rfl rfl rfl
  obtain ⟨hv1_0, hT1_0⟩ := cell_slice Try.underlying22 t1_0
  obtain ⟨a1_0, al1_0, cap1_0, rfl, hlen1_0, hcap1_0, hnil1_0, hs1_0, -⟩ := open_gen rgE Try.underlying22 (by kernel_rfl) (by decide) (fun fuel cs x hx => trod_rg hx) hv1_0 hT1_0
  have hz1_0 := reach_len Try.underlying22 hT1_0 (j := 0) hr1 rfl rfl
  rw [show Try.prog.bytesOf 93 = 24 from by kernel_rfl] at hz1_0
  obtain ⟨cs2, ys2, rfl, rfl, -, hl2, hy2, hF2⟩ := open_struct Try.underlying24 (hone_of (by kernel_rfl)) (by kernel_rfl) (okWide_struct Try.underlying24 (hval 2 24 _ rfl rfl)) h2
  obtain ⟨c2_0, rfl⟩ := len1 hl2
  obtain ⟨y2_0, rfl⟩ := len1 hy2
  have hr2 := reach_fields (j := 2) hsz rfl rfl Try.underlying24
  obtain ⟨m2_0, t2_0⟩ := hF2 0 _ _ _ rfl rfl rfl
  obtain ⟨hv2_0, hT2_0⟩ := cell_slice Try.underlying22 t2_0
  obtain ⟨a2_0, al2_0, cap2_0, rfl, hlen2_0, hcap2_0, hnil2_0, hs2_0, -⟩ := open_gen rgE Try.underlying22 (by kernel_rfl) (by decide) (fun fuel cs x hx => trod_rg hx) hv2_0 hT2_0
  have hz2_0 := reach_len Try.underlying22 hT2_0 (j := 0) hr2 rfl rfl
  rw [show Try.prog.bytesOf 93 = 24 from by kernel_rfl] at hz2_0
  clear hA0 hval0 hsz0
  simp only [List.append_nil] at hW'
  have hlt1 : ∀ x ∈ p1, x.block < W.heap.size := fun x hx => by
    have := hW'.lt x (by simp [hx])
    simpa using this
  have hlt2 : ∀ x ∈ p2, x.block < W.heap.size := fun x hx => by
    have := hW'.lt x (by simp [hx])
    simpa using this
  haveI hI1_0 : Inp rgE (hp W) a1_0 al1_0 := ⟨hs1_0⟩
  haveI hI2_0 : Inp rgE (hp W) a2_0 al2_0 := ⟨hs2_0⟩
  refine ((lawTouches (rs := al1_0) (ss := al2_0) rfl rfl : CallS Try.prog 14 _ [inp (hp W)] _).run (W := W)).mono fun e W' ⟨he, hb⟩ => ?_
  subst he
  exact ⟨_, rfl, _, _, _, [], _, [], hW', trodAll_mk1 (shut_bool Try.underlying4 true), trodAll_mk3 (shut_string Try.underlying9 w0) (Below.trod Try.laidOut (by kernel_rfl) (of_decide_eq_true (by kernel_rfl)) h1k hb hlt1) (Below.trod Try.laidOut (by kernel_rfl) (of_decide_eq_true (by kernel_rfl)) h2k hb hlt2), rfl, hb.frame _, fun h => by cases h⟩

set_option maxHeartbeats 4000000 in
theorem layoutTouches_closed : joinedFacts Try.prog 14 Try.f14 Rows.layoutTouchesSpec Rows.layoutTouchesRow = true := by
  simp only [joinedFacts, Bool.and_eq_true]
  repeat' apply And.intro
  all_goals (as_aux_lemma => kernel_rfl)
theorem layoutTouches_holds : Rows.LayoutTouchesSaid :=
  OpenClaim.holds_of_wide 14 Try.f14 rfl rfl rfl rfl rfl rfl rfl ⟨rfl, rfl, rfl, rfl, rfl⟩ rfl rfl rfl rfl rfl (by kernel_rfl) Try.func14 layoutTouches_closed
    (of_decide_eq_true (by kernel_rfl)) (by unfold Func.isWrapper; first | (rw [if_pos (by decide +kernel)]; kernel_rfl) | (rw [if_neg (by decide +kernel)]; exact ⟨rfl, rfl⟩))
    (fun os started H enc _ => layoutTouches_lifted os started H enc)
end Go.Proofs.Ytnhippfllgnngaa
