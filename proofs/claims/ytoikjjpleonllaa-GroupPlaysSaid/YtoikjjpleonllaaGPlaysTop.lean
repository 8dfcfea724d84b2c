/-
  GroupPlays proved: whatever the input, purlieulaw18.GroupPlays returns true and its arguments read as they did. No condition.
-/
import Derived.Test.YtoikjjpleonllaaRows
import Derived.Test.YtoikjjpleonllaaPAS
import Derived.Test.YtoikjjpleonllaaKC
/- The text GPlaysTop. -/
set_option linter.unusedVariables false
set_option linter.unusedSimpArgs false
namespace Go.Proofs.Ytoikjjpleonllaa
open Go Go.KK Gr Go.ChangeMaps Go.ChangeShapes Go.WideShapes Go.ChangeAt Go.RowKit Go.Deep

theorem Try.own : ownKnob Try.prog.godebug = none := by kernel_rfl
theorem Try.laidOut : laidOutB Try.prog = true := by kernel_rfl

set_option maxRecDepth 100000 in
theorem groupPlays_lifted (os : Os) (started : os.Started) (H : Type) (enc : TypeId × Value → H) :
    ReturnsInHanded {} Try.checked os 3 .any (Rows.groupPlaysSpec.pre6 enc Try.prog Try.f3 Rows.groupPlaysRow.domain false) (Rows.groupPlaysSpec.post enc Try.prog Try.f3 false true false false) := by
  refine returnsInHanded_of_change_sized (C := Try.checked) Try.own started (by kernel_rfl) Try.func3
    (ChangeSpec.witness6 (enc := enc) (C := Try.checked) false ⟨#[], #[.agg #[.string ByteArray.empty, .string ByteArray.empty, .int .i64 0, .slice none 0 0], .slice none 0 0], []⟩ 8 (by kernel_rfl) (by kernel_rfl) (by kernel_rfl) (by kernel_rfl)) ?_
  intro W base args ds gs before hval0 hW hcnd hsz0 _
  have hval : ∀ (j : Nat) t v, Try.f3.params[j]? = some t → args[j]? = some v → Value.okWide Try.prog W .any base t v := hval0
  have hW' := hW
  obtain ⟨p, q, hA0, hV, rfl, hfz, hnd⟩ := hW
  have hA : DataW.TrodAll enc Try.prog W 0 (fun _ => true) true Try.f3.params.toList args.toList ds p := hA0
  rw [Try.params3] at hA hval
  obtain ⟨v0, v1, d0, d1, p0, p1, rfl, rfl, rfl, h0, h1⟩ := trodAll_two hA
  obtain ⟨rfl, rfl⟩ := trodVars_none hV
  have hsz := hsz0
  rw [Try.params3] at hsz
  have h0k := h0
  have h1k := h1
  obtain ⟨cs0, ys0, rfl, rfl, -, hl0, hy0, hF0⟩ := open_struct Try.underlying24 (hone_of (by kernel_rfl)) (by kernel_rfl) (okWide_struct Try.underlying24 (hval 0 24 _ rfl rfl)) h0
  obtain ⟨c0_0, c0_1, c0_2, c0_3, rfl⟩ := len4 hl0
  obtain ⟨y0_0, y0_1, y0_2, y0_3, rfl⟩ := len4 hy0
  have hr0 := reach_fields (j := 0) hsz rfl rfl Try.underlying24
  obtain ⟨m0_0, t0_0⟩ := hF0 0 _ _ _ rfl rfl rfl
  obtain ⟨s0_0, rfl⟩ := cell_string Try.underlying9 t0_0
  obtain ⟨m0_1, t0_1⟩ := hF0 1 _ _ _ rfl rfl rfl
  obtain ⟨s0_1, rfl⟩ := cell_string Try.underlying9 t0_1
  obtain ⟨m0_2, t0_2⟩ := hF0 2 _ _ _ rfl rfl rfl
  obtain ⟨n0_2, rfl, w0_2⟩ := cell_int Try.underlying3 t0_2
  obtain ⟨m0_3, t0_3⟩ := hF0 3 _ _ _ rfl rfl rfl
  obtain ⟨hv0_3, hT0_3⟩ := cell_slice Try.underlying22 t0_3
  obtain ⟨a0_3, al0_3, cap0_3, rfl, hlen0_3, hcap0_3, hnil0_3, hs0_3, -⟩ := open_gen intE Try.underlying22 (by kernel_rfl) (by decide) (fun fuel cs x hx => by obtain ⟨n, e, _⟩ := DataW.trod_int Try.underlying3 hx; exact ⟨n, e.symm⟩) hv0_3 hT0_3
  have hz0_3 := reach_len Try.underlying22 hT0_3 (j := 3) hr0 rfl rfl
  rw [show Try.prog.bytesOf 3 = 8 from by kernel_rfl] at hz0_3
  obtain ⟨a1, al1, cap1, rfl, hlen1, hcap1, hnil1, hs1, -⟩ := open_gen intE Try.underlying22 (by kernel_rfl) (by decide) (fun fuel cs x hx => by obtain ⟨n, e, _⟩ := DataW.trod_int Try.underlying3 hx; exact ⟨n, e.symm⟩) (okWide_slice Try.underlying22 (hval 1 22 _ rfl rfl)) h1
  have hz1 := reach_len Try.underlying22 h1 (j := 1) hsz rfl rfl
  rw [show Try.prog.bytesOf 3 = 8 from by kernel_rfl] at hz1
  clear hA0 hval0 hsz0
  simp only [List.append_nil] at hW'
  have hlt0 : ∀ x ∈ p0, x.block < W.heap.size := fun x hx => by
    have := hW'.lt x (by simp [hx])
    simpa using this
  have hlt1 : ∀ x ∈ p1, x.block < W.heap.size := fun x hx => by
    have := hW'.lt x (by simp [hx])
    simpa using this
  haveI hI0_3 : Inp intE (hp W) a0_3 al0_3 := ⟨hs0_3⟩
  haveI hI1 : Inp intE (hp W) a1 al1 := ⟨hs1⟩
  refine ((lawPlays (k := s0_0) (o := s0_1) (root := n0_2) (vs := al0_3) (l := al1) rfl rfl : CallS Try.prog 3 _ [inp (hp W)] _).run (W := W)).mono fun e W' ⟨he, hb⟩ => ?_
  subst he
  exact ⟨_, rfl, _, _, _, [], _, [], hW', trodAll_mk1 (shut_bool Try.underlying4 true), trodAll_mk2 (Below.trod Try.laidOut (by kernel_rfl) (of_decide_eq_true (by kernel_rfl)) h0k hb hlt0) (Below.trod Try.laidOut (by kernel_rfl) (of_decide_eq_true (by kernel_rfl)) h1k hb hlt1), rfl, hb.frame _, fun h => by cases h⟩

set_option maxHeartbeats 4000000 in
theorem groupPlays_closed : joinedFacts Try.prog 3 Try.f3 Rows.groupPlaysSpec Rows.groupPlaysRow = true := by
  simp only [joinedFacts, Bool.and_eq_true]
  repeat' apply And.intro
  all_goals (as_aux_lemma => kernel_rfl)
theorem groupPlays_holds : Rows.GroupPlaysSaid :=
  OpenClaim.holds_of_wide 3 Try.f3 rfl rfl rfl rfl rfl rfl rfl ⟨rfl, rfl, rfl, rfl, rfl⟩ rfl rfl rfl rfl rfl (by kernel_rfl) Try.func3 groupPlays_closed
    (of_decide_eq_true (by kernel_rfl)) (by unfold Func.isWrapper; first | (rw [if_pos (by decide +kernel)]; kernel_rfl) | (rw [if_neg (by decide +kernel)]; exact ⟨rfl, rfl⟩))
    (fun os started H enc _ => groupPlays_lifted os started H enc)
end Go.Proofs.Ytoikjjpleonllaa
