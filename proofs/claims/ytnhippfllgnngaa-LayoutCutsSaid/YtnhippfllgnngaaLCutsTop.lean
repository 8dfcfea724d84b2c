/-
  LayoutCuts proved: whatever the input, purlieulaw06.LayoutCuts returns true and its arguments read as they did. No condition.
-/
import Derived.Test.YtnhippfllgnngaaRows
import Derived.Test.YtnhippfllgnngaaPAW
import Derived.Test.YtnhippfllgnngaaKD
/- The text LCutsTop. -/
set_option linter.unusedVariables false
set_option linter.unusedSimpArgs false
namespace Go.Proofs.Ytnhippfllgnngaa
open Go Go.KK Dm Go.ChangeMaps Go.ChangeShapes Go.WideShapes Go.ChangeAt Go.RowKit Go.Deep

theorem Try.own : ownKnob Try.prog.godebug = none := by kernel_rfl
theorem Try.laidOut : laidOutB Try.prog = true := by kernel_rfl

set_option maxRecDepth 100000 in
theorem layoutCuts_lifted (os : Os) (started : os.Started) (H : Type) (enc : TypeId × Value → H) :
    ReturnsInHanded {} Try.checked os 18 .any (Rows.layoutCutsSpec.pre6 enc Try.prog Try.f18 Rows.layoutCutsRow.domain false) (Rows.layoutCutsSpec.post enc Try.prog Try.f18 false true false false) := by
  refine returnsInHanded_of_change_sized (C := Try.checked) Try.own started (by kernel_rfl) Try.func18
    (ChangeSpec.witness6 (enc := enc) (C := Try.checked) false ⟨#[], #[.agg #[.string ByteArray.empty, .string ByteArray.empty, .slice none 0 0, .slice none 0 0, .slice none 0 0, .int .i64 0], .agg #[.slice none 0 0], .agg #[.slice none 0 0]], []⟩ 8 (by kernel_rfl) (by kernel_rfl) (by kernel_rfl) (by kernel_rfl)) ?_
  intro W base args ds gs before hval0 hW hcnd hsz0 _
  have hval : ∀ (j : Nat) t v, Try.f18.params[j]? = some t → args[j]? = some v → Value.okWide Try.prog W .any base t v := hval0
  have hW' := hW
  obtain ⟨p, q, hA0, hV, rfl, hfz, hnd⟩ := hW
  have hA : DataW.TrodAll enc Try.prog W 0 (fun _ => true) true Try.f18.params.toList args.toList ds p := hA0
  rw [Try.params18] at hA hval
  obtain ⟨v0, v1, v2, d0, d1, d2, p0, p1, p2, rfl, rfl, rfl, h0, h1, h2⟩ := trodAll_three hA
  obtain ⟨rfl, rfl⟩ := trodVars_none hV
  have hsz := hsz0
  rw [Try.params18] at hsz
  have h0k := h0
  have h1k := h1
  have h2k := h2
  obtain ⟨cs0, ys0, rfl, rfl, -, hl0, hy0, hF0⟩ := open_struct Try.underlying64 (hone_of (by kernel_rfl)) (by kernel_rfl) (okWide_struct Try.underlying64 (hval 0 64 _ rfl rfl)) h0
  obtain ⟨c0_0, c0_1, c0_2, c0_3, c0_4, c0_5, rfl⟩ := len6 hl0
  obtain ⟨y0_0, y0_1, y0_2, y0_3, y0_4, y0_5, rfl⟩ := len6 hy0
  have hr0 := reach_fields (j := 0) hsz rfl rfl Try.underlying64
  obtain ⟨m0_0, t0_0⟩ := hF0 0 _ _ _ rfl rfl rfl
  obtain ⟨s0_0, rfl⟩ := cell_string Try.underlying9 t0_0
  obtain ⟨m0_1, t0_1⟩ := hF0 1 _ _ _ rfl rfl rfl
  obtain ⟨s0_1, rfl⟩ := cell_string Try.underlying9 t0_1
  obtain ⟨m0_2, t0_2⟩ := hF0 2 _ _ _ rfl rfl rfl
  obtain ⟨hv0_2, hT0_2⟩ := cell_slice Try.underlying28 t0_2
  obtain ⟨a0_2, al0_2, cap0_2, rfl, hlen0_2, hcap0_2, hnil0_2, hs0_2, -⟩ := open_gen intE Try.underlying28 (by kernel_rfl) (by decide) (fun fuel cs x hx => by obtain ⟨n, e, _⟩ := DataW.trod_int Try.underlying3 hx; exact ⟨n, e.symm⟩) hv0_2 hT0_2
  have hz0_2 := reach_len Try.underlying28 hT0_2 (j := 2) hr0 rfl rfl
  rw [show Try.prog.bytesOf 3 = 8 from by kernel_rfl] at hz0_2
  obtain ⟨m0_3, t0_3⟩ := hF0 3 _ _ _ rfl rfl rfl
  obtain ⟨hv0_3, hT0_3⟩ := cell_slice Try.underlying28 t0_3
  obtain ⟨a0_3, al0_3, cap0_3, rfl, hlen0_3, hcap0_3, hnil0_3, hs0_3, -⟩ := open_gen intE Try.underlying28 (by kernel_rfl) (by decide) (fun fuel cs x hx => by obtain ⟨n, e, _⟩ := DataW.trod_int Try.underlying3 hx; exact ⟨n, e.symm⟩) hv0_3 hT0_3
  have hz0_3 := reach_len Try.underlying28 hT0_3 (j := 3) hr0 rfl rfl
  rw [show Try.prog.bytesOf 3 = 8 from by kernel_rfl] at hz0_3
  obtain ⟨m0_4, t0_4⟩ := hF0 4 _ _ _ rfl rfl rfl
  obtain ⟨hv0_4, hT0_4⟩ := cell_slice Try.underlying28 t0_4
  obtain ⟨a0_4, al0_4, cap0_4, rfl, hlen0_4, hcap0_4, hnil0_4, hs0_4, -⟩ := open_gen intE Try.underlying28 (by kernel_rfl) (by decide) (fun fuel cs x hx => by obtain ⟨n, e, _⟩ := DataW.trod_int Try.underlying3 hx; exact ⟨n, e.symm⟩) hv0_4 hT0_4
  have hz0_4 := reach_len Try.underlying28 hT0_4 (j := 4) hr0 rfl rfl
  rw [show Try.prog.bytesOf 3 = 8 from by kernel_rfl] at hz0_4
  obtain ⟨m0_5, t0_5⟩ := hF0 5 _ _ _ rfl rfl rfl
  obtain ⟨n0_5, rfl, w0_5⟩ := cell_int Try.underlying3 t0_5
  obtain ⟨cs1, ys1, rfl, rfl, -, hl1, hy1, hF1⟩ := open_struct Try.underlying24 (hone_of (by kernel_rfl)) (by kernel_rfl) (okWide_struct Try.underlying24 (hval 1 24 _ rfl rfl)) h1
  obtain ⟨c1_0, rfl⟩ := len1 hl1
  obtain ⟨y1_0, rfl⟩ := len1 hy1
  have hr1 := reach_fields (j := 1) hsz rfl rfl Try.underlying24
  obtain ⟨m1_0, t1_0⟩ := hF1 0 _ _ _ rfl rfl rfl
  obtain ⟨hv1_0, hT1_0⟩ := cell_slice Try.underlying22 t1_0
  obtain ⟨a1_0, al1_0, cap1_0, rfl, hlen1_0, hcap1_0, hnil1_0, hs1_0, -⟩ := open_gen rgE Try.underlying22 (by kernel_rfl) (by decide) (fun fuel cs x hx => trod_rg hx) hv1_0 hT1_0
  have hz1_0 := reach_len Try.underlying22 hT1_0 (j := 0) hr1 rfl rfl
  rw [show Try.prog.bytesOf 93 = 24 from by kernel_rfl] at hz1_0
  obtain ⟨cs2, ys2, rfl, rfl, -, hl2, hy2, hF2⟩ := open_struct Try.underlying24 (hone_of (by kernel_rfl)) (by kernel_rfl) (okWide_struct Try.underlying24 (hval 2 24 _ rfl rfl)) h2
  obtain ⟨c2_0, rfl⟩ := len1 hl2
  obtain ⟨y2_0, rfl⟩ := len1 hy2
  have hr2 := reach_fields (j := 2) hsz rfl rfl Try.underlying24
  obtain ⟨m2_0, t2_0⟩ := hF2 0 _ _ _ rfl rfl rfl
  obtain ⟨hv2_0, hT2_0⟩ := cell_slice Try.underlying22 t2_0
  obtain ⟨a2_0, al2_0, cap2_0, rfl, hlen2_0, hcap2_0, hnil2_0, hs2_0, -⟩ := open_gen rgE Try.underlying22 (by kernel_rfl) (by decide) (fun fuel cs x hx => trod_rg hx) hv2_0 hT2_0
  have hz2_0 := reach_len Try.underlying22 hT2_0 (j := 0) hr2 rfl rfl
  rw [show Try.prog.bytesOf 93 = 24 from by kernel_rfl] at hz2_0
  clear hA0 hval0 hsz0
  simp only [List.append_nil] at hW'
  have hlt0 : ∀ x ∈ p0, x.block < W.heap.size := fun x hx => by
    have := hW'.lt x (by simp [hx])
    simpa using this
  have hlt1 : ∀ x ∈ p1, x.block < W.heap.size := fun x hx => by
    have := hW'.lt x (by simp [hx])
    simpa using this
  have hlt2 : ∀ x ∈ p2, x.block < W.heap.size := fun x hx => by
    have := hW'.lt x (by simp [hx])
    simpa using this
  haveI hI0_2 : Inp intE (hp W) a0_2 al0_2 := ⟨hs0_2⟩
  haveI hI0_3 : Inp intE (hp W) a0_3 al0_3 := ⟨hs0_3⟩
  haveI hI0_4 : Inp intE (hp W) a0_4 al0_4 := ⟨hs0_4⟩
  haveI hI1_0 : Inp rgE (hp W) a1_0 al1_0 := ⟨hs1_0⟩
  haveI hI2_0 : Inp rgE (hp W) a2_0 al2_0 := ⟨hs2_0⟩
  refine ((lawCuts (rs := al1_0) (ss := al2_0) (x := al0_2) (xs := al0_3) (ys := al0_4) rfl rfl rfl rfl rfl (by unfold reachBytes at hz0_2; omega) (fun e => by obtain ⟨e1, e2⟩ := hnil0_2 e; exact ⟨by rw [e1]; rfl, e2⟩) (fun e => by obtain ⟨e1, e2⟩ := hnil0_3 e; exact ⟨by rw [e1]; rfl, e2⟩) : CallS Try.prog 18 _ [inp (hp W)] _).run (W := W)).mono fun e W' ⟨he, hb⟩ => ?_
  subst he
  exact ⟨_, rfl, _, _, _, [], _, [], hW', trodAll_mk1 (shut_bool Try.underlying4 true), trodAll_mk3 (Below.trod Try.laidOut (by kernel_rfl) (of_decide_eq_true (by kernel_rfl)) h0k hb hlt0) (Below.trod Try.laidOut (by kernel_rfl) (of_decide_eq_true (by kernel_rfl)) h1k hb hlt1) (Below.trod Try.laidOut (by kernel_rfl) (of_decide_eq_true (by kernel_rfl)) h2k hb hlt2), rfl, hb.frame _, fun h => by cases h⟩

set_option maxHeartbeats 4000000 in
theorem layoutCuts_closed : joinedFacts Try.prog 18 Try.f18 Rows.layoutCutsSpec Rows.layoutCutsRow = true := by
  simp only [joinedFacts, Bool.and_eq_true]
  repeat' apply And.intro
  all_goals (as_aux_lemma => kernel_rfl)
theorem layoutCuts_holds : Rows.LayoutCutsSaid :=
  OpenClaim.holds_of_wide 18 Try.f18 rfl rfl rfl rfl rfl rfl rfl ⟨rfl, rfl, rfl, rfl, rfl⟩ rfl rfl rfl rfl rfl (by kernel_rfl) Try.func18 layoutCuts_closed
    (of_decide_eq_true (by kernel_rfl)) (by unfold Func.isWrapper; first | (rw [if_pos (by decide +kernel)]; kernel_rfl) | (rw [if_neg (by decide +kernel)]; exact ⟨rfl, rfl⟩))
    (fun os started H enc _ => layoutCuts_lifted os started H enc)
end Go.Proofs.Ytnhippfllgnngaa
