/-
  SparseFrom proved: whatever the input, purlieulaw05.SparseFrom returns true and its arguments read as they did. No condition.
-/
import Derived.Test.YtnhippfllgnngaaRows
import Derived.Test.YtnhippfllgnngaaPAV
import Derived.Test.YtnhippfllgnngaaKD
/- The text PFromTop. -/
set_option linter.unusedVariables false
set_option linter.unusedSimpArgs false
namespace Go.Proofs.Ytnhippfllgnngaa
open Go Go.KK Dm Go.ChangeMaps Go.ChangeShapes Go.WideShapes Go.ChangeAt Go.RowKit Go.Deep

theorem Try.own : ownKnob Try.prog.godebug = none := by kernel_rfl
theorem Try.laidOut : laidOutB Try.prog = true := by kernel_rfl

set_option maxRecDepth 100000 in
theorem sparseFrom_lifted (os : Os) (started : os.Started) (H : Type) (enc : TypeId × Value → H) :
    ReturnsInHanded {} Try.checked os 4 .any (Rows.sparseFromSpec.pre6 enc Try.prog Try.f4 Rows.sparseFromRow.domain false) (Rows.sparseFromSpec.post enc Try.prog Try.f4 false true false false) := by
  refine returnsInHanded_of_change_sized (C := Try.checked) Try.own started (by kernel_rfl) Try.func4
    (ChangeSpec.witness6 (enc := enc) (C := Try.checked) false ⟨#[], #[.agg #[.slice none 0 0], .slice none 0 0, .slice none 0 0], []⟩ 8 (by kernel_rfl) (by kernel_rfl) (by kernel_rfl) (by kernel_rfl)) ?_
  intro W base args ds gs before hval0 hW hcnd hsz0 _
  have hval : ∀ (j : Nat) t v, Try.f4.params[j]? = some t → args[j]? = some v → Value.okWide Try.prog W .any base t v := hval0
  have hW' := hW
  obtain ⟨p, q, hA0, hV, rfl, hfz, hnd⟩ := hW
  have hA : DataW.TrodAll enc Try.prog W 0 (fun _ => true) true Try.f4.params.toList args.toList ds p := hA0
  rw [Try.params4] at hA hval
  obtain ⟨v0, v1, v2, d0, d1, d2, p0, p1, p2, rfl, rfl, rfl, h0, h1, h2⟩ := trodAll_three hA
  obtain ⟨rfl, rfl⟩ := trodVars_none hV
  have hsz := hsz0
  rw [Try.params4] at hsz
  have h0k := h0
  have h1k := h1
  have h2k := h2
  obtain ⟨cs0, ys0, rfl, rfl, -, hl0, hy0, hF0⟩ := open_struct Try.underlying24 (hone_of (by kernel_rfl)) (by kernel_rfl) (okWide_struct Try.underlying24 (hval 0 24 _ rfl rfl)) h0
  obtain ⟨c0_0, rfl⟩ := len1 hl0
  obtain ⟨y0_0, rfl⟩ := len1 hy0
  have hr0 := reach_fields (j := 0) hsz rfl rfl Try.underlying24
  obtain ⟨m0_0, t0_0⟩ := hF0 0 _ _ _ rfl rfl rfl
  obtain ⟨hv0_0, hT0_0⟩ := cell_slice Try.underlying22 t0_0
  obtain ⟨a0_0, al0_0, cap0_0, rfl, hlen0_0, hcap0_0, hnil0_0, hs0_0, -⟩ := open_gen rgE Try.underlying22 (by kernel_rfl) (by decide) (fun fuel cs x hx => trod_rgS hx) hv0_0 hT0_0
  have hz0_0 := reach_len Try.underlying22 hT0_0 (j := 0) hr0 rfl rfl
  rw [show Try.prog.bytesOf 93 = 24 from by kernel_rfl] at hz0_0
  obtain ⟨a1, al1, cap1, rfl, hlen1, hcap1, hnil1, hs1, -⟩ := open_gen intE Try.underlying28 (by kernel_rfl) (by decide) (fun fuel cs x hx => by obtain ⟨n, e, _⟩ := DataW.trod_int Try.underlying3 hx; exact ⟨n, e.symm⟩) (okWide_slice Try.underlying28 (hval 1 28 _ rfl rfl)) h1
  have hz1 := reach_len Try.underlying28 h1 (j := 1) hsz rfl rfl
  rw [show Try.prog.bytesOf 3 = 8 from by kernel_rfl] at hz1
  obtain ⟨a2, al2, cap2, rfl, hlen2, hcap2, hnil2, hs2, -⟩ := open_gen intE Try.underlying28 (by kernel_rfl) (by decide) (fun fuel cs x hx => by obtain ⟨n, e, _⟩ := DataW.trod_int Try.underlying3 hx; exact ⟨n, e.symm⟩) (okWide_slice Try.underlying28 (hval 2 28 _ rfl rfl)) h2
  have hz2 := reach_len Try.underlying28 h2 (j := 2) hsz rfl rfl
  rw [show Try.prog.bytesOf 3 = 8 from by kernel_rfl] at hz2
  clear hA0 hval0 hsz0
  simp only [List.append_nil] at hW'
  have hlt0 : ∀ x ∈ p0, x.block < W.heap.size := fun x hx => by
    have := hW'.lt x (by simp [hx])
    simpa using this
  have hlt1 : ∀ x ∈ p1, x.block < W.heap.size := fun x hx => by
    have := hW'.lt x (by simp [hx])
    simpa using this
  have hlt2 : ∀ x ∈ p2, x.block < W.heap.size := fun x hx => by
    have := hW'.lt x (by simp [hx])
    simpa using this
  haveI hI0_0 : Inp rgE (hp W) a0_0 al0_0 := ⟨hs0_0⟩
  haveI hI1 : Inp intE (hp W) a1 al1 := ⟨hs1⟩
  haveI hI2 : Inp intE (hp W) a2 al2 := ⟨hs2⟩
  refine ((lawFrom (rs := al0_0) (starts := al1) (cols := al2) rfl rfl rfl hcap2 : CallS Try.prog 4 _ [inp (hp W)] _).run (W := W)).mono fun e W' ⟨he, hb⟩ => ?_
  subst he
  exact ⟨_, rfl, _, _, _, [], _, [], hW', trodAll_mk1 (shut_bool Try.underlying4 true), trodAll_mk3 (Below.trod Try.laidOut (by kernel_rfl) (of_decide_eq_true (by kernel_rfl)) h0k hb hlt0) (Below.trod Try.laidOut (by kernel_rfl) (of_decide_eq_true (by kernel_rfl)) h1k hb hlt1) (Below.trod Try.laidOut (by kernel_rfl) (of_decide_eq_true (by kernel_rfl)) h2k hb hlt2), rfl, hb.frame _, fun h => by cases h⟩

set_option maxHeartbeats 4000000 in
theorem sparseFrom_closed : joinedFacts Try.prog 4 Try.f4 Rows.sparseFromSpec Rows.sparseFromRow = true := by
  simp only [joinedFacts, Bool.and_eq_true]
  repeat' apply And.intro
  all_goals (as_aux_lemma => kernel_rfl)
theorem sparseFrom_holds : Rows.SparseFromSaid :=
  OpenClaim.holds_of_wide 4 Try.f4 rfl rfl rfl rfl rfl rfl rfl ⟨rfl, rfl, rfl, rfl, rfl⟩ rfl rfl rfl rfl rfl (by kernel_rfl) Try.func4 sparseFrom_closed
    (of_decide_eq_true (by kernel_rfl)) (by unfold Func.isWrapper; first | (rw [if_pos (by decide +kernel)]; kernel_rfl) | (rw [if_neg (by decide +kernel)]; exact ⟨rfl, rfl⟩))
    (fun os started H enc _ => sparseFrom_lifted os started H enc)
end Go.Proofs.Ytnhippfllgnngaa
