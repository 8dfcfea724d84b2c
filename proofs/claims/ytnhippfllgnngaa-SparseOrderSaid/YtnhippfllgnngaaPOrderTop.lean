/-
  SparseOrder proved: whatever the input, purlieulaw05.SparseOrder returns true and its arguments read as they did. No condition.
-/
import Derived.Test.YtnhippfllgnngaaRows
import Derived.Test.YtnhippfllgnngaaPAN
import Derived.Test.YtnhippfllgnngaaKC
/- The text POrderTop. -/
set_option linter.unusedVariables false
set_option linter.unusedSimpArgs false
namespace Go.Proofs.Ytnhippfllgnngaa
open Go Go.KK Dm Go.ChangeMaps Go.ChangeShapes Go.WideShapes Go.ChangeAt Go.RowKit Go.Deep

theorem Try.own : ownKnob Try.prog.godebug = none := by kernel_rfl
theorem Try.laidOut : laidOutB Try.prog = true := by kernel_rfl

set_option maxRecDepth 100000 in
theorem sparseOrder_lifted (os : Os) (started : os.Started) (H : Type) (enc : TypeId × Value → H) :
    ReturnsInHanded {} Try.checked os 12 .any (Rows.sparseOrderSpec.pre6 enc Try.prog Try.f12 Rows.sparseOrderRow.domain false) (Rows.sparseOrderSpec.post enc Try.prog Try.f12 false true false false) := by
  refine returnsInHanded_of_change_sized (C := Try.checked) Try.own started (by kernel_rfl) Try.func12
    (ChangeSpec.witness6 (enc := enc) (C := Try.checked) false ⟨#[], #[.agg #[.slice none 0 0, .slice none 0 0], .slice none 0 0], []⟩ 8 (by kernel_rfl) (by kernel_rfl) (by kernel_rfl) (by kernel_rfl)) ?_
  intro W base args ds gs before hval0 hW hcnd hsz0 _
  have hval : ∀ (j : Nat) t v, Try.f12.params[j]? = some t → args[j]? = some v → Value.okWide Try.prog W .any base t v := hval0
  have hW' := hW
  obtain ⟨p, q, hA0, hV, rfl, hfz, hnd⟩ := hW
  have hA : DataW.TrodAll enc Try.prog W 0 (fun _ => true) true Try.f12.params.toList args.toList ds p := hA0
  rw [Try.params12] at hA hval
  obtain ⟨v0, v1, d0, d1, p0, p1, rfl, rfl, rfl, h0, h1⟩ := trodAll_two hA
  obtain ⟨rfl, rfl⟩ := trodVars_none hV
  have hsz := hsz0
  rw [Try.params12] at hsz
  have h0k := h0
  have h1k := h1
  obtain ⟨cs0, ys0, rfl, rfl, -, hl0, hy0, hF0⟩ := open_struct Try.underlying27 (hone_of (by kernel_rfl)) (by kernel_rfl) (okWide_struct Try.underlying27 (hval 0 27 _ rfl rfl)) h0
  obtain ⟨c0_0, c0_1, rfl⟩ := len2 hl0
  obtain ⟨y0_0, y0_1, rfl⟩ := len2 hy0
  have hr0 := reach_fields (j := 0) hsz rfl rfl Try.underlying27
  obtain ⟨m0_0, t0_0⟩ := hF0 0 _ _ _ rfl rfl rfl
  obtain ⟨zs0_0, -, -, hzl0_0, hzF0_0⟩ := open_cells Try.underlying24 (hone_of (by kernel_rfl)) (by kernel_rfl) t0_0
  obtain ⟨z0_0, rfl⟩ := len1 hzl0_0
  obtain ⟨mm0_0, tt0_0⟩ := hzF0_0 0 _ _ _ rfl rfl rfl
  obtain ⟨hv0_0, hT0_0⟩ := cell_slice Try.underlying22 tt0_0
  obtain ⟨a0_0, al0_0, cap0_0, rfl, hlen0_0, hcap0_0, hnil0_0, hs0_0, -⟩ := open_gen rgE Try.underlying22 (by kernel_rfl) (by decide) (fun fuel cs x hx => trod_rgS hx) hv0_0 hT0_0
  obtain ⟨m0_1, t0_1⟩ := hF0 1 _ _ _ rfl rfl rfl
  obtain ⟨hv0_1, hT0_1⟩ := cell_slice Try.underlying25 t0_1
  obtain ⟨a0_1, al0_1, cap0_1, xl0_1, rfl, hlen0_1, hcap0_1, hnil0_1, hs0_1, hR0_1, hrl0_1⟩ := open_rows intE 28 Try.underlying25 Try.underlying28 (by kernel_rfl) (by kernel_rfl) (by decide) (fun fuel cs x hx => by obtain ⟨n, e, _⟩ := DataW.trod_int Try.underlying3 hx; exact ⟨n, e.symm⟩) hv0_1 hT0_1
  have hz0_1 := reach_len Try.underlying25 hT0_1 (j := 1) hr0 rfl rfl
  rw [show Try.prog.bytesOf 28 = 24 from by kernel_rfl] at hz0_1
  obtain ⟨a1, al1, cap1, xl1, rfl, hlen1, hcap1, hnil1, hs1, hR1, hrl1⟩ := open_rows intE 28 Try.underlying25 Try.underlying28 (by kernel_rfl) (by kernel_rfl) (by decide) (fun fuel cs x hx => by obtain ⟨n, e, _⟩ := DataW.trod_int Try.underlying3 hx; exact ⟨n, e.symm⟩) (okWide_slice Try.underlying25 (hval 1 25 _ rfl rfl)) h1
  have hz1 := reach_len Try.underlying25 h1 (j := 1) hsz rfl rfl
  rw [show Try.prog.bytesOf 28 = 24 from by kernel_rfl] at hz1
  clear hA0 hval0 hsz0
  simp only [List.append_nil] at hW'
  have hlt0 : ∀ x ∈ p0, x.block < W.heap.size := fun x hx => by
    have := hW'.lt x (by simp [hx])
    simpa using this
  have hlt1 : ∀ x ∈ p1, x.block < W.heap.size := fun x hx => by
    have := hW'.lt x (by simp [hx])
    simpa using this
  haveI hI0_0 : Inp rgE (hp W) a0_0 al0_0 := ⟨hs0_0⟩
  haveI hI0_1 : Inp hE (hp W) a0_1 al0_1 := ⟨hs0_1⟩
  haveI hR0_1' : InpR intE (hp W) al0_1 xl0_1 := hR0_1
  haveI hI1 : Inp hE (hp W) a1 al1 := ⟨hs1⟩
  haveI hR1' : InpR intE (hp W) al1 xl1 := hR1
  refine ((lawOrder (rs := al0_0) (hs := al0_1) (gs := al1) (xss := xl0_1) (yss := xl1) rfl rfl rfl (by unfold maxLen at hlen0_1; omega) (by unfold maxLen at hlen1; omega) (fun e => by obtain ⟨h1, h2⟩ := hnil0_1 e; exact ⟨by rw [h1]; rfl, h2⟩) (fun e => by obtain ⟨h1, h2⟩ := hnil1 e; exact ⟨by rw [h1]; rfl, h2⟩) : CallS Try.prog 12 _ [inp (hp W)] _).run (W := W)).mono fun e W' ⟨he, hb⟩ => ?_
  subst he
  exact ⟨_, rfl, _, _, _, [], _, [], hW', trodAll_mk1 (shut_bool Try.underlying4 true), trodAll_mk2 (Below.trod Try.laidOut (by kernel_rfl) (of_decide_eq_true (by kernel_rfl)) h0k hb hlt0) (Below.trod Try.laidOut (by kernel_rfl) (of_decide_eq_true (by kernel_rfl)) h1k hb hlt1), rfl, hb.frame _, fun h => by cases h⟩

set_option maxHeartbeats 4000000 in
theorem sparseOrder_closed : joinedFacts Try.prog 12 Try.f12 Rows.sparseOrderSpec Rows.sparseOrderRow = true := by
  simp only [joinedFacts, Bool.and_eq_true]
  repeat' apply And.intro
  all_goals (as_aux_lemma => kernel_rfl)
theorem sparseOrder_holds : Rows.SparseOrderSaid :=
  OpenClaim.holds_of_wide 12 Try.f12 rfl rfl rfl rfl rfl rfl rfl ⟨rfl, rfl, rfl, rfl, rfl⟩ rfl rfl rfl rfl rfl (by kernel_rfl) Try.func12 sparseOrder_closed
    (of_decide_eq_true (by kernel_rfl)) (by unfold Func.isWrapper; first | (rw [if_pos (by decide +kernel)]; kernel_rfl) | (rw [if_neg (by decide +kernel)]; exact ⟨rfl, rfl⟩))
    (fun os started H enc _ => sparseOrder_lifted os started H enc)
end Go.Proofs.Ytnhippfllgnngaa
