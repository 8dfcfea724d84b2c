/-
  GroupBarrier proved: whatever the input, purlieulaw18.GroupBarrier returns true and its arguments read as they did. No condition.
-/
import Derived.Test.YtoikjjpleonllaaRows
import Derived.Test.YtoikjjpleonllaaPAJ
import Derived.Test.YtoikjjpleonllaaKC
/- The text GBarrierTop. -/
set_option linter.unusedVariables false
set_option linter.unusedSimpArgs false
namespace Go.Proofs.Ytoikjjpleonllaa
open Go Go.KK Gr Go.ChangeMaps Go.ChangeShapes Go.WideShapes Go.ChangeAt Go.RowKit Go.Deep

theorem Try.own : ownKnob Try.prog.godebug = none := by kernel_rfl
theorem Try.laidOut : laidOutB Try.prog = true := by kernel_rfl

set_option maxRecDepth 100000 in
theorem groupBarrier_lifted (os : Os) (started : os.Started) (H : Type) (enc : TypeId × Value → H) :
    ReturnsInHanded {} Try.checked os 4 .any (Rows.groupBarrierSpec.pre6 enc Try.prog Try.f4 Rows.groupBarrierRow.domain false) (Rows.groupBarrierSpec.post enc Try.prog Try.f4 false true false false) := by
  refine returnsInHanded_of_change_sized (C := Try.checked) Try.own started (by kernel_rfl) Try.func4
    (ChangeSpec.witness6 (enc := enc) (C := Try.checked) false ⟨#[], #[.int .i64 0, .int .i64 0, .slice none 0 0], []⟩ 8 (by kernel_rfl) (by kernel_rfl) (by kernel_rfl) (by kernel_rfl)) ?_
  intro W base args ds gs before hval0 hW hcnd hsz0 _
  have hval : ∀ (j : Nat) t v, Try.f4.params[j]? = some t → args[j]? = some v → Value.okWide Try.prog W .any base t v := hval0
  have hW' := hW
  obtain ⟨p, q, hA0, hV, rfl, hfz, hnd⟩ := hW
  have hA : DataW.TrodAll enc Try.prog W 0 (fun _ => true) true Try.f4.params.toList args.toList ds p := hA0
  rw [Try.params4] at hA hval
  obtain ⟨v0, v1, v2, d0, d1, d2, p0, p1, p2, rfl, rfl, rfl, h0, h1, h2⟩ := trodAll_three hA
  obtain ⟨rfl, rfl⟩ := trodVars_none hV
  have hsz := hsz0
  rw [Try.params4] at hsz
  have h2k := h2
  obtain ⟨n0, rfl, rfl, rfl, w0⟩ := open_int Try.underlying3 (hval 0 3 v0 rfl rfl) h0
  obtain ⟨n1, rfl, rfl, rfl, w1⟩ := open_int Try.underlying3 (hval 1 3 v1 rfl rfl) h1
  obtain ⟨a2, al2, cap2, rfl, hlen2, hcap2, hnil2, hs2, -⟩ := open_gen intE Try.underlying22 (by kernel_rfl) (by decide) (fun fuel cs x hx => by obtain ⟨n, e, _⟩ := DataW.trod_int Try.underlying3 hx; exact ⟨n, e.symm⟩) (okWide_slice Try.underlying22 (hval 2 22 _ rfl rfl)) h2
  have hz2 := reach_len Try.underlying22 h2 (j := 2) hsz rfl rfl
  rw [show Try.prog.bytesOf 3 = 8 from by kernel_rfl] at hz2
  clear hA0 hval0 hsz0
  simp only [List.append_nil] at hW'
  have hlt2 : ∀ x ∈ p2, x.block < W.heap.size := fun x hx => by
    have := hW'.lt x (by simp [hx])
    simpa using this
  haveI hI2 : Inp intE (hp W) a2 al2 := ⟨hs2⟩
  refine ((lawBarrier (n := n0) (z := n1) (l := al2) rfl : CallS Try.prog 4 _ [inp (hp W)] _).run (W := W)).mono fun e W' ⟨he, hb⟩ => ?_
  subst he
  exact ⟨_, rfl, _, _, _, [], _, [], hW', trodAll_mk1 (shut_bool Try.underlying4 true), trodAll_mk3 (shut_int Try.underlying3 w0) (shut_int Try.underlying3 w1) (Below.trod Try.laidOut (by kernel_rfl) (of_decide_eq_true (by kernel_rfl)) h2k hb hlt2), rfl, hb.frame _, fun h => by cases h⟩

set_option maxHeartbeats 4000000 in
theorem groupBarrier_closed : joinedFacts Try.prog 4 Try.f4 Rows.groupBarrierSpec Rows.groupBarrierRow = true := by
  simp only [joinedFacts, Bool.and_eq_true]
  repeat' apply And.intro
  all_goals (as_aux_lemma => kernel_rfl)
theorem groupBarrier_holds : Rows.GroupBarrierSaid :=
  OpenClaim.holds_of_wide 4 Try.f4 rfl rfl rfl rfl rfl rfl rfl ⟨rfl, rfl, rfl, rfl, rfl⟩ rfl rfl rfl rfl rfl (by kernel_rfl) Try.func4 groupBarrier_closed
    (of_decide_eq_true (by kernel_rfl)) (by unfold Func.isWrapper; first | (rw [if_pos (by decide +kernel)]; kernel_rfl) | (rw [if_neg (by decide +kernel)]; exact ⟨rfl, rfl⟩))
    (fun os started H enc _ => groupBarrier_lifted os started H enc)
end Go.Proofs.Ytoikjjpleonllaa
