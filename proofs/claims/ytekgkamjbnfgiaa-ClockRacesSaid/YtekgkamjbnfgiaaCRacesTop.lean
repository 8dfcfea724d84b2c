/-
  ClockRaces proved: whatever the input, purlieulaw13.ClockRaces returns true and its arguments read as they did. No condition.
  This text: CRacesTop.
-/
import Derived.Test.YtekgkamjbnfgiaaRows
import Derived.Test.YtekgkamjbnfgiaaCLaws2
import Derived.Test.YtekgkamjbnfgiaaK24
set_option linter.unusedVariables false
set_option linter.unusedSimpArgs false
namespace Go.Proofs.Ytekgkamjbnfgiaa
open Go Go.KK Ck Go.ChangeShapes Go.WideShapes Go.ChangeAt Go.RowKit Go.Deep

theorem Try.own : ownKnob Try.prog.godebug = none := by kernel_rfl
theorem Try.laidOut : laidOutB Try.prog = true := by kernel_rfl

set_option maxRecDepth 100000 in
theorem clockRaces_lifted (os : Os) (started : os.Started) (H : Type) (enc : TypeId × Value → H) :
    ReturnsInHanded {} Try.checked os 10 .any (Rows.clockRacesSpec.pre6 enc Try.prog Try.f10 Rows.clockRacesRow.domain false) (Rows.clockRacesSpec.post enc Try.prog Try.f10 false true false false) := by
  refine returnsInHanded_of_change (C := Try.checked) Try.own started (by kernel_rfl) Try.func10
    (ChangeSpec.witness6 (enc := enc) (C := Try.checked) false ⟨#[], #[.slice none 0 0], []⟩ 8 (by kernel_rfl) (by kernel_rfl) (by kernel_rfl) (by kernel_rfl)) ?_
  intro W base args ds gs before hval0 hW hcnd _
  have hval : ∀ (j : Nat) t v, Try.f10.params[j]? = some t → args[j]? = some v → Value.okWide Try.prog W .any base t v := hval0
  have hW' := hW
  obtain ⟨p, q, hA0, hV, rfl, hfz, hnd⟩ := hW
  have hA : DataW.TrodAll enc Try.prog W 0 (fun _ => true) true Try.f10.params.toList args.toList ds p := hA0
  rw [Try.params10] at hA hval
  obtain ⟨v0, d0, rfl, rfl, h0⟩ := trodAll_one hA
  obtain ⟨rfl, rfl⟩ := trodVars_none hV
  have h0k := h0
  obtain ⟨a0, al0, cap0, rfl, hlen0, hcap0, hnil0, hs0⟩ := open_recs evE Try.underlying22 Try.underlying41 (by kernel_rfl) (by kernel_rfl) rfl (by decide) (ks := [0, 1, 0, 1]) (by kernel_rfl) (fun g hg => by
      obtain ⟨z0, e0⟩ := hg 0 0 rfl
      obtain ⟨z1, e1⟩ := hg 1 1 rfl
      obtain ⟨z2, e2⟩ := hg 2 0 rfl
      obtain ⟨z3, e3⟩ := hg 3 1 rfl
      refine ⟨⟨z0, z1, z2, z3⟩, fun k u hk hu => ?_⟩
      have h4 : k < 4 := hk
      match k, h4 with
      | 0, _ => rw [e0]; simpa [evE] using hu.symm
      | 1, _ => rw [e1]; simpa [evE] using hu.symm
      | 2, _ => rw [e2]; simpa [evE] using hu.symm
      | 3, _ => rw [e3]; simpa [evE] using hu.symm)
    (okWide_slice Try.underlying22 (hval 0 22 _ rfl rfl)) h0
  clear hA0 hval0
  simp only [List.append_nil] at hW'
  have hlt0 : ∀ x ∈ p, x.block < W.heap.size := fun x hx => by
    have := hW'.lt x (by simp [hx])
    simpa using this
  haveI hI0 : Inp evE (hp W) a0 al0 := ⟨hs0⟩
  refine ((clockRaces_ok (b := a0) rfl (by have h9 := hlen0; unfold maxLen at h9; omega) : CallS Try.prog 10 _ [inp (hp W)] _).run (W := W)).mono fun e W' ⟨he, hb⟩ => ?_
  subst he
  exact ⟨_, rfl, _, _, _, [], _, [], hW', trodAll_mk1 (shut_bool Try.underlying4 true), trodAll_mk1 (Below.trod Try.laidOut (by kernel_rfl) (of_decide_eq_true (by kernel_rfl)) h0k hb hlt0), rfl, hb.frame _, fun h => by cases h⟩

theorem clockRaces_holds : Rows.ClockRacesSaid :=
  OpenClaim.holds_of_wide 10 Try.f10 rfl rfl rfl rfl rfl rfl rfl ⟨rfl, rfl, rfl, rfl, rfl⟩ rfl rfl rfl rfl rfl (by kernel_rfl) Try.func10 (by kernel_rfl)
    (of_decide_eq_true (by kernel_rfl)) (by unfold Func.isWrapper; first | (rw [if_pos (by decide +kernel)]; kernel_rfl) | (rw [if_neg (by decide +kernel)]; exact ⟨rfl, rfl⟩))
    (fun os started H enc _ => clockRaces_lifted os started H enc)
end Go.Proofs.Ytekgkamjbnfgiaa
