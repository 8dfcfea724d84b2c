/-
  ClockOrder proved: whatever the input, purlieulaw13.ClockOrder returns true and its arguments read as they did. No condition.
  This text: COrderTop.
-/
import Derived.Test.YtekgkamjbnfgiaaRows
import Derived.Test.YtekgkamjbnfgiaaCLaws1
import Derived.Test.YtekgkamjbnfgiaaK24
set_option linter.unusedVariables false
set_option linter.unusedSimpArgs false
namespace Go.Proofs.Ytekgkamjbnfgiaa
open Go Go.KK Ck Go.ChangeShapes Go.WideShapes Go.ChangeAt Go.RowKit Go.Deep

theorem Try.own : ownKnob Try.prog.godebug = none := by kernel_rfl
theorem Try.laidOut : laidOutB Try.prog = true := by kernel_rfl

set_option maxRecDepth 100000 in
theorem clockOrder_lifted (os : Os) (started : os.Started) (H : Type) (enc : TypeId × Value → H) :
    ReturnsInHanded {} Try.checked os 7 .any (Rows.clockOrderSpec.pre6 enc Try.prog Try.f7 Rows.clockOrderRow.domain false) (Rows.clockOrderSpec.post enc Try.prog Try.f7 false true false false) := by
  refine returnsInHanded_of_change (C := Try.checked) Try.own started (by kernel_rfl) Try.func7
    (ChangeSpec.witness6 (enc := enc) (C := Try.checked) false ⟨#[], #[.slice none 0 0, .int .i64 0, .int .i64 0, .int .i64 0], []⟩ 8 (by kernel_rfl) (by kernel_rfl) (by kernel_rfl) (by kernel_rfl)) ?_
  intro W base args ds gs before hval0 hW hcnd _
  have hval : ∀ (j : Nat) t v, Try.f7.params[j]? = some t → args[j]? = some v → Value.okWide Try.prog W .any base t v := hval0
  have hW' := hW
  obtain ⟨p, q, hA0, hV, rfl, hfz, hnd⟩ := hW
  have hA : DataW.TrodAll enc Try.prog W 0 (fun _ => true) true Try.f7.params.toList args.toList ds p := hA0
  rw [Try.params7] at hA hval
  obtain ⟨v0, v1, v2, v3, d0, d1, d2, d3, p0, p1, p2, p3, rfl, rfl, rfl, h0, h1, h2, h3⟩ := trodAll_four hA
  obtain ⟨rfl, rfl⟩ := trodVars_none hV
  have h0k := h0
  obtain ⟨a0, al0, cap0, rfl, hlen0, hcap0, hnil0, hs0⟩ := open_recs evE Try.underlying22 Try.underlying41 (by kernel_rfl) (by kernel_rfl) rfl (by decide) (ks := [0, 1, 0, 1]) (by kernel_rfl) (fun g hg => by
      obtain ⟨z0, e0⟩ := hg 0 0 rfl
      obtain ⟨z1, e1⟩ := hg 1 1 rfl
      obtain ⟨z2, e2⟩ := hg 2 0 rfl
      obtain ⟨z3, e3⟩ := hg 3 1 rfl
      refine ⟨⟨z0, z1, z2, z3⟩, fun k u hk hu => ?_⟩
      have h4 : k < 4 := hk
      match k, h4 with
      | 0, _ => rw [e0]; simpa [evE] using hu.symm
      | 1, _ => rw [e1]; simpa [evE] using hu.symm
      | 2, _ => rw [e2]; simpa [evE] using hu.symm
      | 3, _ => rw [e3]; simpa [evE] using hu.symm)
    (okWide_slice Try.underlying22 (hval 0 22 _ rfl rfl)) h0
  obtain ⟨n1, rfl, rfl, rfl, w1⟩ := open_int Try.underlying3 (hval 1 3 v1 rfl rfl) h1
  obtain ⟨n2, rfl, rfl, rfl, w2⟩ := open_int Try.underlying3 (hval 2 3 v2 rfl rfl) h2
  obtain ⟨n3, rfl, rfl, rfl, w3⟩ := open_int Try.underlying3 (hval 3 3 v3 rfl rfl) h3
  clear hA0 hval0
  simp only [List.append_nil] at hW'
  have hlt0 : ∀ x ∈ p0, x.block < W.heap.size := fun x hx => by
    have := hW'.lt x (by simp [hx])
    simpa using this
  haveI hI0 : Inp evE (hp W) a0 al0 := ⟨hs0⟩
  refine ((clockOrder_ok (b := a0) rfl (by have h9 := hlen0; unfold maxLen at h9; omega) n1 n2 n3 : CallS Try.prog 7 _ [inp (hp W)] _).run (W := W)).mono fun e W' ⟨he, hb⟩ => ?_
  subst he
  exact ⟨_, rfl, _, _, _, [], _, [], hW', trodAll_mk1 (shut_bool Try.underlying4 true), trodAll_mk4 (Below.trod Try.laidOut (by kernel_rfl) (of_decide_eq_true (by kernel_rfl)) h0k hb hlt0) (shut_int Try.underlying3 w1) (shut_int Try.underlying3 w2) (shut_int Try.underlying3 w3), rfl, hb.frame _, fun h => by cases h⟩

theorem clockOrder_holds : Rows.ClockOrderSaid :=
  OpenClaim.holds_of_wide 7 Try.f7 rfl rfl rfl rfl rfl rfl rfl ⟨rfl, rfl, rfl, rfl, rfl⟩ rfl rfl rfl rfl rfl (by kernel_rfl) Try.func7 (by kernel_rfl)
    (of_decide_eq_true (by kernel_rfl)) (by unfold Func.isWrapper; first | (rw [if_pos (by decide +kernel)]; kernel_rfl) | (rw [if_neg (by decide +kernel)]; exact ⟨rfl, rfl⟩))
    (fun os started H enc _ => clockOrder_lifted os started H enc)
end Go.Proofs.Ytekgkamjbnfgiaa
