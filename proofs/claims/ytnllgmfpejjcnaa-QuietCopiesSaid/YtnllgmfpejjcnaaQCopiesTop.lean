/-
  QuietCopies proved: whatever the input, purlieulaw17.QuietCopies returns true and its arguments read as they did. No condition.
  This text: QCopiesTop.
-/
import Derived.Test.YtnllgmfpejjcnaaRows
import Derived.Test.YtnllgmfpejjcnaaQCopies
set_option linter.unusedVariables false
set_option linter.unusedSimpArgs false
namespace Go.Proofs.Ytnllgmfpejjcnaa
open Go Go.KK Qt Go.ChangeShapes Go.WideShapes Go.ChangeAt Go.RowKit Go.Deep

theorem Try.own : ownKnob Try.prog.godebug = none := by kernel_rfl
theorem Try.laidOut : laidOutB Try.prog = true := by kernel_rfl

set_option maxRecDepth 100000 in
theorem quietCopies_lifted (os : Os) (started : os.Started) (H : Type) (enc : TypeId × Value → H) :
    ReturnsInHanded {} Try.checked os 9 .any (Rows.quietCopiesSpec.pre6 enc Try.prog Try.f9 Rows.quietCopiesRow.domain false) (Rows.quietCopiesSpec.post enc Try.prog Try.f9 false true false false) := by
  refine returnsInHanded_of_change (C := Try.checked) Try.own started (by kernel_rfl) Try.func9
    (ChangeSpec.witness6 (enc := enc) (C := Try.checked) false ⟨#[], #[.int .i64 0, .slice none 0 0, .slice none 0 0], []⟩ 8 (by kernel_rfl) (by kernel_rfl) (by kernel_rfl) (by kernel_rfl)) ?_
  intro W base args ds gs before hval0 hW hcnd _
  have hval : ∀ (j : Nat) t v, Try.f9.params[j]? = some t → args[j]? = some v → Value.okWide Try.prog W .any base t v := hval0
  have hW' := hW
  obtain ⟨p, q, hA0, hV, rfl, hfz, hnd⟩ := hW
  have hA : DataW.TrodAll enc Try.prog W 0 (fun _ => true) true Try.f9.params.toList args.toList ds p := hA0
  rw [Try.params9] at hA hval
  obtain ⟨v0, v1, v2, d0, d1, d2, p0, p1, p2, rfl, rfl, rfl, h0, h1, h2⟩ := trodAll_three hA
  obtain ⟨rfl, rfl⟩ := trodVars_none hV
  have h1k := h1
  have h2k := h2
  obtain ⟨n0, rfl, rfl, rfl, w0⟩ := open_int Try.underlying3 (hval 0 3 v0 rfl rfl) h0
  obtain ⟨a1, al1, cap1, rfl, hlen1, hnil1, hs1⟩ := open_acts actE Try.underlying22 Try.underlying30 (by kernel_rfl) (by kernel_rfl) rfl (by decide) (ti := 3) rfl Try.underlying3 (fun g => ⟨(g 0, g 1, g 2), fun k u hk hu => by
      have h3 : k < 3 := hk
      match k, h3 with
      | 0, _ => simpa [actE] using hu.symm
      | 1, _ => simpa [actE] using hu.symm
      | 2, _ => simpa [actE] using hu.symm⟩)
    (okWide_slice Try.underlying22 (hval 1 22 _ rfl rfl)) h1
  obtain ⟨a2, al2, cap2, rfl, hlen2, hnil2, hs2⟩ := open_acts actE Try.underlying22 Try.underlying30 (by kernel_rfl) (by kernel_rfl) rfl (by decide) (ti := 3) rfl Try.underlying3 (fun g => ⟨(g 0, g 1, g 2), fun k u hk hu => by
      have h3 : k < 3 := hk
      match k, h3 with
      | 0, _ => simpa [actE] using hu.symm
      | 1, _ => simpa [actE] using hu.symm
      | 2, _ => simpa [actE] using hu.symm⟩)
    (okWide_slice Try.underlying22 (hval 2 22 _ rfl rfl)) h2
  clear hA0 hval0
  simp only [List.append_nil] at hW'
  have hlt1 : ∀ x ∈ p1, x.block < W.heap.size := fun x hx => by
    have := hW'.lt x (by simp [hx])
    simpa using this
  have hlt2 : ∀ x ∈ p2, x.block < W.heap.size := fun x hx => by
    have := hW'.lt x (by simp [hx])
    simpa using this
  haveI hI1 : Inp actE (hp W) a1 al1 := ⟨hs1⟩
  haveI hI2 : Inp actE (hp W) a2 al2 := ⟨hs2⟩
  refine ((copies_ok n0 a1 cap1 al1 a2 cap2 al2 (h0 := hp W)).run (W := W)).mono fun e W' ⟨he, hb⟩ => ?_
  subst he
  exact ⟨_, rfl, _, _, _, [], _, [], hW', trodAll_mk1 (shut_bool Try.underlying4 true), trodAll_mk3 (shut_int Try.underlying3 w0) (Below.trod Try.laidOut (by kernel_rfl) (of_decide_eq_true (by kernel_rfl)) h1k hb hlt1) (Below.trod Try.laidOut (by kernel_rfl) (of_decide_eq_true (by kernel_rfl)) h2k hb hlt2), rfl, hb.frame _, fun h => by cases h⟩

theorem quietCopies_holds : Rows.QuietCopiesSaid :=
  OpenClaim.holds_of_wide 9 Try.f9 rfl rfl rfl rfl rfl rfl rfl ⟨rfl, rfl, rfl, rfl, rfl⟩ rfl rfl rfl rfl rfl (by kernel_rfl) Try.func9 (by kernel_rfl)
    (of_decide_eq_true (by kernel_rfl)) (by unfold Func.isWrapper; first | (rw [if_pos (by decide +kernel)]; kernel_rfl) | (rw [if_neg (by decide +kernel)]; exact ⟨rfl, rfl⟩))
    (fun os started H enc _ => quietCopies_lifted os started H enc)
end Go.Proofs.Ytnllgmfpejjcnaa
