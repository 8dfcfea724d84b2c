/-
  OwnerStraight proved: whatever the input, purlieulaw22.OwnerStraight returns true and its arguments read as they did. No condition.
-/
import Derived.Test.YthdaopmfgmojnaaRows
import Derived.Test.YthdaopmfgmojnaaPAT
import Derived.Test.YthdaopmfgmojnaaKC
/- The text OStraightTop. -/
set_option linter.unusedVariables false
set_option linter.unusedSimpArgs false
namespace Go.Proofs.Ythdaopmfgmojnaa
open Go Go.KK Ow Go.ChangeShapes Go.WideShapes Go.ChangeAt Go.RowKit Go.Deep

theorem Try.own : ownKnob Try.prog.godebug = none := by kernel_rfl
theorem Try.laidOut : laidOutB Try.prog = true := by kernel_rfl

set_option maxRecDepth 100000 in
theorem ownerStraight_lifted (os : Os) (started : os.Started) (H : Type) (enc : TypeId × Value → H) :
    ReturnsInHanded {} Try.checked os 9 .any (Rows.ownerStraightSpec.pre6 enc Try.prog Try.f9 Rows.ownerStraightRow.domain false) (Rows.ownerStraightSpec.post enc Try.prog Try.f9 false true false false) := by
  refine returnsInHanded_of_change_sized (C := Try.checked) Try.own started (by kernel_rfl) Try.func9
    (ChangeSpec.witness6 (enc := enc) (C := Try.checked) false ⟨#[], #[.slice none 0 0, .slice none 0 0], []⟩ 8 (by kernel_rfl) (by kernel_rfl) (by kernel_rfl) (by kernel_rfl)) ?_
  intro W base args ds gs before hval0 hW hcnd hsz0 _
  have hval : ∀ (j : Nat) t v, Try.f9.params[j]? = some t → args[j]? = some v → Value.okWide Try.prog W .any base t v := hval0
  have hW' := hW
  obtain ⟨p, q, hA0, hV, rfl, hfz, hnd⟩ := hW
  have hA : DataW.TrodAll enc Try.prog W 0 (fun _ => true) true Try.f9.params.toList args.toList ds p := hA0
  rw [Try.params9] at hA hval
  obtain ⟨v0, v1, d0, d1, p0, p1, rfl, rfl, rfl, h0, h1⟩ := trodAll_two hA
  obtain ⟨rfl, rfl⟩ := trodVars_none hV
  have hsz := hsz0
  rw [Try.params9] at hsz
  have h0k := h0
  have h1k := h1
  obtain ⟨a0, al0, cap0, rfl, hlen0, hcap0, hnil0, hs0⟩ := open_recs deedE Try.underlying22 Try.underlying46 (by kernel_rfl) (by kernel_rfl) rfl (by decide) (ks := [1, 1, 1]) (by kernel_rfl) (fun g hg => by
      obtain ⟨z0, e0⟩ := hg 0 1 rfl
      obtain ⟨z1, e1⟩ := hg 1 1 rfl
      obtain ⟨z2, e2⟩ := hg 2 1 rfl
      refine ⟨⟨z0, z1, z2⟩, fun k u hk hu => ?_⟩
      have h4 : k < 3 := hk
      match k, h4 with
      | 0, _ => rw [e0]; simpa [deedE] using hu.symm
      | 1, _ => rw [e1]; simpa [deedE] using hu.symm
      | 2, _ => rw [e2]; simpa [deedE] using hu.symm)
    (okWide_slice Try.underlying22 (hval 0 22 _ rfl rfl)) h0
  have hz0 := reach_len Try.underlying22 h0 (j := 0) hsz rfl rfl
  rw [show Try.prog.bytesOf 46 = 48 from by kernel_rfl] at hz0
  obtain ⟨a1, al1, cap1, rfl, hlen1, hcap1, hnil1, hs1⟩ := open_scal boolE Try.underlying23 (κ := 2) (by kernel_rfl) (by kernel_rfl) rfl (fun g hg => by obtain ⟨b, rfl⟩ := hg; exact ⟨b, rfl⟩)
    (okWide_slice Try.underlying23 (hval 1 23 _ rfl rfl)) h1
  have hz1 := reach_len Try.underlying23 h1 (j := 1) hsz rfl rfl
  rw [show Try.prog.bytesOf 4 = 1 from by kernel_rfl] at hz1
  clear hA0 hval0 hsz0
  simp only [List.append_nil] at hW'
  have hlt0 : ∀ x ∈ p0, x.block < W.heap.size := fun x hx => by
    have := hW'.lt x (by simp [hx])
    simpa using this
  have hlt1 : ∀ x ∈ p1, x.block < W.heap.size := fun x hx => by
    have := hW'.lt x (by simp [hx])
    simpa using this
  haveI hI0 : Inp deedE (hp W) a0 al0 := ⟨hs0⟩
  haveI hI1 : Inp boolE (hp W) a1 al1 := ⟨hs1⟩
  refine ((ownerStraight_ok (a := a0) (b := a1) rfl rfl (by unfold reachBytes at hz0; omega) : CallS Try.prog 9 _ [inp (hp W)] _).run (W := W)).mono fun e W' ⟨he, hb⟩ => ?_
  subst he
  exact ⟨_, rfl, _, _, _, [], _, [], hW', trodAll_mk1 (shut_bool Try.underlying4 true), trodAll_mk2 (Below.trod Try.laidOut (by kernel_rfl) (of_decide_eq_true (by kernel_rfl)) h0k hb hlt0) (Below.trod Try.laidOut (by kernel_rfl) (of_decide_eq_true (by kernel_rfl)) h1k hb hlt1), rfl, hb.frame _, fun h => by cases h⟩

theorem ownerStraight_holds : Rows.OwnerStraightSaid :=
  OpenClaim.holds_of_wide 9 Try.f9 rfl rfl rfl rfl rfl rfl rfl ⟨rfl, rfl, rfl, rfl, rfl⟩ rfl rfl rfl rfl rfl (by kernel_rfl) Try.func9 (by kernel_rfl)
    (of_decide_eq_true (by kernel_rfl)) (by unfold Func.isWrapper; first | (rw [if_pos (by decide +kernel)]; kernel_rfl) | (rw [if_neg (by decide +kernel)]; exact ⟨rfl, rfl⟩))
    (fun os started H enc _ => ownerStraight_lifted os started H enc)
end Go.Proofs.Ythdaopmfgmojnaa
