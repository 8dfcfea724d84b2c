/-
  TopFiles proved: whatever the input, purlieutop.TopFiles returns true and its arguments read as they did. No condition.
-/
import Derived.Test.YtgbckamaenapeaaRows
import Derived.Test.YtgbckamaenapeaaPAN
import Derived.Test.YtgbckamaenapeaaKD
/- The text HTopFilesTop. -/
set_option linter.unusedVariables false
set_option linter.unusedSimpArgs false
namespace Go.Proofs.Ytgbckamaenapeaa
open Go Go.KK Hf Go.ChangeShapes Go.WideShapes Go.ChangeAt Go.RowKit Go.Deep

theorem Try.own : ownKnob Try.prog.godebug = none := by kernel_rfl
theorem Try.laidOut : laidOutB Try.prog = true := by kernel_rfl

set_option maxRecDepth 100000 in
theorem topFiles_lifted (os : Os) (started : os.Started) (H : Type) (enc : TypeId × Value → H) :
    ReturnsInHanded {} Try.checked os 10 .any (Rows.topFilesSpec.pre6 enc Try.prog Try.f10 Rows.topFilesRow.domain false) (Rows.topFilesSpec.post enc Try.prog Try.f10 false true false false) := by
  refine returnsInHanded_of_change_sized (C := Try.checked) Try.own started (by kernel_rfl) Try.func10
    (ChangeSpec.witness6 (enc := enc) (C := Try.checked) false ⟨#[], #[.int .i64 0, .slice none 0 0, .slice none 0 0], []⟩ 8 (by kernel_rfl) (by kernel_rfl) (by kernel_rfl) (by kernel_rfl)) ?_
  intro W base args ds gs before hval0 hW hcnd hsz0 _
  have hval : ∀ (j : Nat) t v, Try.f10.params[j]? = some t → args[j]? = some v → Value.okWide Try.prog W .any base t v := hval0
  have hW' := hW
  obtain ⟨p, q, hA0, hV, rfl, hfz, hnd⟩ := hW
  have hA : DataW.TrodAll enc Try.prog W 0 (fun _ => true) true Try.f10.params.toList args.toList ds p := hA0
  rw [Try.params10] at hA hval
  obtain ⟨v0, v1, v2, d0, d1, d2, p0, p1, p2, rfl, rfl, rfl, h0, h1, h2⟩ := trodAll_three hA
  obtain ⟨rfl, rfl⟩ := trodVars_none hV
  have hsz := hsz0
  rw [Try.params10] at hsz
  have h1k := h1
  have h2k := h2
  obtain ⟨n0, rfl, rfl, rfl, w0⟩ := open_int Try.underlying3 (hval 0 3 v0 rfl rfl) h0
  obtain ⟨a1, al1, cap1, xl1, rfl, hlen1, hcap1, hnil1, hs1, hR1, hrl1⟩ := open_rows byE 24 Try.underlying22 Try.underlying24 (by kernel_rfl) (by kernel_rfl) (by decide) (fun fuel cs x hx => trod_u8 Try.underlying5 hx) (okWide_slice Try.underlying22 (hval 1 22 _ rfl rfl)) h1
  have hz1 := reach_len Try.underlying22 h1 (j := 1) hsz rfl rfl
  rw [show Try.prog.bytesOf 24 = 24 from by kernel_rfl] at hz1
  obtain ⟨a2, al2, cap2, rfl, hlen2, hcap2, hnil2, hs2, -⟩ := open_gen intE Try.underlying34 (by kernel_rfl) (by decide) (fun fuel cs x hx => by obtain ⟨n, e, _⟩ := DataW.trod_int Try.underlying3 hx; exact ⟨n, e.symm⟩) (okWide_slice Try.underlying34 (hval 2 34 _ rfl rfl)) h2
  have hz2 := reach_len Try.underlying34 h2 (j := 2) hsz rfl rfl
  rw [show Try.prog.bytesOf 3 = 8 from by kernel_rfl] at hz2
  clear hA0 hval0 hsz0
  simp only [List.append_nil] at hW'
  have hlt1 : ∀ x ∈ p1, x.block < W.heap.size := fun x hx => by
    have := hW'.lt x (by simp [hx])
    simpa using this
  have hlt2 : ∀ x ∈ p2, x.block < W.heap.size := fun x hx => by
    have := hW'.lt x (by simp [hx])
    simpa using this
  haveI hI1 : Inp hbE (hp W) a1 al1 := ⟨hs1⟩
  haveI hR1' : InpR byE (hp W) al1 xl1 := hR1
  haveI hI2 : Inp intE (hp W) a2 al2 := ⟨hs2⟩
  refine ((topFiles_ok (a := a1) (b := a2) (hs := al1) (parts := xl1) (picks := al2) rfl rfl hrl1 n0 : CallS Try.prog 10 _ [inp (hp W)] _).run (W := W)).mono fun e W' ⟨he, hb⟩ => ?_
  subst he
  exact ⟨_, rfl, _, _, _, [], _, [], hW', trodAll_mk1 (shut_bool Try.underlying4 true), trodAll_mk3 (shut_int Try.underlying3 w0) (Below.trod Try.laidOut (by kernel_rfl) (of_decide_eq_true (by kernel_rfl)) h1k hb hlt1) (Below.trod Try.laidOut (by kernel_rfl) (of_decide_eq_true (by kernel_rfl)) h2k hb hlt2), rfl, hb.frame _, fun h => by cases h⟩

theorem topFiles_holds : Rows.TopFilesSaid :=
  OpenClaim.holds_of_wide 10 Try.f10 rfl rfl rfl rfl rfl rfl rfl ⟨rfl, rfl, rfl, rfl, rfl⟩ rfl rfl rfl rfl rfl (by kernel_rfl) Try.func10 (by kernel_rfl)
    (of_decide_eq_true (by kernel_rfl)) (by unfold Func.isWrapper; first | (rw [if_pos (by decide +kernel)]; kernel_rfl) | (rw [if_neg (by decide +kernel)]; exact ⟨rfl, rfl⟩))
    (fun os started H enc _ => topFiles_lifted os started H enc)
end Go.Proofs.Ytgbckamaenapeaa
