/-
  ChannelReverts proved: whatever the input, purlieulaw23.ChannelReverts returns true and its arguments read as they did. No condition.
-/
import Derived.Test.YtgbckamaenapeaaRows
import Derived.Test.YtgbckamaenapeaaPAH
import Derived.Test.YtgbckamaenapeaaKD
/- The text HRevertsTop. -/
set_option linter.unusedVariables false
set_option linter.unusedSimpArgs false
namespace Go.Proofs.Ytgbckamaenapeaa
open Go Go.KK Hf Go.ChangeShapes Go.WideShapes Go.ChangeAt Go.RowKit Go.Deep

theorem Try.own : ownKnob Try.prog.godebug = none := by kernel_rfl
theorem Try.laidOut : laidOutB Try.prog = true := by kernel_rfl

set_option maxRecDepth 100000 in
theorem channelReverts_lifted (os : Os) (started : os.Started) (H : Type) (enc : TypeId × Value → H) :
    ReturnsInHanded {} Try.checked os 6 .any (Rows.channelRevertsSpec.pre6 enc Try.prog Try.f6 Rows.channelRevertsRow.domain false) (Rows.channelRevertsSpec.post enc Try.prog Try.f6 false true false false) := by
  refine returnsInHanded_of_change_sized (C := Try.checked) Try.own started (by kernel_rfl) Try.func6
    (ChangeSpec.witness6 (enc := enc) (C := Try.checked) false ⟨#[], #[.slice none 0 0, .int .i64 0, .int .i64 0, .slice none 0 0], []⟩ 8 (by kernel_rfl) (by kernel_rfl) (by kernel_rfl) (by kernel_rfl)) ?_
  intro W base args ds gs before hval0 hW hcnd hsz0 _
  have hval : ∀ (j : Nat) t v, Try.f6.params[j]? = some t → args[j]? = some v → Value.okWide Try.prog W .any base t v := hval0
  have hW' := hW
  obtain ⟨p, q, hA0, hV, rfl, hfz, hnd⟩ := hW
  have hA : DataW.TrodAll enc Try.prog W 0 (fun _ => true) true Try.f6.params.toList args.toList ds p := hA0
  rw [Try.params6] at hA hval
  obtain ⟨v0, v1, v2, v3, d0, d1, d2, d3, p0, p1, p2, p3, rfl, rfl, rfl, h0, h1, h2, h3⟩ := trodAll_four hA
  obtain ⟨rfl, rfl⟩ := trodVars_none hV
  have hsz := hsz0
  rw [Try.params6] at hsz
  have h0k := h0
  have h3k := h3
  obtain ⟨a0, al0, cap0, rfl, hlen0, hcap0, hnil0, hs0, -⟩ := open_gen byE Try.underlying24 (by kernel_rfl) (by decide) (fun fuel cs x hx => trod_u8 Try.underlying5 hx) (okWide_slice Try.underlying24 (hval 0 24 _ rfl rfl)) h0
  have hz0 := reach_len Try.underlying24 h0 (j := 0) hsz rfl rfl
  rw [show Try.prog.bytesOf 5 = 1 from by kernel_rfl] at hz0
  obtain ⟨n1, rfl, rfl, rfl, w1⟩ := open_int Try.underlying3 (hval 1 3 v1 rfl rfl) h1
  obtain ⟨n2, rfl, rfl, rfl, w2⟩ := open_int Try.underlying3 (hval 2 3 v2 rfl rfl) h2
  obtain ⟨a3, al3, cap3, xl3, rfl, hlen3, hcap3, hnil3, hs3, hR3, hrl3⟩ := open_rows byE 24 Try.underlying22 Try.underlying24 (by kernel_rfl) (by kernel_rfl) (by decide) (fun fuel cs x hx => trod_u8 Try.underlying5 hx) (okWide_slice Try.underlying22 (hval 3 22 _ rfl rfl)) h3
  have hz3 := reach_len Try.underlying22 h3 (j := 3) hsz rfl rfl
  rw [show Try.prog.bytesOf 24 = 24 from by kernel_rfl] at hz3
  clear hA0 hval0 hsz0
  simp only [List.append_nil] at hW'
  have hlt0 : ∀ x ∈ p0, x.block < W.heap.size := fun x hx => by
    have := hW'.lt x (by simp [hx])
    simpa using this
  have hlt3 : ∀ x ∈ p3, x.block < W.heap.size := fun x hx => by
    have := hW'.lt x (by simp [hx])
    simpa using this
  haveI hI0 : Inp byE (hp W) a0 al0 := ⟨hs0⟩
  haveI hI3 : Inp hbE (hp W) a3 al3 := ⟨hs3⟩
  haveI hR3' : InpR byE (hp W) al3 xl3 := hR3
  refine ((channelReverts_ok (a := a0) (b := a3) (xs := al0) (hs := al3) (parts := xl3) rfl rfl hrl3 (fun e => by obtain ⟨e1, e2⟩ := hnil0 e; exact ⟨by rw [e1]; rfl, e2⟩) n1 n2 : CallS Try.prog 6 _ [inp (hp W)] _).run (W := W)).mono fun e W' ⟨he, hb⟩ => ?_
  subst he
  exact ⟨_, rfl, _, _, _, [], _, [], hW', trodAll_mk1 (shut_bool Try.underlying4 true), trodAll_mk4 (Below.trod Try.laidOut (by kernel_rfl) (of_decide_eq_true (by kernel_rfl)) h0k hb hlt0) (shut_int Try.underlying3 w1) (shut_int Try.underlying3 w2) (Below.trod Try.laidOut (by kernel_rfl) (of_decide_eq_true (by kernel_rfl)) h3k hb hlt3), rfl, hb.frame _, fun h => by cases h⟩

theorem channelReverts_holds : Rows.ChannelRevertsSaid :=
  OpenClaim.holds_of_wide 6 Try.f6 rfl rfl rfl rfl rfl rfl rfl ⟨rfl, rfl, rfl, rfl, rfl⟩ rfl rfl rfl rfl rfl (by kernel_rfl) Try.func6 (by kernel_rfl)
    (of_decide_eq_true (by kernel_rfl)) (by unfold Func.isWrapper; first | (rw [if_pos (by decide +kernel)]; kernel_rfl) | (rw [if_neg (by decide +kernel)]; exact ⟨rfl, rfl⟩))
    (fun os started H enc _ => channelReverts_lifted os started H enc)
end Go.Proofs.Ytgbckamaenapeaa
