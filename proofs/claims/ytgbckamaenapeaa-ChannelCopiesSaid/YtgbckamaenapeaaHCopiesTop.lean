/-
  ChannelCopies proved: whatever the input, purlieulaw23.ChannelCopies returns true and its arguments read as they did. No condition.
-/
import Derived.Test.YtgbckamaenapeaaRows
import Derived.Test.YtgbckamaenapeaaPAQ
import Derived.Test.YtgbckamaenapeaaKD
/- The text HCopiesTop. -/
set_option linter.unusedVariables false
set_option linter.unusedSimpArgs false
namespace Go.Proofs.Ytgbckamaenapeaa
open Go Go.KK Hf Go.ChangeShapes Go.WideShapes Go.ChangeAt Go.RowKit Go.Deep

theorem Try.own : ownKnob Try.prog.godebug = none := by kernel_rfl
theorem Try.laidOut : laidOutB Try.prog = true := by kernel_rfl

set_option maxRecDepth 100000 in
theorem channelCopies_lifted (os : Os) (started : os.Started) (H : Type) (enc : TypeId × Value → H) :
    ReturnsInHanded {} Try.checked os 9 .any (Rows.channelCopiesSpec.pre6 enc Try.prog Try.f9 Rows.channelCopiesRow.domain false) (Rows.channelCopiesSpec.post enc Try.prog Try.f9 false true false false) := by
  refine returnsInHanded_of_change_sized (C := Try.checked) Try.own started (by kernel_rfl) Try.func9
    (ChangeSpec.witness6 (enc := enc) (C := Try.checked) false ⟨#[], #[.slice none 0 0, .slice none 0 0, .slice none 0 0], []⟩ 8 (by kernel_rfl) (by kernel_rfl) (by kernel_rfl) (by kernel_rfl)) ?_
  intro W base args ds gs before hval0 hW hcnd hsz0 _
  have hval : ∀ (j : Nat) t v, Try.f9.params[j]? = some t → args[j]? = some v → Value.okWide Try.prog W .any base t v := hval0
  have hW' := hW
  obtain ⟨p, q, hA0, hV, rfl, hfz, hnd⟩ := hW
  have hA : DataW.TrodAll enc Try.prog W 0 (fun _ => true) true Try.f9.params.toList args.toList ds p := hA0
  rw [Try.params9] at hA hval
  obtain ⟨v0, v1, v2, d0, d1, d2, p0, p1, p2, rfl, rfl, rfl, h0, h1, h2⟩ := trodAll_three hA
  obtain ⟨rfl, rfl⟩ := trodVars_none hV
  have hsz := hsz0
  rw [Try.params9] at hsz
  have h0k := h0
  have h1k := h1
  have h2k := h2
  obtain ⟨a0, al0, cap0, rfl, hlen0, hcap0, hnil0, hs0, -⟩ := open_gen byE Try.underlying24 (by kernel_rfl) (by decide) (fun fuel cs x hx => trod_u8 Try.underlying5 hx) (okWide_slice Try.underlying24 (hval 0 24 _ rfl rfl)) h0
  have hz0 := reach_len Try.underlying24 h0 (j := 0) hsz rfl rfl
  rw [show Try.prog.bytesOf 5 = 1 from by kernel_rfl] at hz0
  obtain ⟨a1, al1, cap1, xl1, rfl, hlen1, hcap1, hnil1, hs1, hR1, hrl1⟩ := open_recs_row acE Ac.y byE 3 (tr := 24) Try.underlying50 Try.underlying57 (by kernel_rfl) (by kernel_rfl) rfl (by decide) (ks := [0, 0, 0]) (act_hint Try.underlying57) (by decide) (by decide) Try.underlying24 (by kernel_rfl) (by decide) (fun fuel cs x hx => trod_u8 Try.underlying5 hx) (fun g h1 h h2 => act_mk g h1 h h2) (okWide_slice Try.underlying50 (hval 1 50 _ rfl rfl)) h1
  obtain ⟨a2, al2, cap2, xl2, rfl, hlen2, hcap2, hnil2, hs2, hR2, hrl2⟩ := open_recs_row acE Ac.y byE 3 (tr := 24) Try.underlying50 Try.underlying57 (by kernel_rfl) (by kernel_rfl) rfl (by decide) (ks := [0, 0, 0]) (act_hint Try.underlying57) (by decide) (by decide) Try.underlying24 (by kernel_rfl) (by decide) (fun fuel cs x hx => trod_u8 Try.underlying5 hx) (fun g h1 h h2 => act_mk g h1 h h2) (okWide_slice Try.underlying50 (hval 2 50 _ rfl rfl)) h2
  clear hA0 hval0 hsz0
  simp only [List.append_nil] at hW'
  have hlt0 : ∀ x ∈ p0, x.block < W.heap.size := fun x hx => by
    have := hW'.lt x (by simp [hx])
    simpa using this
  have hlt1 : ∀ x ∈ p1, x.block < W.heap.size := fun x hx => by
    have := hW'.lt x (by simp [hx])
    simpa using this
  have hlt2 : ∀ x ∈ p2, x.block < W.heap.size := fun x hx => by
    have := hW'.lt x (by simp [hx])
    simpa using this
  haveI hI0 : Inp byE (hp W) a0 al0 := ⟨hs0⟩
  haveI hI1 : Inp acE (hp W) a1 al1 := ⟨hs1⟩
  haveI hR1' : InpR byE (hp W) (al1.map Ac.y) xl1 := hR1
  haveI hI2 : Inp acE (hp W) a2 al2 := ⟨hs2⟩
  haveI hR2' : InpR byE (hp W) (al2.map Ac.y) xl2 := hR2
  refine ((channelCopies_ok (a := a0) (b := a1) (b2 := a2) (xs := al0) (acs := al1) (acs2 := al2) (yss := xl1) (yss2 := xl2) rfl rfl hlen1 hrl1 rfl hlen2 hrl2 (fun e => by obtain ⟨e1, e2⟩ := hnil0 e; exact ⟨by rw [e1]; rfl, e2⟩) : CallS Try.prog 9 _ [inp (hp W)] _).run (W := W)).mono fun e W' ⟨he, hb⟩ => ?_
  subst he
  exact ⟨_, rfl, _, _, _, [], _, [], hW', trodAll_mk1 (shut_bool Try.underlying4 true), trodAll_mk3 (Below.trod Try.laidOut (by kernel_rfl) (of_decide_eq_true (by kernel_rfl)) h0k hb hlt0) (Below.trod Try.laidOut (by kernel_rfl) (of_decide_eq_true (by kernel_rfl)) h1k hb hlt1) (Below.trod Try.laidOut (by kernel_rfl) (of_decide_eq_true (by kernel_rfl)) h2k hb hlt2), rfl, hb.frame _, fun h => by cases h⟩

theorem channelCopies_holds : Rows.ChannelCopiesSaid :=
  OpenClaim.holds_of_wide 9 Try.f9 rfl rfl rfl rfl rfl rfl rfl ⟨rfl, rfl, rfl, rfl, rfl⟩ rfl rfl rfl rfl rfl (by kernel_rfl) Try.func9 (by kernel_rfl)
    (of_decide_eq_true (by kernel_rfl)) (by unfold Func.isWrapper; first | (rw [if_pos (by decide +kernel)]; kernel_rfl) | (rw [if_neg (by decide +kernel)]; exact ⟨rfl, rfl⟩))
    (fun os started H enc _ => channelCopies_lifted os started H enc)
end Go.Proofs.Ytgbckamaenapeaa
