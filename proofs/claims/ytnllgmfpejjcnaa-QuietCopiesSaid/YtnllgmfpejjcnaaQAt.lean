/-
  A part of the proof of the claim that this folder bears.
  This text: QAt.
-/
import Derived.Test.YtnllgmfpejjcnaaQLaw2
import Derived.Test.YtnllgmfpejjcnaaK17
set_option linter.unusedVariables false
set_option linter.unusedSimpArgs false
namespace Go.Proofs.Ytnllgmfpejjcnaa
open Go Go.KK Qt

theorem ring_in {f : FuncId} {args : Array Value} {r : Nat} {σ : St} {R : List Asn} {Q : Value → List Asn → Prop}
    (h : ∀ a b cap cap2, (b = none → σ.fly.length = 0 ∧ cap2 = 0) → CallS Try.prog f args (blk r (.cells #[.slice a σ.spots.length cap, .slice b σ.fly.length cap2, .int .i64 σ.pos, .int .i64 σ.sum, .bool σ.dark, .bool σ.fresh, .bool σ.told, .int .i64 σ.passes] 45 (0, 0)) :: sl spotE a cap σ.spots :: sl pairE b cap2 σ.fly :: R) Q) :
    CallS Try.prog f args (ringA r σ :: R) Q := fun w hs => by
  unfold ringA at hs
  obtain ⟨a, hs⟩ := Sat.ex hs
  obtain ⟨b, hs⟩ := Sat.ex hs
  obtain ⟨cap, hs⟩ := Sat.ex hs
  obtain ⟨cap2, hs⟩ := Sat.ex hs
  have hs : Sat (hp w) (blk r (.cells (ringCells σ a b cap cap2).toArray 45 (0, 0)) :: sl spotE a cap σ.spots :: sl pairE b cap2 σ.fly :: R) := Sat.star.1 hs
  have hb := SlH.nil (a := b) (E := pairE) hs
  exact h a b cap cap2 (fun e => ⟨by rw [(hb e).1]; rfl, (hb e).2⟩) w hs
theorem ref_in {f : FuncId} {args : Array Value} {r : Nat} {σ : St} {R : List Asn} {Q : Value → List Asn → Prop}
    (h : ∀ a1 a2 a3 a4 c1 c2 c3 c4, CallS Try.prog f args (blk r (.cells #[.int .i64 σ.spots.length, .slice a1 σ.spots.length c1, .slice a2 σ.spots.length c2, .slice a3 σ.spots.length c3, .slice a4 σ.fly.length c4, .int .i64 σ.pos, .int .i64 σ.sum, .bool σ.dark, .bool σ.fresh, .bool σ.told, .int .i64 σ.passes] 64 (0, 0)) ::
      sl boolE a1 c1 (σ.spots.map (·.active)) :: sl boolE a2 c2 (σ.spots.map (·.black)) :: sl intE a3 c3 (σ.spots.map (·.count)) :: sl pairE a4 c4 σ.fly :: R) Q) :
    CallS Try.prog f args (refA r σ :: R) Q := fun w hs => by
  unfold refA at hs
  obtain ⟨a1, hs⟩ := Sat.ex hs
  obtain ⟨a2, hs⟩ := Sat.ex hs
  obtain ⟨a3, hs⟩ := Sat.ex hs
  obtain ⟨a4, hs⟩ := Sat.ex hs
  obtain ⟨c1, hs⟩ := Sat.ex hs
  obtain ⟨c2, hs⟩ := Sat.ex hs
  obtain ⟨c3, hs⟩ := Sat.ex hs
  obtain ⟨c4, hs⟩ := Sat.ex hs
  exact h a1 a2 a3 a4 c1 c2 c3 c4 w (Sat.star.1 hs)

section
variable {L : List Asn} {r : Nat} {σ : St} {N : Nat}
theorem over_at {f : Asn → List Asn} [hh : RingAt L r σ f] (hw : Wf σ N) : CallS Try.prog 15 [.pointer (some ⟨r, 0, none⟩)].toArray L (fun v M => v = .bool (over σ) ∧ M = L) :=
  CallS.atR (fun R => ring_in fun a b cap cap2 hb => (overR hw hb).mono fun v M ⟨e1, e2⟩ => ⟨_, ⟨e1, rfl⟩, fun h hs => ring_shut rfl rfl (by rw [← e2]; exact hs)⟩) hh.out
theorem active_at {f : Asn → List Asn} [hh : RingAt L r σ f] (hw : Wf σ N) : CallS Try.prog 20 [.pointer (some ⟨r, 0, none⟩)].toArray L (fun v M => ∃ a' c', v = .slice a' (actList σ).length c' ∧ M = sl intE a' c' (actList σ) :: L) :=
  (CallS.atN (Q := fun v B => ∃ a' c', v = .slice a' (actList σ).length c' ∧ B = sl intE a' c' (actList σ)) (fun R => ring_in fun a b cap cap2 hb => (activeR hw hb).mono fun v M ⟨a', c', e1, e2⟩ => ⟨_, ⟨_, ⟨a', c', e1, rfl⟩, rfl⟩, fun h hs => by
    rw [e2] at hs; exact hs.cons_imp (fun _ h => h) (fun h hs => ring_shut rfl rfl hs)⟩) hh.out).mono fun v M ⟨B, ⟨a', c', e1, e2⟩, e3⟩ => ⟨M, ⟨a', c', e1, by rw [e3, e2]⟩, fun _ h => h⟩
theorem counts_at {f : Asn → List Asn} [hh : RingAt L r σ f] (hw : Wf σ N) : CallS Try.prog 18 [.pointer (some ⟨r, 0, none⟩)].toArray L (fun v M => ∃ a' c', v = .slice a' (counts σ).length c' ∧ M = sl intE a' c' (counts σ) :: L) :=
  (CallS.atN (Q := fun v B => ∃ a' c', v = .slice a' (counts σ).length c' ∧ B = sl intE a' c' (counts σ)) (fun R => ring_in fun a b cap cap2 hb => (countsR hw hb).mono fun v M ⟨a', c', e1, e2⟩ => ⟨_, ⟨_, ⟨a', c', e1, rfl⟩, rfl⟩, fun h hs => by
    rw [e2] at hs; exact hs.cons_imp (fun _ h => h) (fun h hs => ring_shut rfl rfl hs)⟩) hh.out).mono fun v M ⟨B, ⟨a', c', e1, e2⟩, e3⟩ => ⟨M, ⟨a', c', e1, by rw [e3, e2]⟩, fun _ h => h⟩
theorem flying_at {f : Asn → List Asn} [hh : RingAt L r σ f] (hw : Wf σ N) : CallS Try.prog 19 [.pointer (some ⟨r, 0, none⟩)].toArray L (fun v M => ∃ a' c', v = .slice a' σ.fly.length c' ∧ M = sl pairE a' c' σ.fly :: L) :=
  (CallS.atN (Q := fun v B => ∃ a' c', v = .slice a' σ.fly.length c' ∧ B = sl pairE a' c' σ.fly) (fun R => ring_in fun a b cap cap2 hb => (flyingR hw hb).mono fun v M ⟨a', c', e1, e2⟩ => ⟨_, ⟨_, ⟨a', c', e1, rfl⟩, rfl⟩, fun h hs => by
    rw [e2] at hs; exact hs.cons_imp (fun _ h => h) (fun h hs => ring_shut rfl rfl hs)⟩) hh.out).mono fun v M ⟨B, ⟨a', c', e1, e2⟩, e3⟩ => ⟨M, ⟨a', c', e1, by rw [e3, e2]⟩, fun _ h => h⟩
theorem rflying_at {f : Asn → List Asn} [hh : RefAt L r σ f] (hw : Wf σ N) : CallS Try.prog 14 [.pointer (some ⟨r, 0, none⟩)].toArray L (fun v M => (∃ a' c', v = .slice a' σ.fly.length c') ∧ M = L) :=
  (CallS.at (Q := fun v B => (∃ a' c', v = .slice a' σ.fly.length c') ∧ B = refA r σ) (fun R => ref_in fun a1 a2 a3 a4 c1 c2 c3 c4 => (flyingF hw).mono fun v M ⟨e1, e2⟩ => ⟨_, ⟨_, ⟨⟨a4, c4, e1⟩, rfl⟩, rfl⟩, fun h hs => ref_shut (by rw [← e2]; exact hs) rfl rfl rfl rfl rfl rfl rfl⟩) hh.out).mono
    fun v M ⟨B, ⟨e1, e2⟩, e3⟩ => ⟨M, ⟨e1, by rw [e3, e2, ← Rep.same (hh.out _)]⟩, fun _ h => h⟩
end
end Go.Proofs.Ytnllgmfpejjcnaa
