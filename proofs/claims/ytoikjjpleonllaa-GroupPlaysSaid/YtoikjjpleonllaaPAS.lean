/-
  A part of the proof of the claim that this folder bears.
-/
import Derived.Test.YtoikjjpleonllaaPAQ
import Derived.Test.YtoikjjpleonllaaPAR
import Derived.Test.YtoikjjpleonllaaPAK
/- The text G20. -/
set_option linter.unusedVariables false
set_option linter.unusedSimpArgs false
set_option maxRecDepth 10000
namespace Go.Proofs.Ytoikjjpleonllaa
open Go Go.KK Gr Rg

theorem newR_good {L : List Asn} {va : Option Addr} {n cap : Nat} {k o : ByteArray} {root : Int} {vs : List Int} [SlIn intE L va vs] (hn : n = vs.length) (hg : goodN k o root vs) :
    CallS Try.prog 11 [.string k, .string o, .int .i64 root, .slice va n cap].toArray L (fun v M => ∃ p, v = .tuple #[.pointer (some ⟨p, 0, none⟩), .int .i64 0] ∧ M = RB p (newR k o root vs) :: L) :=
  (newR_ok hn).mono fun v M h => ⟨M, (h.resolve_left fun g => g.1 hg).2, fun _ s => s⟩
theorem newR_bad {L : List Asn} {va : Option Addr} {n cap : Nat} {k o : ByteArray} {root : Int} {vs : List Int} [SlIn intE L va vs] (hn : n = vs.length) (hg : ¬ goodN k o root vs) :
    CallS Try.prog 11 [.string k, .string o, .int .i64 root, .slice va n cap].toArray L (fun v M => v = .tuple #[.pointer none, .int .i64 2] ∧ M = L) :=
  (newR_ok hn).mono fun v M h => ⟨M, (h.resolve_right fun g => hg g.1).2, fun _ s => s⟩
set_option maxHeartbeats 4000000 in
theorem lawPlays_good {L : List Asn} {va la : Option Addr} {vn vc ln lc : Nat} {k o : ByteArray} {root : Int} {vs l : List Int} [SlIn intE L va vs] [SlIn intE L la l] (hn : vn = vs.length) (hl : ln = l.length) (hg : goodN k o root vs) :
    CallS Try.prog 3 [.agg #[.string k, .string o, .int .i64 root, .slice va vn vc], .slice la ln lc].toArray L (fun v M => v = .bool true ∧ M = L) := by
  subst hn
  subst hl
  refine CallS.ent ?_
  refine CallS.enter Try.func3 rfl rfl rfl rfl rfl ?_
  refine J.seq rfl ?_
  refine J.region rfl ?_
  refine JO.eff rfl rfl rfl (Eff.box (cs := [_, _, _, _]) rfl rfl) ?_
  rintro _ _ ⟨b2, rfl, rfl⟩
  refine JO.pur rfl rfl rfl (Pur.assign rfl) ?_
  refine JO.nil ?_
  refine J.seq rfl ?_
  refine J.quiet rfl Try.mixed (by kernel_rfl) ?_
  refine JQ.pur rfl rfl rfl (Pur.fieldAddr rfl) ?_
  refine JQ.pur rfl rfl rfl (Pur.load rfl (CellIn.blk rfl)) ?_
  refine JQ.pur rfl rfl rfl (Pur.fieldAddr rfl) ?_
  refine JQ.pur rfl rfl rfl (Pur.load rfl (CellIn.blk rfl)) ?_
  refine JQ.pur rfl rfl rfl (Pur.fieldAddr rfl) ?_
  refine JQ.pur rfl rfl rfl (Pur.load rfl (CellIn.blk rfl)) ?_
  refine JQ.pur rfl rfl rfl (Pur.fieldAddr rfl) ?_
  refine JQ.pur rfl rfl rfl (Pur.load rfl (CellIn.blk rfl)) ?_
  refine JQ.pur rfl rfl rfl (Pur.assign rfl) ?_
  refine JQ.pur rfl rfl rfl (Pur.assign rfl) ?_
  refine JQ.pur rfl rfl rfl (Pur.assign rfl) ?_
  refine JQ.pur rfl rfl rfl (Pur.assign rfl) ?_
  refine JQ.nil ?_
  refine J.seq rfl ?_
  refine J.region rfl ?_
  refine JO.pur rfl rfl rfl (Pur.move rfl) ?_
  refine JO.pur rfl rfl rfl (Pur.move rfl) ?_
  refine JO.pur rfl rfl rfl (Pur.move rfl) ?_
  refine JO.pur rfl rfl rfl (Pur.move rfl) ?_
  refine JO.eff rfl rfl rfl (Eff.call rfl (newG_good (k := k) (vs := vs) rfl hg)) ?_
  rintro _ _ ⟨p, am, cm, bs, rfl, rfl⟩
  refine JO.pur rfl rfl rfl (Pur.move rfl) ?_
  refine JO.pur rfl rfl rfl (Pur.extract rfl rfl) ?_
  refine JO.pur rfl rfl rfl (Pur.extract rfl rfl) ?_
  refine JO.pur rfl rfl rfl (Pur.assign rfl) ?_
  refine JO.pur rfl rfl rfl (Pur.assign rfl) ?_
  refine JO.nil ?_
  refine J.seq rfl ?_
  refine J.region rfl ?_
  refine JO.pur rfl rfl rfl (Pur.move rfl) ?_
  refine JO.pur rfl rfl rfl (Pur.move rfl) ?_
  refine JO.pur rfl rfl rfl (Pur.move rfl) ?_
  refine JO.pur rfl rfl rfl (Pur.move rfl) ?_
  refine JO.eff rfl rfl rfl (Eff.call rfl (newR_good (k := k) (vs := vs) rfl hg)) ?_
  rintro _ _ ⟨pr, rfl, rfl⟩
  refine JO.pur rfl rfl rfl (Pur.move rfl) ?_
  refine JO.pur rfl rfl rfl (Pur.extract rfl rfl) ?_
  refine JO.pur rfl rfl rfl (Pur.extract rfl rfl) ?_
  refine JO.pur rfl rfl rfl (Pur.assign rfl) ?_
  refine JO.pur rfl rfl rfl (Pur.assign rfl) ?_
  refine JO.nil ?_
  refine J.seq rfl ?_
  refine J.seq rfl ?_
  refine J.region rfl ?_
  refine JO.pur rfl rfl rfl (Pur.move rfl) ?_
  refine JO.pur rfl rfl rfl (Pur.move rfl) ?_
  refine JO.pur rfl rfl rfl (Pur.neqI rfl rfl) ?_
  refine JO.pur rfl rfl rfl (Pur.move rfl) ?_
  refine JO.setv (u' := .bool false) 44 rfl (congrArg Value.bool (decide_eq_false (fun h => h rfl))) ?_
  refine JO.pur rfl rfl rfl (Pur.move rfl) ?_
  refine JO.pur rfl rfl rfl (Pur.eqlI rfl rfl) ?_
  refine JO.pur rfl rfl rfl (Pur.move rfl) ?_
  refine JO.pur rfl rfl rfl (Pur.neqPtrNil rfl) ?_
  refine JO.pur rfl rfl rfl (Pur.neqB rfl rfl) ?_
  refine JO.pur rfl rfl rfl (Pur.pickF rfl rfl) ?_
  refine JO.nil ?_
  refine J.splitB 50 rfl (fun h50 => ?_) (fun h50 => ?_)
  · try simp only [bSimp, bSimp2, ne_eq] at h50
    exact absurd h50 (by decide)
  · try simp only [bSimp, bSimp2, ne_eq] at h50
    refine J.condF rfl rfl ?_
    refine J.skip rfl ?_
    refine J.seq rfl ?_
    refine J.seq rfl ?_
    refine J.region rfl ?_
    refine JO.pur rfl rfl rfl (Pur.move rfl) ?_
    refine JO.pur rfl rfl rfl (Pur.neqI rfl rfl) ?_
    refine JO.nil ?_
    refine J.splitB 52 rfl (fun h52 => ?_) (fun h52 => ?_)
    · try simp only [bSimp, bSimp2, ne_eq] at h52
      exact (h52 trivial).elim
    · try simp only [bSimp, bSimp2, ne_eq] at h52
      refine J.condF rfl rfl ?_
      refine J.skip rfl ?_
      refine J.seq rfl ?_
      refine J.seq rfl ?_
      refine J.imp (M := GB p am cm bs (newG k o root vs) :: RB pr (newR k o root vs) :: blk b2 (.cells #[.string k, .string o, .int .i64 root, .slice va vs.length vc] 24) :: L) (fun h s => SubC.out h s) ?_
      refine J.region rfl ?_
      refine JO.pur rfl rfl rfl (Pur.move rfl) ?_
      refine JO.pur rfl rfl rfl (Pur.move rfl) ?_
      refine JO.pur rfl rfl rfl (Pur.move rfl) ?_
      refine JO.pur rfl rfl rfl (Pur.len rfl) ?_
      refine JO.eff rfl rfl rfl (Eff.call rfl (alike_ok (vs := vs) rfl hg (Both.new hg))) ?_
      rintro _ _ ⟨rfl, rfl⟩
      refine JO.pur rfl rfl rfl (Pur.not rfl) ?_
      refine JO.nil ?_
      refine J.splitB 59 rfl (fun h59 => ?_) (fun h59 => ?_)
      · try simp only [bSimp, bSimp2, ne_eq] at h59
        exact absurd h59 (by decide)
      · try simp only [bSimp, bSimp2, ne_eq] at h59
        refine J.condF rfl rfl ?_
        refine J.skip rfl ?_
        refine J.seq rfl ?_
        refine J.seq rfl ?_
        refine J.cut2 (ι := Gs × Rs) (fun q => Both k o root vs q.1 q.2) (fun q => []) [(8, _), (9, _), (11, _)] (fun q => GB p am cm bs q.1 :: RB pr q.2 :: blk b2 (.cells #[.string k, .string o, .int .i64 root, .slice va vs.length vc] 24) :: L) (.cons rfl rfl (.cons rfl rfl (.cons rfl rfl .nil))) ?_ ?_
        · rintro ⟨g, R⟩ hB
          try dsimp only
          have hB : Both k o root vs g R := hB
          try dsimp only
          obtain ⟨K, hK18, hpos, hend⟩ : ∃ K, K ≤ 18 ∧ (∀ i, i < K → 0 < (drG g i).fly.length) ∧ (drG g K).fly.length = 0 := by obtain ⟨t, b1, b2, b3⟩ := id hB; exact drG_end hg 18 b1 (by omega)
          refine J.seq rfl ?_
          refine J.region rfl ?_
          refine JO.pur rfl rfl rfl (Pur.move rfl) ?_
          refine JO.eff rfl rfl rfl (Eff.call rfl (drainG_ok (K := K) hg hB hpos hend (by omega))) ?_
          rintro _ _ ⟨rfl, rfl⟩
          refine JO.pur rfl rfl rfl (Pur.move rfl) ?_
          refine JO.pur rfl rfl rfl (Pur.extract rfl rfl) ?_
          refine JO.pur rfl rfl rfl (Pur.extract rfl rfl) ?_
          refine JO.pur rfl rfl rfl (Pur.assign rfl) ?_
          refine JO.pur rfl rfl rfl (Pur.assign rfl) ?_
          refine JO.nil ?_
          refine J.seq rfl ?_
          refine J.region rfl ?_
          refine JO.pur rfl rfl rfl (Pur.assign rfl) ?_
          refine JO.nil ?_
          refine J.seq rfl ?_
          refine J.block rfl ?_
          refine J.loopF (ι := Nat) (fun m => m ≤ K) (fun m => [(16, .int .i64 (m : Int))]) [(8, _), (9, _), (11, _), (14, _), (15, _)] (fun m => GB p am cm bs (drG g K) :: RB pr (drR R m) :: blk b2 (.cells #[.string k, .string o, .int .i64 root, .slice va vs.length vc] 24) :: L) (fun m => K - m) 0 rfl (.cons rfl rfl (.cons rfl rfl (.cons rfl rfl (.cons rfl rfl (.cons rfl rfl .nil))))) (.cons rfl rfl .nil) (by first | exact fun _ h => h | exact SubC.out | (dsimp only; exact SubC.out)) (Nat.zero_le _) ?_
          rintro m hm ihm
          try dsimp only
          have hBm := Both.dr hB hpos m hm
          obtain ⟨k1, k2, k3, k4, k5, k6, k7, k8, k9, k10, k11, k12, k13, k14⟩ := Both.use hg hBm
          have hmk : 0 < (drR R m).fly.length ↔ m < K := by rw [k7]; exact ⟨fun e => Classical.byContradiction fun n => by obtain rfl : m = K := (by omega); omega, fun e => hpos m e⟩
          refine J.seq rfl ?_
          refine J.seq rfl ?_
          refine J.region rfl ?_
          refine JO.pur rfl rfl rfl (Pur.move rfl) ?_
          refine JO.eff rfl rfl rfl (Eff.call rfl (rflying_at (p := pr) (R := drR R m) k6 (by omega))) ?_
          rintro _ _ ⟨a97, c97, rfl, rfl⟩
          refine JO.pur rfl rfl rfl (Pur.len rfl) ?_
          refine JO.pur rfl rfl rfl (Pur.gtr rfl rfl) ?_
          refine JO.nil ?_
          refine J.splitB 99 rfl (fun h99 => ?_) (fun h99 => ?_)
          · try simp only [bSimp, bSimp2, ne_eq] at h99
            refine J.condT rfl rfl ?_
            refine J.skip rfl ?_
            refine J.block rfl ?_
            refine J.seq rfl ?_
            refine J.region rfl ?_
            refine JO.pur rfl rfl rfl (Pur.move rfl) ?_
            refine JO.eff rfl rfl rfl (Eff.call rfl (rdeliver0_at (p := pr) (R := drR R m) k6 (by omega) k9 k11 k8 (by omega) (fun q => by have := k10 q; omega))) ?_
            rintro _ _ ⟨rfl, rfl⟩
            refine JO.nil ?_
            refine J.region rfl ?_
            refine JO.pur rfl rfl rfl (Pur.move rfl) ?_
            refine JO.pur rfl rfl rfl (Pur.add rfl rfl (wr64 (by omega))) ?_
            refine JO.pur rfl rfl rfl (Pur.assign rfl) ?_
            refine JO.nil ?_
            refine J.inBlock ?_
            exact J.weaken (.cons rfl (congrArg (Value.int .i64) (by first | rfl | (dsimp only; omega))) (.cons rfl rfl (.cons rfl rfl (.cons rfl rfl (.cons rfl rfl (.cons rfl rfl .nil)))))) (fun h s => by rw [drR]; exact SubC.out h s) (ihm (m + 1) (by omega) (by omega))
          · try simp only [bSimp, bSimp2, ne_eq] at h99
            obtain rfl : m = K := by omega
            refine J.condF rfl rfl ?_
            refine J.exit rfl rfl ?_
            refine J.seq rfl ?_
            refine J.region rfl ?_
            refine JO.pur rfl rfl rfl (Pur.move rfl) ?_
            refine JO.pur rfl rfl rfl (Pur.move rfl) ?_
            refine JO.pur rfl rfl rfl (Pur.eqlI rfl rfl) ?_
            refine JO.pur rfl rfl rfl (Pur.move rfl) ?_
            refine JO.setv (u' := .bool true) 107 rfl (congrArg Value.bool (decide_eq_true rfl)) ?_
            refine JO.pur rfl rfl rfl (Pur.move rfl) ?_
            refine JO.pur rfl rfl rfl (Pur.eqlI rfl rfl) ?_
            refine JO.pur rfl rfl rfl (Pur.pickT rfl rfl) ?_
            refine JO.pur rfl rfl rfl (Pur.move rfl) ?_
            refine JO.setv (u' := .bool true) 111 rfl (congrArg Value.bool (decide_eq_true rfl)) ?_
            refine JO.pur rfl rfl rfl (Pur.move rfl) ?_
            refine JO.pur rfl rfl rfl (Pur.move rfl) ?_
            refine JO.pur rfl rfl rfl (Pur.move rfl) ?_
            refine JO.pur rfl rfl rfl (Pur.len rfl) ?_
            refine JO.imp (M := GB p am cm bs (drG g m) :: RB pr (drR R m) :: blk b2 (.cells #[.string k, .string o, .int .i64 root, .slice va vs.length vc] 24) :: L) (fun h s => SubC.out h s) ?_
            refine JO.eff rfl rfl rfl (Eff.call rfl (alike_ok (vs := vs) rfl hg hBm)) ?_
            rintro _ _ ⟨rfl, rfl⟩
            refine JO.pur rfl rfl rfl (Pur.pickT rfl rfl) ?_
            refine JO.pur rfl rfl rfl (Pur.move rfl) ?_
            refine JO.setv (u' := .bool true) 118 rfl (congrArg Value.bool (rfl)) ?_
            refine JO.effR rfl rfl rfl (Eff.call rfl (awake_ok)) ?_
            refine JO.pur rfl rfl rfl (Pur.pickT rfl rfl) ?_
            refine JO.pur rfl rfl rfl (Pur.assign rfl) ?_
            refine JO.nil ?_
            refine J.ret rfl rfl ?_
            refine ⟨_, _, ⟨rfl, rfl⟩, rfl, SubC.out⟩
        · intro cuta10
          refine J.region rfl ?_
          refine JO.pur rfl rfl rfl (Pur.assign rfl) ?_
          refine JO.nil ?_
          refine J.block rfl ?_
          refine J.loopF (ι := Nat × Gs × Rs) (fun q => q.1 ≤ 40 ∧ Both k o root vs q.2.1 q.2.2) (fun q => [(13, .int .i64 (q.1 : Int))]) [(1, _), (8, _), (9, _), (11, _)] (fun q => GB p am cm bs q.2.1 :: RB pr q.2.2 :: blk b2 (.cells #[.string k, .string o, .int .i64 root, .slice va vs.length vc] 24) :: L) (fun q => 40 - q.1) (0, newG k o root vs, newR k o root vs) rfl (.cons rfl rfl (.cons rfl rfl (.cons rfl rfl (.cons rfl rfl .nil)))) (.cons rfl rfl .nil) (by first | exact fun _ h => h | exact SubC.out | (dsimp only; exact SubC.out)) ⟨Nat.zero_le _, Both.new hg⟩ ?_
          rintro ⟨i, g, R⟩ ⟨hi, hB⟩ ihi
          try dsimp only
          have hi : i ≤ 40 := hi
          have hB : Both k o root vs g R := hB
          obtain ⟨k1, k2, k3, k4, k5, k6, k7, k8, k9, k10, k11, k12, k13, k14⟩ := Both.use hg hB
          refine J.seq rfl ?_
          refine J.seq rfl ?_
          refine J.region rfl ?_
          refine JO.pur rfl rfl rfl (Pur.move rfl) ?_
          refine JO.pur rfl rfl rfl (Pur.move rfl) ?_
          refine JO.pur rfl rfl rfl (Pur.len rfl) ?_
          refine JO.pur rfl rfl rfl (Pur.lss rfl rfl) ?_
          refine JO.pur rfl rfl rfl (Pur.move rfl) ?_
          refine JO.splitB 64 rfl (fun h64 => ?_) (fun h64 => ?_)
          · try simp only [bSimp, bSimp2, ne_eq] at h64
            refine JO.pur rfl rfl rfl (Pur.move rfl) ?_
            refine JO.pur rfl rfl rfl (Pur.lss rfl rfl) ?_
            refine JO.pur rfl rfl rfl (Pur.pickT rfl rfl) ?_
            refine JO.nil ?_
            refine J.splitB 67 rfl (fun h67 => ?_) (fun h67 => ?_)
            · try simp only [bSimp, bSimp2, ne_eq] at h67
              obtain ⟨x, hX⟩ : ∃ x, l[i]? = some x := ⟨_, List.getElem?_eq_getElem (by omega)⟩
              have hB1 := hB.step x
              refine J.condT rfl rfl ?_
              refine J.skip rfl ?_
              refine J.seq rfl ?_
              refine J.block rfl ?_
              refine J.seq rfl ?_
              refine J.mask2 (n := 21) [] rfl Try.mixed rfl (by kernel_rfl) ?_
              refine JM.take 0 (fun _ h => h.tail.tail) rfl (by kernel_rfl) rfl rfl rfl (m' := 1) rfl (Pur.move rfl) ?_
              refine JM.take 1 (fun _ h => h.tail.tail) rfl (by kernel_rfl) rfl rfl rfl (m' := 3) rfl (Pur.move rfl) ?_
              refine JM.take 2 (fun _ h => h.tail.tail) rfl (by kernel_rfl) rfl rfl rfl (m' := 7) rfl (Pur.move rfl) ?_
              refine JM.take 3 (fun _ h => h.tail.tail) rfl (by kernel_rfl) rfl rfl rfl (m' := 15) rfl (Pur.idx rfl rfl rfl (by first | rfl | (simp; done) | omega) rfl (by omega)) ?_
              refine JM.take 4 (fun _ h => h.tail.tail) rfl (by kernel_rfl) rfl rfl rfl (m' := 31) rfl (Pur.load rfl (CellIn.el0 rfl hX rfl)) ?_
              refine JM.setv (u' := .int .i64 x) 74 rfl rfl ?_
              refine JM.take 6 (fun _ h => h.tail.tail) rfl (by kernel_rfl) rfl rfl rfl (m' := 95) rfl (Pur.move rfl) ?_
              refine JM.take 7 (fun _ h => h.tail.tail) rfl (by kernel_rfl) rfl rfl rfl (m' := 223) rfl (Pur.move rfl) ?_
              refine JM.take 8 (fun _ h => h.tail.tail) rfl (by kernel_rfl) rfl rfl rfl (m' := 479) rfl (Pur.move rfl) ?_
              refine JM.take 9 (fun _ h => h.tail.tail) rfl (by kernel_rfl) rfl rfl rfl (m' := 991) rfl (Pur.idx rfl rfl rfl (by first | rfl | (simp; done) | omega) rfl (by omega)) ?_
              refine JM.take 10 (fun _ h => h.tail.tail) rfl (by kernel_rfl) rfl rfl rfl (m' := 2015) rfl (Pur.load rfl (CellIn.el0 rfl hX rfl)) ?_
              refine JM.setv (u' := .int .i64 x) 80 rfl rfl ?_
              refine JM.one (i := 5) (by kernel_rfl) ?_
              refine JMi.eff rfl rfl rfl rfl (m' := 2047) rfl (Eff.call rfl (deliver_at (p := p) (am := am) (cm := cm) (bs := bs) (g := g) x k1 k5 k4 (by omega))) ?_
              rintro _ _ ⟨rfl, rfl⟩
              refine ⟨.inr (fun _ h => h.tail.tail), ?_⟩
              refine JM.one (i := 11) (by kernel_rfl) ?_
              refine JMi.eff rfl rfl rfl rfl (m' := 4095) rfl (Eff.call rfl (rdeliver_at (p := pr) (R := R) x k6 k9 k11 k8 (by omega) (fun q => by have := k10 q; omega))) ?_
              rintro _ _ ⟨rfl, rfl⟩
              refine ⟨.inr (fun _ h => h.tail.tail), ?_⟩
              rw [k7]
              refine JM.take 12 (fun _ h => h.tail.tail) rfl (by kernel_rfl) rfl rfl rfl (m' := 8191) rfl (Pur.neqI rfl rfl) ?_
              refine JM.take 13 (fun _ h => h.tail.tail) rfl (by kernel_rfl) rfl rfl rfl (m' := 16383) rfl (Pur.move rfl) ?_
              refine JM.splitB 83 rfl (fun h83 => ?_) (fun h83 => ?_)
              · try simp only [bSimp, bSimp2, ne_eq] at h83
                exact (h83 trivial).elim
              · try simp only [bSimp, bSimp2, ne_eq] at h83
                refine JM.take 14 (fun _ h => h.tail.tail) rfl (by kernel_rfl) rfl rfl rfl (m' := 32767) rfl (Pur.move rfl) ?_
                refine JM.take 15 (fun _ h => h.tail.tail) rfl (by kernel_rfl) rfl rfl rfl (m' := 65535) rfl (Pur.move rfl) ?_
                refine JM.take 16 (fun _ h => h.tail.tail) rfl (by kernel_rfl) rfl rfl rfl (m' := 131071) rfl (Pur.move rfl) ?_
                refine JM.take 17 (fun _ h => h.tail.tail) rfl (by kernel_rfl) rfl rfl rfl (m' := 262143) rfl (Pur.len rfl) ?_
                refine JM.one (i := 18) (by kernel_rfl) ?_
                refine JMi.eff rfl rfl rfl rfl (m' := 524287) rfl (Eff.call rfl (alike_ok (vs := vs) rfl hg hB1)) ?_
                rintro _ _ ⟨rfl, rfl⟩
                refine ⟨.inr (fun _ h => h.tail.tail), ?_⟩
                refine JM.take 19 (fun _ h => h.tail.tail) rfl (by kernel_rfl) rfl rfl rfl (m' := 1048575) rfl (Pur.not rfl) ?_
                refine JM.take 20 (fun _ h => h.tail.tail) rfl (by kernel_rfl) rfl rfl rfl (m' := 2097151) rfl (Pur.pickF rfl rfl) ?_
                refine JM.done rfl ?_
                refine J.splitB 90 rfl (fun h90 => ?_) (fun h90 => ?_)
                · try simp only [bSimp, bSimp2, ne_eq] at h90
                  exact absurd h90 (by decide)
                · try simp only [bSimp, bSimp2, ne_eq] at h90
                  refine J.condF rfl rfl ?_
                  refine J.skip rfl ?_
                  refine J.inBlock ?_
                  refine J.region rfl ?_
                  refine JO.pur rfl rfl rfl (Pur.move rfl) ?_
                  refine JO.pur rfl rfl rfl (Pur.add rfl rfl (wr64 (by omega))) ?_
                  refine JO.pur rfl rfl rfl (Pur.assign rfl) ?_
                  refine JO.nil ?_
                  exact J.weaken (.cons rfl (congrArg (Value.int .i64) (by first | rfl | (dsimp only; omega))) (.cons rfl rfl (.cons rfl rfl (.cons rfl rfl (.cons rfl rfl .nil))))) (fun h s => by dsimp only; exact SubC.out h s) (ihi (i + 1, stpG g x, stpR R x) ⟨by dsimp only; omega, hB1⟩ (by dsimp only; omega))
            · try simp only [bSimp, bSimp2, ne_eq] at h67
              refine J.condF rfl rfl ?_
              refine J.exit rfl rfl ?_
              exact J.weaken (.cons rfl rfl (.cons rfl rfl (.cons rfl rfl .nil))) (fun h s => by dsimp only; exact SubC.out h s) (cuta10 (g, R) hB)
          · try simp only [bSimp, bSimp2, ne_eq] at h64
            refine JO.no rfl rfl rfl ?_
            refine JO.no rfl rfl rfl ?_
            refine JO.pur rfl rfl rfl (Pur.pickF rfl rfl) ?_
            refine JO.nil ?_
            refine J.condF rfl rfl ?_
            refine J.exit rfl rfl ?_
            exact J.weaken (.cons rfl rfl (.cons rfl rfl (.cons rfl rfl .nil))) (fun h s => by dsimp only; exact SubC.out h s) (cuta10 (g, R) hB)

set_option maxHeartbeats 4000000 in
theorem lawPlays_bad {L : List Asn} {va la : Option Addr} {vn vc ln lc : Nat} {k o : ByteArray} {root : Int} {vs l : List Int} [SlIn intE L va vs] [SlIn intE L la l] (hn : vn = vs.length) (hl : ln = l.length) (hg : ¬ goodN k o root vs) :
    CallS Try.prog 3 [.agg #[.string k, .string o, .int .i64 root, .slice va vn vc], .slice la ln lc].toArray L (fun v M => v = .bool true ∧ M = L) := by
  subst hn
  subst hl
  refine CallS.ent ?_
  refine CallS.enter Try.func3 rfl rfl rfl rfl rfl ?_
  refine J.seq rfl ?_
  refine J.region rfl ?_
  refine JO.eff rfl rfl rfl (Eff.box (cs := [_, _, _, _]) rfl rfl) ?_
  rintro _ _ ⟨b2, rfl, rfl⟩
  refine JO.pur rfl rfl rfl (Pur.assign rfl) ?_
  refine JO.nil ?_
  refine J.seq rfl ?_
  refine J.quiet rfl Try.mixed (by kernel_rfl) ?_
  refine JQ.pur rfl rfl rfl (Pur.fieldAddr rfl) ?_
  refine JQ.pur rfl rfl rfl (Pur.load rfl (CellIn.blk rfl)) ?_
  refine JQ.pur rfl rfl rfl (Pur.fieldAddr rfl) ?_
  refine JQ.pur rfl rfl rfl (Pur.load rfl (CellIn.blk rfl)) ?_
  refine JQ.pur rfl rfl rfl (Pur.fieldAddr rfl) ?_
  refine JQ.pur rfl rfl rfl (Pur.load rfl (CellIn.blk rfl)) ?_
  refine JQ.pur rfl rfl rfl (Pur.fieldAddr rfl) ?_
  refine JQ.pur rfl rfl rfl (Pur.load rfl (CellIn.blk rfl)) ?_
  refine JQ.pur rfl rfl rfl (Pur.assign rfl) ?_
  refine JQ.pur rfl rfl rfl (Pur.assign rfl) ?_
  refine JQ.pur rfl rfl rfl (Pur.assign rfl) ?_
  refine JQ.pur rfl rfl rfl (Pur.assign rfl) ?_
  refine JQ.nil ?_
  refine J.seq rfl ?_
  refine J.region rfl ?_
  refine JO.pur rfl rfl rfl (Pur.move rfl) ?_
  refine JO.pur rfl rfl rfl (Pur.move rfl) ?_
  refine JO.pur rfl rfl rfl (Pur.move rfl) ?_
  refine JO.pur rfl rfl rfl (Pur.move rfl) ?_
  refine JO.eff rfl rfl rfl (Eff.call rfl (newG_bad (k := k) (vs := vs) rfl hg)) ?_
  rintro _ _ ⟨rfl, rfl⟩
  refine JO.pur rfl rfl rfl (Pur.move rfl) ?_
  refine JO.pur rfl rfl rfl (Pur.extract rfl rfl) ?_
  refine JO.pur rfl rfl rfl (Pur.extract rfl rfl) ?_
  refine JO.pur rfl rfl rfl (Pur.assign rfl) ?_
  refine JO.pur rfl rfl rfl (Pur.assign rfl) ?_
  refine JO.nil ?_
  refine J.seq rfl ?_
  refine J.region rfl ?_
  refine JO.pur rfl rfl rfl (Pur.move rfl) ?_
  refine JO.pur rfl rfl rfl (Pur.move rfl) ?_
  refine JO.pur rfl rfl rfl (Pur.move rfl) ?_
  refine JO.pur rfl rfl rfl (Pur.move rfl) ?_
  refine JO.eff rfl rfl rfl (Eff.call rfl (newR_bad (k := k) (vs := vs) rfl hg)) ?_
  rintro _ _ ⟨rfl, rfl⟩
  refine JO.pur rfl rfl rfl (Pur.move rfl) ?_
  refine JO.pur rfl rfl rfl (Pur.extract rfl rfl) ?_
  refine JO.pur rfl rfl rfl (Pur.extract rfl rfl) ?_
  refine JO.pur rfl rfl rfl (Pur.assign rfl) ?_
  refine JO.pur rfl rfl rfl (Pur.assign rfl) ?_
  refine JO.nil ?_
  refine J.seq rfl ?_
  refine J.seq rfl ?_
  refine J.region rfl ?_
  refine JO.pur rfl rfl rfl (Pur.move rfl) ?_
  refine JO.pur rfl rfl rfl (Pur.move rfl) ?_
  refine JO.pur rfl rfl rfl (Pur.neqI rfl rfl) ?_
  refine JO.pur rfl rfl rfl (Pur.move rfl) ?_
  refine JO.setv (u' := .bool false) 44 rfl (congrArg Value.bool (decide_eq_false (fun h => h rfl))) ?_
  refine JO.pur rfl rfl rfl (Pur.move rfl) ?_
  refine JO.pur rfl rfl rfl (Pur.eqlI rfl rfl) ?_
  refine JO.pur rfl rfl rfl (Pur.move rfl) ?_
  refine JO.pur rfl rfl rfl (Pur.neqPtrNil rfl) ?_
  refine JO.pur rfl rfl rfl (Pur.neqB rfl rfl) ?_
  refine JO.pur rfl rfl rfl (Pur.pickF rfl rfl) ?_
  refine JO.nil ?_
  refine J.splitB 50 rfl (fun h50 => ?_) (fun h50 => ?_)
  · try simp only [bSimp, bSimp2, ne_eq] at h50
    exact absurd h50 (by decide)
  · try simp only [bSimp, bSimp2, ne_eq] at h50
    refine J.condF rfl rfl ?_
    refine J.skip rfl ?_
    refine J.seq rfl ?_
    refine J.seq rfl ?_
    refine J.region rfl ?_
    refine JO.pur rfl rfl rfl (Pur.move rfl) ?_
    refine JO.pur rfl rfl rfl (Pur.neqI rfl rfl) ?_
    refine JO.nil ?_
    refine J.splitB 52 rfl (fun h52 => ?_) (fun h52 => ?_)
    · try simp only [bSimp, bSimp2, ne_eq] at h52
      refine J.condT rfl rfl ?_
      refine J.seq rfl ?_
      refine J.region rfl ?_
      refine JO.effR rfl rfl rfl (Eff.call rfl (awake_ok)) ?_
      refine JO.pur rfl rfl rfl (Pur.assign rfl) ?_
      refine JO.nil ?_
      refine J.ret rfl rfl ?_
      refine ⟨_, _, ⟨rfl, rfl⟩, rfl, SubC.out⟩
    · try simp only [bSimp, bSimp2, ne_eq] at h52
      exact absurd h52 (by decide)

theorem lawPlays {L : List Asn} {va la : Option Addr} {vn vc ln lc : Nat} {k o : ByteArray} {root : Int} {vs l : List Int} [SlIn intE L va vs] [SlIn intE L la l] (hn : vn = vs.length) (hl : ln = l.length) :
    CallS Try.prog 3 [.agg #[.string k, .string o, .int .i64 root, .slice va vn vc], .slice la ln lc].toArray L (fun v M => v = .bool true ∧ M = L) :=
  (Classical.em (goodN k o root vs)).elim (fun g => lawPlays_good hn hl g) (fun g => lawPlays_bad hn hl g)
end Go.Proofs.Ytoikjjpleonllaa
