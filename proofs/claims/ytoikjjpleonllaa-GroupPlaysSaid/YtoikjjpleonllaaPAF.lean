/-
  A part of the proof of the claim that this folder bears.
-/
import Derived.Test.YtoikjjpleonllaaPAE
/- The text G10. -/
set_option linter.unusedVariables false
set_option linter.unusedSimpArgs false
set_option maxRecDepth 10000
namespace Go.Proofs.Ytoikjjpleonllaa
open Go Go.KK Gr

theorem GB_set {p : Nat} {am : Option Addr} {cm : Nat} {bs : List Nat} {g : Gs} {L : List Asn} {h : Hp} {i : Nat} {m' : Mm} {af : Option Addr} {cf : Nat} (hi : i < g.ms.length) (hg : m'.got = (mem g i).got) (hb : bs.length = g.ms.length)
    (s : Sat h (blk p (gC g.kind g.op g.root am g.ms.length cm af g.fly.length cf g.sent) :: sl memE am cm ((g.ms.set i m').zip bs) :: sl msgE af cf g.fly :: star (List.zipWith mpA bs g.ms) :: L)) : Sat h (GB p am cm bs (setM g i m') :: L) := by
  rw [← mp_same (bs := bs) (mem_get hi) hg] at s
  have e9 : g.ms.length = (g.ms.set i m').length := by simp
  have s4 : Sat h (blk p (gC g.kind g.op g.root am (g.ms.set i m').length cm af g.fly.length cf g.sent) :: sl memE am cm ((g.ms.set i m').zip bs) :: sl msgE af cf g.fly :: star (List.zipWith mpA bs (g.ms.set i m')) :: L) := by rw [← e9]; exact s
  exact GB_mk (g := setM g i m') (by rw [set_len]; exact hb) s4
theorem natI_get {l : List Nat} {k c : Nat} (h : l[k]? = some c) : (natI l)[k]? = some (c : Int) := by unfold natI; rw [List.getElem?_map, h]; rfl
theorem natI_len (l : List Nat) : (natI l).length = l.length := by unfold natI; simp
theorem accG_snoc (g : Gs) (p : Nat) (cs : List Nat) (c : Nat) : accG g p (cs ++ [c]) = opV g.op (accG g p cs) (getV (mem g p).got c) := by unfold accG; rw [List.foldl_append]; rfl
theorem castG_ok {L : List Asn} {p : Nat} {am : Option Addr} {cm : Nat} {bs : List Nat} {g : Gs} {i : Nat} (hw : wf g) (hr0 : 0 ≤ g.root) (hr1 : g.root < (g.ms.length : Int)) (hi : i < g.ms.length) {z : Int} (hf : g.fly.length ≤ 100000) :
    CallS Try.prog 58 [.pointer (some ⟨p, 0, none⟩), .int .i64 (i : Int), .int .i64 z].toArray (GB p am cm bs g :: L) (fun v M => v = .tuple #[] ∧ M = GB p am cm bs (castG g i z) :: L) := by
  have hn8 := hw.2.1
  have hn1 := hw.1
  have hrn : rt g < g.ms.length := by unfold rt; omega
  refine CallS.ent ?_
  refine CallS.enter Try.func58 rfl rfl rfl rfl rfl ?_
  refine GB_open fun af cf hb => ?_
  obtain ⟨b, hbi⟩ : ∃ b, bs[i]? = some b := ⟨_, List.getElem?_eq_getElem (by omega)⟩
  have hzm := zip_get (mem_get hi) hbi
  refine J.seq rfl ?_
  have hzr : ((g.ms.set i { mem g i with res := z }).zip bs)[i]? = some ({ mem g i with res := z }, b) := zip_get (by rw [List.getElem?_set]; simp [hi]) hbi
  refine J.mask0 (n := 17) [13, 16] rfl Try.mixed rfl (by kernel_rfl) ?_
  refine JM.take 0 (fun _ h => h) rfl (by kernel_rfl) rfl rfl rfl (m' := 1) rfl (Pur.move rfl) ?_
  refine JM.take 1 (fun _ h => h) rfl (by kernel_rfl) rfl rfl rfl (m' := 3) rfl (Pur.nilCheck rfl) ?_
  refine JM.take 2 (fun _ h => h) rfl (by kernel_rfl) rfl rfl rfl (m' := 7) rfl (Pur.fieldAddr rfl) ?_
  refine JM.take 3 (fun _ h => h) rfl (by kernel_rfl) rfl rfl rfl (m' := 15) rfl (Pur.load rfl (CellIn.blk rfl)) ?_
  refine JM.take 4 (fun _ h => h) rfl (by kernel_rfl) rfl rfl rfl (m' := 31) rfl (Pur.move rfl) ?_
  refine JM.take 5 (fun _ h => h) rfl (by kernel_rfl) rfl rfl rfl (m' := 63) rfl (Pur.move rfl) ?_
  refine JM.take 6 (fun _ h => h) rfl (by kernel_rfl) rfl rfl rfl (m' := 127) rfl (Pur.nilCheck rfl) ?_
  refine JM.take 7 (fun _ h => h) rfl (by kernel_rfl) rfl rfl rfl (m' := 255) rfl (Pur.fieldAddr rfl) ?_
  refine JM.take 8 (fun _ h => h) rfl (by kernel_rfl) rfl rfl rfl (m' := 511) rfl (Pur.load rfl (CellIn.blk rfl)) ?_
  refine JM.takeF 9 (.inr (fun _ h => h)) rfl (by kernel_rfl) rfl rfl rfl (m' := 1023) rfl (Pur.move rfl) ?_
  refine JM.take 10 (fun _ h => h) rfl (by kernel_rfl) rfl rfl rfl (m' := 2047) rfl (Pur.move rfl) ?_
  refine JM.take 11 (fun _ h => h) rfl (by kernel_rfl) rfl rfl rfl (m' := 4095) rfl (Pur.idx rfl rfl rfl (by first | rfl | (simp; done) | omega | (rw [List.length_zip]; omega) | (rw [List.length_zip, List.length_set]; omega) | (rw [natI_len]; omega)) rfl (by first | (rw [List.length_zip]; omega) | (rw [List.length_zip, List.length_set]; omega))) ?_
  refine JM.take 12 (fun _ h => h) rfl (by kernel_rfl) rfl rfl rfl (m' := 8191) rfl (Pur.fieldAddr rfl) ?_
  refine JM.one (i := 13) (by kernel_rfl) ?_
  refine JMi.effN rfl rfl rfl (m' := 16383) rfl (Eff.storeS (z' := ({ mem g i with res := z }, b)) rfl rfl rfl rfl hzm (.tail (.tail (.tail (.tail .head))))) ?_
  rintro _ _ ⟨rfl, rfl⟩
  refine ⟨.inl (by simp), ?_⟩
  rw [zip_set hbi]
  try rw [List.set_set]
  refine JM.one (i := 14) (by kernel_rfl) ?_
  refine JMi.eff rfl rfl rfl rfl (m' := 32767) rfl (Pur.eff (Pur.idx rfl rfl rfl (by first | rfl | (simp; done) | omega | (rw [List.length_zip]; omega) | (rw [List.length_zip, List.length_set]; omega) | (rw [natI_len]; omega)) rfl (by first | (rw [List.length_zip]; omega) | (rw [List.length_zip, List.length_set]; omega)))) ?_
  rintro _ _ ⟨rfl, rfl⟩
  refine ⟨.inl (.inr (by kernel_rfl)), ?_⟩
  refine JM.takeF 15 (.inl (by kernel_rfl)) rfl (by kernel_rfl) rfl rfl rfl (m' := 65535) rfl (Pur.fieldAddr rfl) ?_
  refine JM.one (i := 16) (by kernel_rfl) ?_
  refine JMi.effN rfl rfl rfl (m' := 131071) rfl (Eff.storeS (z' := ({ mem g i with res := z, has := true }, b)) rfl rfl rfl rfl hzr (.tail (.tail (.tail .head)))) ?_
  rintro _ _ ⟨rfl, rfl⟩
  refine ⟨.inl (by simp), ?_⟩
  rw [zip_set hbi]
  try rw [List.set_set]
  refine JM.done rfl ?_
  refine J.seq rfl ?_
  refine J.mask0 (n := 13) [10] rfl Try.mixed rfl (by kernel_rfl) ?_
  refine JM.takeF 0 (.inr (fun _ h => h)) rfl (by kernel_rfl) rfl rfl rfl (m' := 1) rfl (Pur.move rfl) ?_
  refine JM.take 1 (fun _ h => h) rfl (by kernel_rfl) rfl rfl rfl (m' := 3) rfl (Pur.nilCheck rfl) ?_
  refine JM.take 2 (fun _ h => h) rfl (by kernel_rfl) rfl rfl rfl (m' := 7) rfl (Pur.fieldAddr rfl) ?_
  refine JM.take 3 (fun _ h => h) rfl (by kernel_rfl) rfl rfl rfl (m' := 15) rfl (Pur.load rfl (CellIn.blk rfl)) ?_
  refine JM.take 4 (fun _ h => h) rfl (by kernel_rfl) rfl rfl rfl (m' := 31) rfl (Pur.len rfl) ?_
  refine JM.take 5 (fun _ h => h) rfl (by kernel_rfl) rfl rfl rfl (m' := 63) rfl (Pur.move rfl) ?_
  refine JM.take 6 (fun _ h => h) rfl (by kernel_rfl) rfl rfl rfl (m' := 127) rfl (Pur.nilCheck rfl) ?_
  refine JM.take 7 (fun _ h => h) rfl (by kernel_rfl) rfl rfl rfl (m' := 255) rfl (Pur.fieldAddr rfl) ?_
  refine JM.take 8 (fun _ h => h) rfl (by kernel_rfl) rfl rfl rfl (m' := 511) rfl (Pur.load rfl (CellIn.blk rfl)) ?_
  refine JM.setv (u' := .int .i64 ((rt g : Nat) : Int)) 31 rfl (congrArg (Value.int .i64) (by unfold rt; exact (Int.toNat_of_nonneg hr0).symm)) ?_
  refine JM.take 9 (fun _ h => h) rfl (by kernel_rfl) rfl rfl rfl (m' := 1023) rfl (Pur.move rfl) ?_
  refine JM.takeF 12 (.inr (fun _ h => h)) rfl (by kernel_rfl) rfl rfl rfl (m' := 5119) rfl (Pur.move rfl) ?_
  refine JM.one (i := 10) (by kernel_rfl) ?_
  refine JMi.eff rfl rfl rfl rfl (m' := 6143) rfl (Eff.call rfl (children_ok (n := g.ms.length) (root := rt g) (p := i) (by omega) (by omega) (by omega))) ?_
  rintro _ _ ⟨a33, c33, rfl, rfl⟩
  refine ⟨.inl (by simp), ?_⟩
  refine JM.takeF 11 (.inl (by kernel_rfl)) rfl (by kernel_rfl) rfl rfl rfl (m' := 8191) rfl (Pur.len rfl) ?_
  refine JM.done rfl ?_
  refine J.block rfl ?_
  refine J.loopF (ι := Nat) (fun q => q ≤ (chP g.ms.length (rt g) i).length) (fun q => [(35, .int .i64 (q : Int))]) [(0, _), (1, _), (2, _), (33, _), (34, _)] (fun q => GB p am cm bs (pk (setM g i { mem g i with res := z, has := true })  i z ((chP g.ms.length (rt g) i).take q)) :: sl intE a33 c33 (natI (chP g.ms.length (rt g) i)) :: L) (fun q => (chP g.ms.length (rt g) i).length - q) 0 rfl (.cons rfl rfl (.cons rfl rfl (.cons rfl rfl (.cons rfl rfl (.cons rfl rfl .nil))))) (.cons rfl rfl .nil) (fun h s => GB_set (m' := { mem g i with res := z, has := true }) (af := af) (cf := cf) hi rfl hb (SubC.out (M := blk p (gC g.kind g.op g.root am g.ms.length cm af g.fly.length cf g.sent) :: sl memE am cm ((g.ms.set i { mem g i with res := z, has := true }).zip bs) :: sl msgE af cf g.fly :: star (List.zipWith mpA bs g.ms) :: sl intE a33 c33 (natI (chP g.ms.length (rt g) i)) :: L) h s)) (Nat.zero_le _) ?_
  rintro q hq ihq
  try dsimp only
  refine J.seq rfl ?_
  refine J.region rfl ?_
  refine JO.pur rfl rfl rfl (Pur.lss rfl rfl) ?_
  refine JO.nil ?_
  refine J.seq rfl ?_
  refine J.splitB 36 rfl (fun h36 => ?_) (fun h36 => ?_)
  · try simp only [bSimp, bSimp2, ne_eq] at h36
    have hc3 := chP_len g.ms.length (rt g) i
    have hnl := natI_len (chP g.ms.length (rt g) i)
    have hql : q < (chP g.ms.length (rt g) i).length := by omega
    obtain ⟨c, hX⟩ : ∃ c, (chP g.ms.length (rt g) i)[q]? = some c := ⟨_, List.getElem?_eq_getElem hql⟩
    have htk : (chP g.ms.length (rt g) i).take (q + 1) = (chP g.ms.length (rt g) i).take q ++ [c] := take_get hX
    have hfl : (pk (setM g i { mem g i with res := z, has := true })  i z ((chP g.ms.length (rt g) i).take q)).fly.length ≤ 1000000 := by
      rw [pk_fly, List.length_append, List.length_map, List.length_take]; have := chP_len g.ms.length (rt g) i; have e : (setM g i { mem g i with res := z, has := true }).fly.length = g.fly.length := rfl; omega
    refine J.condT rfl rfl ?_
    refine J.skip rfl ?_
    refine J.seq rfl ?_
    refine J.block rfl ?_
    refine J.seq rfl ?_
    refine J.region rfl ?_
    refine JO.pur rfl rfl rfl (Pur.idx rfl rfl rfl (by first | rfl | (simp; done) | omega | (rw [List.length_zip]; omega) | (rw [List.length_zip, List.length_set]; omega) | (rw [natI_len]; omega)) rfl (by rw [natI_len]; exact hql)) ?_
    refine JO.pur rfl rfl rfl (Pur.load rfl (CellIn.el0 rfl (natI_get hX) rfl)) ?_
    refine JO.setv (u' := .int .i64 (c : Int)) 38 rfl rfl ?_
    refine JO.pur rfl rfl rfl (Pur.assign rfl) ?_
    refine JO.nil ?_
    refine J.region rfl ?_
    refine JO.pur rfl rfl rfl (Pur.move rfl) ?_
    refine JO.pur rfl rfl rfl (Pur.move rfl) ?_
    refine JO.pur rfl rfl rfl (Pur.move rfl) ?_
    refine JO.pur rfl rfl rfl (Pur.move rfl) ?_
    refine JO.pur rfl rfl rfl (Pur.build (cs := [_, _, _, _, _]) rfl rfl) ?_
    refine JO.eff rfl rfl rfl (Eff.call rfl (put_ok (g := pk (setM g i { mem g i with res := z, has := true })  i z ((chP g.ms.length (rt g) i).take q)) (m := ⟨i, c, z, false, 0⟩) hfl)) ?_
    rintro _ _ ⟨rfl, rfl⟩
    refine JO.nil ?_
    refine J.inBlock ?_
    refine J.region rfl ?_
    refine JO.pur rfl rfl rfl (Pur.add rfl rfl (wr64 (by omega))) ?_
    refine JO.pur rfl rfl rfl (Pur.move rfl) ?_
    refine JO.nil ?_
    exact J.weaken (.cons rfl (congrArg (Value.int .i64) (by first | rfl | (dsimp only; omega))) (.cons rfl rfl (.cons rfl rfl (.cons rfl rfl (.cons rfl rfl (.cons rfl rfl .nil)))))) (fun h s => by rw [htk, pk_snoc]; exact SubC.out h s) (ihq (q + 1) (by omega) (by omega))
  · try simp only [bSimp, bSimp2, ne_eq] at h36
    have hnl := natI_len (chP g.ms.length (rt g) i)
    have hqe : q = (chP g.ms.length (rt g) i).length := by omega
    refine J.condF rfl rfl ?_
    refine J.exit rfl rfl ?_
    refine J.fin rfl ?_
    refine ⟨_, _, ⟨rfl, rfl⟩, rfl, fun h s => ?_⟩
    rw [hqe, List.take_length] at s
    show Sat h (GB p am cm bs (pk (setM g i { mem g i with res := z, has := true }) i z (chP g.ms.length (rt g) i)) :: L)
    exact SubC.out h s

theorem combG_ok {L : List Asn} {p : Nat} {am : Option Addr} {cm : Nat} {bs : List Nat} {g : Gs} {i : Nat} (hw : wf g) (hr0 : 0 ≤ g.root) (hr1 : g.root < (g.ms.length : Int)) (hi : i < g.ms.length) (ho : okOp g.op) (hf : g.fly.length ≤ 10000) :
    CallS Try.prog 57 [.pointer (some ⟨p, 0, none⟩), .int .i64 (i : Int)].toArray (GB p am cm bs g :: L) (fun v M => v = .tuple #[] ∧ M = GB p am cm bs (combG g i) :: L) := by
  have hn8 := hw.2.1
  have hn1 := hw.1
  have hrn : rt g < g.ms.length := by unfold rt; omega
  refine CallS.ent ?_
  refine CallS.enter Try.func57 rfl rfl rfl rfl rfl ?_
  refine GB_open fun af cf hb => ?_
  obtain ⟨b, hbi⟩ : ∃ b, bs[i]? = some b := ⟨_, List.getElem?_eq_getElem (by omega)⟩
  have hzm := zip_get (mem_get hi) hbi
  refine J.seq rfl ?_
  refine J.region rfl ?_
  refine JO.pur rfl rfl rfl (Pur.move rfl) ?_
  refine JO.pur rfl rfl rfl (Pur.nilCheck rfl) ?_
  refine JO.pur rfl rfl rfl (Pur.fieldAddr rfl) ?_
  refine JO.pur rfl rfl rfl (Pur.load rfl (CellIn.blk rfl)) ?_
  refine JO.pur rfl rfl rfl (Pur.len rfl) ?_
  refine JO.pur rfl rfl rfl (Pur.assign rfl) ?_
  refine JO.nil ?_
  refine J.seq rfl ?_
  refine J.region rfl ?_
  refine JO.pur rfl rfl rfl (Pur.move rfl) ?_
  refine JO.pur rfl rfl rfl (Pur.nilCheck rfl) ?_
  refine JO.pur rfl rfl rfl (Pur.fieldAddr rfl) ?_
  refine JO.pur rfl rfl rfl (Pur.load rfl (CellIn.blk rfl)) ?_
  refine JO.pur rfl rfl rfl (Pur.move rfl) ?_
  refine JO.pur rfl rfl rfl (Pur.idx rfl rfl rfl (by first | rfl | (simp; done) | omega | (rw [List.length_zip]; omega) | (rw [List.length_zip, List.length_set]; omega) | (rw [natI_len]; omega)) rfl (by first | (rw [List.length_zip]; omega) | (rw [List.length_zip, List.length_set]; omega))) ?_
  refine JO.pur rfl rfl rfl (Pur.fieldAddr rfl) ?_
  refine JO.pur rfl rfl rfl (Pur.load rfl (CellIn.el rfl hzm rfl)) ?_
  refine JO.setv (u' := .int .i64 (mem g i).v) 20 rfl rfl ?_
  refine JO.pur rfl rfl rfl (Pur.assign rfl) ?_
  refine JO.nil ?_
  refine J.seq rfl ?_
  refine J.seq rfl ?_
  refine J.region rfl ?_
  refine JO.pur rfl rfl rfl (Pur.move rfl) ?_
  refine JO.pur rfl rfl rfl (Pur.move rfl) ?_
  refine JO.pur rfl rfl rfl (Pur.nilCheck rfl) ?_
  refine JO.pur rfl rfl rfl (Pur.fieldAddr rfl) ?_
  refine JO.pur rfl rfl rfl (Pur.load rfl (CellIn.blk rfl)) ?_
  refine JO.setv (u' := .int .i64 ((rt g : Nat) : Int)) 25 rfl (congrArg (Value.int .i64) (by unfold rt; exact (Int.toNat_of_nonneg hr0).symm)) ?_
  refine JO.pur rfl rfl rfl (Pur.move rfl) ?_
  refine JO.eff rfl rfl rfl (Eff.call rfl (children_ok (n := g.ms.length) (root := rt g) (p := i) (by omega) (by omega) (by omega))) ?_
  rintro _ _ ⟨a27, c27, rfl, rfl⟩
  refine JO.pur rfl rfl rfl (Pur.len rfl) ?_
  refine JO.pur rfl rfl rfl (Pur.move rfl) ?_
  refine JO.nil ?_
  refine J.block rfl ?_
  refine J.imp (M := mp intK b (kvs (mem g i).got) :: zwBut mpA i bs g.ms :: blk p (gC g.kind g.op g.root am g.ms.length cm af g.fly.length cf g.sent) :: sl memE am cm (g.ms.zip bs) :: sl msgE af cf g.fly :: sl intE a27 c27 (natI (chP g.ms.length (rt g) i)) :: L) (fun h s => mp_take hbi (mem_get hi) (SubC.out (M := star (List.zipWith mpA bs g.ms) :: blk p (gC g.kind g.op g.root am g.ms.length cm af g.fly.length cf g.sent) :: sl memE am cm (g.ms.zip bs) :: sl msgE af cf g.fly :: sl intE a27 c27 (natI (chP g.ms.length (rt g) i)) :: L) h s)) ?_
  refine J.loopF (ι := Nat) (fun q => q ≤ (chP g.ms.length (rt g) i).length) (fun q => [(5, .int .i64 (accG g i ((chP g.ms.length (rt g) i).take q))), (29, .int .i64 (q : Int))]) [(0, _), (1, _), (4, _), (27, _), (28, _)] (fun q => mp intK b (kvs (mem g i).got) :: zwBut mpA i bs g.ms :: blk p (gC g.kind g.op g.root am g.ms.length cm af g.fly.length cf g.sent) :: sl memE am cm (g.ms.zip bs) :: sl msgE af cf g.fly :: sl intE a27 c27 (natI (chP g.ms.length (rt g) i)) :: L) (fun q => (chP g.ms.length (rt g) i).length - q) 0 rfl (.cons rfl rfl (.cons rfl rfl (.cons rfl rfl (.cons rfl rfl (.cons rfl rfl .nil))))) (.cons rfl rfl (.cons rfl rfl .nil)) (by first | exact fun _ h => h | exact SubC.out | (dsimp only; exact SubC.out)) (Nat.zero_le _) ?_
  rintro q hq ihq
  try dsimp only
  refine J.seq rfl ?_
  refine J.region rfl ?_
  refine JO.pur rfl rfl rfl (Pur.lss rfl rfl) ?_
  refine JO.nil ?_
  refine J.seq rfl ?_
  refine J.splitB 30 rfl (fun h30 => ?_) (fun h30 => ?_)
  · try simp only [bSimp, bSimp2, ne_eq] at h30
    have hc3 := chP_len g.ms.length (rt g) i
    have hnl := natI_len (chP g.ms.length (rt g) i)
    have hql : q < (chP g.ms.length (rt g) i).length := by omega
    obtain ⟨c, hX⟩ : ∃ c, (chP g.ms.length (rt g) i)[q]? = some c := ⟨_, List.getElem?_eq_getElem hql⟩
    have htk : (chP g.ms.length (rt g) i).take (q + 1) = (chP g.ms.length (rt g) i).take q ++ [c] := take_get hX
    refine J.condT rfl rfl ?_
    refine J.skip rfl ?_
    refine J.seq rfl ?_
    refine J.block rfl ?_
    refine J.seq rfl ?_
    refine J.region rfl ?_
    refine JO.pur rfl rfl rfl (Pur.idx rfl rfl rfl (by first | rfl | (simp; done) | omega | (rw [List.length_zip]; omega) | (rw [List.length_zip, List.length_set]; omega) | (rw [natI_len]; omega)) rfl (by rw [natI_len]; exact hql)) ?_
    refine JO.pur rfl rfl rfl (Pur.load rfl (CellIn.el0 rfl (natI_get hX) rfl)) ?_
    refine JO.setv (u' := .int .i64 (c : Int)) 32 rfl rfl ?_
    refine JO.pur rfl rfl rfl (Pur.assign rfl) ?_
    refine JO.nil ?_
    refine J.region rfl ?_
    refine JO.pur rfl rfl rfl (Pur.move rfl) ?_
    refine JO.pur rfl rfl rfl (Pur.move rfl) ?_
    refine JO.pur rfl rfl rfl (Pur.move rfl) ?_
    refine JO.pur rfl rfl rfl (Pur.nilCheck rfl) ?_
    refine JO.pur rfl rfl rfl (Pur.fieldAddr rfl) ?_
    refine JO.pur rfl rfl rfl (Pur.load rfl (CellIn.blk rfl)) ?_
    refine JO.pur rfl rfl rfl (Pur.move rfl) ?_
    refine JO.pur rfl rfl rfl (Pur.idx rfl rfl rfl (by first | rfl | (simp; done) | omega | (rw [List.length_zip]; omega) | (rw [List.length_zip, List.length_set]; omega) | (rw [natI_len]; omega)) rfl (by first | (rw [List.length_zip]; omega) | (rw [List.length_zip, List.length_set]; omega))) ?_
    refine JO.pur rfl rfl rfl (Pur.fieldAddr rfl) ?_
    refine JO.pur rfl rfl rfl (Pur.load rfl (CellIn.el rfl hzm rfl)) ?_
    refine JO.setv (u' := .map (some b)) 42 rfl rfl ?_
    refine JO.pur rfl rfl rfl (Pur.move rfl) ?_
    refine JO.pur rfl rfl rfl (Pur.lookup (K := intK) (m := kvs (mem g i).got) (k := (c : Int)) rfl rfl) ?_
    refine JO.setv (u' := .int .i64 (getV (mem g i).got c)) 44 rfl (by rw [kvs_look]; unfold getV; cases lookI (mem g i).got (c : Int) <;> rfl) ?_
    refine JO.effR rfl rfl rfl (Eff.call rfl (join_ok (a := accG g i ((chP g.ms.length (rt g) i).take q)) (b := getV (mem g i).got c) ho)) ?_
    refine JO.pur rfl rfl rfl (Pur.assign rfl) ?_
    refine JO.nil ?_
    refine J.inBlock ?_
    refine J.region rfl ?_
    refine JO.pur rfl rfl rfl (Pur.add rfl rfl (wr64 (by omega))) ?_
    refine JO.pur rfl rfl rfl (Pur.move rfl) ?_
    refine JO.nil ?_
    exact J.weaken (.cons rfl (congrArg (Value.int .i64) (by rw [htk, accG_snoc])) (.cons rfl (congrArg (Value.int .i64) (by first | rfl | (dsimp only; omega))) (.cons rfl rfl (.cons rfl rfl (.cons rfl rfl (.cons rfl rfl (.cons rfl rfl .nil))))))) (by first | exact fun _ h => h | exact SubC.out | (dsimp only; exact SubC.out)) (ihq (q + 1) (by omega) (by omega))
  · try simp only [bSimp, bSimp2, ne_eq] at h30
    have hnl := natI_len (chP g.ms.length (rt g) i)
    have hqe : q = (chP g.ms.length (rt g) i).length := by omega
    rw [hqe, List.take_length]
    refine J.imp (M := blk p (gC g.kind g.op g.root am g.ms.length cm af g.fly.length cf g.sent) :: sl memE am cm (g.ms.zip bs) :: sl msgE af cf g.fly :: star (List.zipWith mpA bs g.ms) :: L) (fun h s => by have s2 := mp_put (m' := mem g i) hbi (mem_get hi) (SubC.out (M := mp intK b (kvs (mem g i).got) :: zwBut mpA i bs g.ms :: blk p (gC g.kind g.op g.root am g.ms.length cm af g.fly.length cf g.sent) :: sl memE am cm (g.ms.zip bs) :: sl msgE af cf g.fly :: L) h s); rw [set_same (mem_get hi)] at s2; exact SubC.out h s2) ?_
    refine J.condF rfl rfl ?_
    refine J.exit rfl rfl ?_
    refine J.block rfl ?_
    refine J.seq rfl ?_
    refine J.region rfl ?_
    refine JO.pur rfl rfl rfl (Pur.move rfl) ?_
    refine JO.pur rfl rfl rfl (Pur.move rfl) ?_
    refine JO.pur rfl rfl rfl (Pur.nilCheck rfl) ?_
    refine JO.pur rfl rfl rfl (Pur.fieldAddr rfl) ?_
    refine JO.pur rfl rfl rfl (Pur.load rfl (CellIn.blk rfl)) ?_
    refine JO.pur rfl rfl rfl (Pur.neqI rfl rfl) ?_
    refine JO.pur rfl rfl rfl (Pur.assign rfl) ?_
    refine JO.nil ?_
    refine J.splitB 51 rfl (fun h51 => ?_) (fun h51 => ?_)
    · try simp only [bSimp, bSimp2, ne_eq] at h51
      have hne : ¬ i = rt g := by unfold rt; omega
      have hcg : combG g i = put g ⟨i, parP g.ms.length (rt g) i, (accG g i (chP g.ms.length (rt g) i)), true, 0⟩ := if_pos hne
      refine J.condT rfl rfl ?_
      refine J.region rfl ?_
      refine JO.pur rfl rfl rfl (Pur.move rfl) ?_
      refine JO.pur rfl rfl rfl (Pur.move rfl) ?_
      refine JO.pur rfl rfl rfl (Pur.move rfl) ?_
      refine JO.pur rfl rfl rfl (Pur.move rfl) ?_
      refine JO.pur rfl rfl rfl (Pur.nilCheck rfl) ?_
      refine JO.pur rfl rfl rfl (Pur.fieldAddr rfl) ?_
      refine JO.pur rfl rfl rfl (Pur.load rfl (CellIn.blk rfl)) ?_
      refine JO.setv (u' := .int .i64 ((rt g : Nat) : Int)) 64 rfl (congrArg (Value.int .i64) (by unfold rt; exact (Int.toNat_of_nonneg hr0).symm)) ?_
      refine JO.pur rfl rfl rfl (Pur.move rfl) ?_
      refine JO.effR rfl rfl rfl (Eff.call rfl (parent_ok (n := g.ms.length) (root := rt g) (p := i) (by omega) (by omega) (by omega) hne)) ?_
      refine JO.pur rfl rfl rfl (Pur.move rfl) ?_
      refine JO.pur rfl rfl rfl (Pur.build (cs := [_, _, _, _, _]) rfl rfl) ?_
      refine JO.imp (M := GB p am cm bs g :: L) (fun h s => GB_mk (af := af) (cf := cf) hb (SubC.out (M := blk p (gC g.kind g.op g.root am g.ms.length cm af g.fly.length cf g.sent) :: sl memE am cm (g.ms.zip bs) :: sl msgE af cf g.fly :: star (List.zipWith mpA bs g.ms) :: L) h s)) ?_
      refine JO.eff rfl rfl rfl (Eff.call rfl (put_ok (g := g) (m := ⟨i, parP g.ms.length (rt g) i, (accG g i (chP g.ms.length (rt g) i)), true, 0⟩) (by omega))) ?_
      rintro _ _ ⟨rfl, rfl⟩
      refine JO.nil ?_
      refine J.inBlock ?_
      refine J.fin rfl ?_
      refine ⟨_, _, ⟨rfl, rfl⟩, rfl, fun h s => ?_⟩
      rw [hcg]
      first
      | exact SubC.out h s
      | exact GB_set (m' := { mem g i with res := (accG g i (chP g.ms.length (rt g) i)), has := true }) (af := af) (cf := cf) hi rfl hb (SubC.out (M := blk p (gC g.kind g.op g.root am g.ms.length cm af g.fly.length cf g.sent) :: sl memE am cm ((g.ms.set i { mem g i with res := (accG g i (chP g.ms.length (rt g) i)), has := true }).zip bs) :: sl msgE af cf g.fly :: star (List.zipWith mpA bs g.ms) :: L) h s)
    · try simp only [bSimp, bSimp2, ne_eq] at h51
      have hne : i = rt g := by unfold rt; omega
      refine J.condF rfl rfl ?_
      refine J.seq rfl ?_
      refine J.region rfl ?_
      refine JO.pur rfl rfl rfl (Pur.move rfl) ?_
      refine JO.pur rfl rfl rfl (Pur.nilCheck rfl) ?_
      refine JO.pur rfl rfl rfl (Pur.fieldAddr rfl) ?_
      refine JO.pur rfl rfl rfl (Pur.load rfl (CellIn.blk rfl)) ?_
      refine JO.pur rfl rfl rfl (Pur.eqlT rfl rfl) ?_
      refine JO.pur rfl rfl rfl (Pur.assign rfl) ?_
      refine JO.nil ?_
      refine J.splitB 70 rfl (fun h70 => ?_) (fun h70 => ?_)
      · try simp only [bSimp, bSimp2, ne_eq] at h70
        have hcg : combG g i = setM g i { mem g i with res := (accG g i (chP g.ms.length (rt g) i)), has := true } := by unfold combG; rw [if_neg (not_not_intro hne), if_pos (show g.kind = sRed from h70)]; rfl
        refine J.condT rfl rfl ?_
        have hzr : ((g.ms.set i { mem g i with res := (accG g i (chP g.ms.length (rt g) i)) }).zip bs)[i]? = some ({ mem g i with res := (accG g i (chP g.ms.length (rt g) i)) }, b) := zip_get (by rw [List.getElem?_set]; simp [hi]) hbi
        refine J.mask0 (n := 17) [13, 16] rfl Try.mixed rfl (by kernel_rfl) ?_
        refine JM.take 0 (fun _ h => h) rfl (by kernel_rfl) rfl rfl rfl (m' := 1) rfl (Pur.move rfl) ?_
        refine JM.take 1 (fun _ h => h) rfl (by kernel_rfl) rfl rfl rfl (m' := 3) rfl (Pur.nilCheck rfl) ?_
        refine JM.take 2 (fun _ h => h) rfl (by kernel_rfl) rfl rfl rfl (m' := 7) rfl (Pur.fieldAddr rfl) ?_
        refine JM.take 3 (fun _ h => h) rfl (by kernel_rfl) rfl rfl rfl (m' := 15) rfl (Pur.load rfl (CellIn.blk rfl)) ?_
        refine JM.take 4 (fun _ h => h) rfl (by kernel_rfl) rfl rfl rfl (m' := 31) rfl (Pur.move rfl) ?_
        refine JM.take 5 (fun _ h => h) rfl (by kernel_rfl) rfl rfl rfl (m' := 63) rfl (Pur.move rfl) ?_
        refine JM.take 6 (fun _ h => h) rfl (by kernel_rfl) rfl rfl rfl (m' := 127) rfl (Pur.nilCheck rfl) ?_
        refine JM.take 7 (fun _ h => h) rfl (by kernel_rfl) rfl rfl rfl (m' := 255) rfl (Pur.fieldAddr rfl) ?_
        refine JM.take 8 (fun _ h => h) rfl (by kernel_rfl) rfl rfl rfl (m' := 511) rfl (Pur.load rfl (CellIn.blk rfl)) ?_
        refine JM.takeF 9 (.inr (fun _ h => h)) rfl (by kernel_rfl) rfl rfl rfl (m' := 1023) rfl (Pur.move rfl) ?_
        refine JM.take 10 (fun _ h => h) rfl (by kernel_rfl) rfl rfl rfl (m' := 2047) rfl (Pur.move rfl) ?_
        refine JM.take 11 (fun _ h => h) rfl (by kernel_rfl) rfl rfl rfl (m' := 4095) rfl (Pur.idx rfl rfl rfl (by first | rfl | (simp; done) | omega | (rw [List.length_zip]; omega) | (rw [List.length_zip, List.length_set]; omega) | (rw [natI_len]; omega)) rfl (by first | (rw [List.length_zip]; omega) | (rw [List.length_zip, List.length_set]; omega))) ?_
        refine JM.take 12 (fun _ h => h) rfl (by kernel_rfl) rfl rfl rfl (m' := 8191) rfl (Pur.fieldAddr rfl) ?_
        refine JM.one (i := 13) (by kernel_rfl) ?_
        refine JMi.effN rfl rfl rfl (m' := 16383) rfl (Eff.storeS (z' := ({ mem g i with res := (accG g i (chP g.ms.length (rt g) i)) }, b)) rfl rfl rfl rfl hzm (.tail (.tail (.tail (.tail .head))))) ?_
        rintro _ _ ⟨rfl, rfl⟩
        refine ⟨.inl (by simp), ?_⟩
        rw [zip_set hbi]
        try rw [List.set_set]
        refine JM.one (i := 14) (by kernel_rfl) ?_
        refine JMi.eff rfl rfl rfl rfl (m' := 32767) rfl (Pur.eff (Pur.idx rfl rfl rfl (by first | rfl | (simp; done) | omega | (rw [List.length_zip]; omega) | (rw [List.length_zip, List.length_set]; omega) | (rw [natI_len]; omega)) rfl (by first | (rw [List.length_zip]; omega) | (rw [List.length_zip, List.length_set]; omega)))) ?_
        rintro _ _ ⟨rfl, rfl⟩
        refine ⟨.inl (.inr (by kernel_rfl)), ?_⟩
        refine JM.takeF 15 (.inl (by kernel_rfl)) rfl (by kernel_rfl) rfl rfl rfl (m' := 65535) rfl (Pur.fieldAddr rfl) ?_
        refine JM.one (i := 16) (by kernel_rfl) ?_
        refine JMi.effN rfl rfl rfl (m' := 131071) rfl (Eff.storeS (z' := ({ mem g i with res := (accG g i (chP g.ms.length (rt g) i)), has := true }, b)) rfl rfl rfl rfl hzr (.tail (.tail (.tail .head)))) ?_
        rintro _ _ ⟨rfl, rfl⟩
        refine ⟨.inl (by simp), ?_⟩
        rw [zip_set hbi]
        try rw [List.set_set]
        refine JM.done rfl ?_
        refine J.inBlock ?_
        refine J.fin rfl ?_
        refine ⟨_, _, ⟨rfl, rfl⟩, rfl, fun h s => ?_⟩
        rw [hcg]
        first
        | exact SubC.out h s
        | exact GB_set (m' := { mem g i with res := (accG g i (chP g.ms.length (rt g) i)), has := true }) (af := af) (cf := cf) hi rfl hb (SubC.out (M := blk p (gC g.kind g.op g.root am g.ms.length cm af g.fly.length cf g.sent) :: sl memE am cm ((g.ms.set i { mem g i with res := (accG g i (chP g.ms.length (rt g) i)), has := true }).zip bs) :: sl msgE af cf g.fly :: star (List.zipWith mpA bs g.ms) :: L) h s)
      · try simp only [bSimp, bSimp2, ne_eq] at h70
        have hcg : combG g i = castG g i (accG g i (chP g.ms.length (rt g) i)) := by unfold combG; rw [if_neg (not_not_intro hne), if_neg (show ¬ g.kind = sRed from h70)]; rfl
        refine J.condF rfl rfl ?_
        refine J.region rfl ?_
        refine JO.pur rfl rfl rfl (Pur.move rfl) ?_
        refine JO.pur rfl rfl rfl (Pur.move rfl) ?_
        refine JO.pur rfl rfl rfl (Pur.move rfl) ?_
        refine JO.imp (M := GB p am cm bs g :: L) (fun h s => GB_mk (af := af) (cf := cf) hb (SubC.out (M := blk p (gC g.kind g.op g.root am g.ms.length cm af g.fly.length cf g.sent) :: sl memE am cm (g.ms.zip bs) :: sl msgE af cf g.fly :: star (List.zipWith mpA bs g.ms) :: L) h s)) ?_
        refine JO.eff rfl rfl rfl (Eff.call rfl (castG_ok (g := g) (i := i) (z := (accG g i (chP g.ms.length (rt g) i))) hw hr0 hr1 hi (by omega))) ?_
        rintro _ _ ⟨rfl, rfl⟩
        refine JO.nil ?_
        refine J.inBlock ?_
        refine J.fin rfl ?_
        refine ⟨_, _, ⟨rfl, rfl⟩, rfl, fun h s => ?_⟩
        rw [hcg]
        first
        | exact SubC.out h s
        | exact GB_set (m' := { mem g i with res := (accG g i (chP g.ms.length (rt g) i)), has := true }) (af := af) (cf := cf) hi rfl hb (SubC.out (M := blk p (gC g.kind g.op g.root am g.ms.length cm af g.fly.length cf g.sent) :: sl memE am cm ((g.ms.set i { mem g i with res := (accG g i (chP g.ms.length (rt g) i)), has := true }).zip bs) :: sl msgE af cf g.fly :: star (List.zipWith mpA bs g.ms) :: L) h s)

end Go.Proofs.Ytoikjjpleonllaa
