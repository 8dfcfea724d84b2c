/-
  A part of the proof of the claim that this folder bears.
  This text: CClocks.
-/
import Derived.Test.YtekgkamjbnfgiaaCAsk
set_option linter.unusedVariables false
set_option linter.unusedSimpArgs false
namespace Go.Proofs.Ytekgkamjbnfgiaa
open Go Go.KK Ck

theorem merge_c {R : List Asn} {a b : Option Addr} {n cap cap2 : Nat} {xs ys : List Int} (hs : SlIn intE R b ys) (hn : n = xs.length) (hl : xs.length = ys.length) (hb : xs.length ≤ 1000000) :
    CallS Try.prog 50 [.slice a n cap, .slice b n cap2].toArray (sl intE a cap xs :: R) (fun v M => ∃ B, (v = .tuple #[] ∧ B = sl intE a cap (List.zipWith max xs ys)) ∧ M = B :: R) := merge_core hn hl hb
theorem clone_c {L : List Asn} {a : Option Addr} {n cap : Nat} {xs : List Int} (hs : SlIn intE L a xs) (hn : n = xs.length) (hb : xs.length ≤ 1000000) (hnil : a = none → n = 0 ∧ cap = 0) :
    CallS Try.prog 51 [.slice a n cap].toArray L (fun v M => ∃ a' cap', (v = .slice a' n cap' ∧ (a = none → a' = none)) ∧ M = sl intE a' cap' xs :: L) := cloneInts hn hb hnil
def gmap (g : List (Str × List Int)) (hs : List Hdr) : List (ByteArray × Value) := (g.zip hs).map fun p => (p.1.1, .slice p.2.a p.2.n p.2.cap)
def ghdr (g : List (Str × List Int)) (hs : List Hdr) (c : Str) : Hdr := (((g.zip hs).find? (fun p => decide (c = p.1.1))).map (·.2)).getD ⟨none, 0, 0⟩
theorem ghdr_look (g : List (Str × List Int)) (hs : List Hdr) (c : Str) : (alook (gmap g hs) c).getD (.slice none 0 0) = .slice (ghdr g hs c).a (ghdr g hs c).n (ghdr g hs c).cap := by
  unfold alook gmap ghdr
  rw [List.find?_map]
  show ((((g.zip hs).find? (fun p => decide (c = p.1.1))).map _).map _).getD _ = _
  cases (g.zip hs).find? (fun p => decide (c = p.1.1)) <;> rfl
theorem ghdr_some : ∀ {g : List (Str × List Int)} {hs : List Hdr} {c : Str} {v : List Int}, hs.length = g.length → glook g c = some v → ∃ j : Nat, hs[j]? = some (ghdr g hs c) ∧ (g.map (·.2))[j]? = some v
  | [], _, _, _, _, h => by simp [glook] at h
  | p :: g, [], _, _, hl, _ => by simp at hl
  | p :: g, hd :: hs, c, v, hl, h => by
    unfold glook at h
    by_cases e : c = p.1
    · simp [List.find?_cons, e] at h
      exact ⟨0, by simp [ghdr, List.find?_cons, e], by simp [h]⟩
    · simp only [List.find?_cons, e, decide_false, Bool.false_eq_true, if_false] at h
      obtain ⟨j, h1, h2⟩ := ghdr_some (g := g) (hs := hs) (by simpa using hl) h
      exact ⟨j + 1, by simpa [ghdr, List.find?_cons, e] using h1, by simpa using h2⟩
theorem gfind_none {g : List (Str × List Int)} (hs : List Hdr) {c : Str} (h : glook g c = none) : (g.zip hs).find? (fun p => decide (c = p.1.1)) = none := by
  unfold glook at h
  simp only [Option.map_eq_none_iff, List.find?_eq_none] at h ⊢
  intro p hp
  exact h p.1 (List.of_mem_zip hp).1
theorem ghdr_none {g : List (Str × List Int)} (hs : List Hdr) {c : Str} (h : glook g c = none) : ghdr g hs c = ⟨none, 0, 0⟩ := by
  unfold ghdr; rw [gfind_none hs h]; rfl
theorem gmap_new {g : List (Str × List Int)} {hs : List Hdr} {c : Str} {v : List Int} {hd : Hdr} (hl : hs.length = g.length) (h : glook g c = none) : aset (gmap g hs) c (.slice hd.a hd.n hd.cap) = gmap (g ++ [(c, v)]) (hs ++ [hd]) := by
  have h1 : alook (gmap g hs) c = none := by
    unfold alook gmap; rw [List.find?_map]
    show ((((g.zip hs).find? (fun p => decide (c = p.1.1))).map _).map _) = none
    rw [gfind_none hs h]; rfl
  unfold aset; rw [h1]
  unfold gmap
  rw [List.zip_append hl.symm]; simp
def cown1 (s : CS) (e : Evt) : List Int :=
  let own := s.now.getD e.task.toNat []
  if e.act = sJoin then vmax own (s.now.getD e.other.toNat []) else if e.act = sGet then vmax own ((glook s.given e.cell).getD []) else own
theorem cown_eq (s : CS) (e : Evt) : cown s e = (cown1 s e).set e.task.toNat ((cown1 s e).getD e.task.toNat 0 + 1) := rfl
theorem inv_own1 {l : List Evt} (hf : ∀ k, k < l.length → FineAt l k) {k : Nat} {s : CS} (hk : k < l.length) (h : Inv l k s) : -1 ≤ (cown1 s (ev l k)).getD (tk l k) 0 ∧ (cown1 s (ev l k)).getD (tk l k) 0 ≤ l.length := by
  have h1 := inv_own hf hk h
  have hF := hf k hk
  have ht : tk l k < many l := by have := hF.tl; have := tn_many (l := l) (k := k) (by omega); omega
  have h2 := h1.hi _ ht
  have h3 := h1.lo _ ht
  have hl := h1.len
  rw [cown_eq] at h2 h3 hl
  have hl2 : (cown1 s (ev l k)).length = many l := by simpa using hl
  have e : (ev l k).task.toNat = tk l k := rfl
  rw [e, set_getD (by omega), if_pos rfl] at h2 h3
  have : cnt l (tk l k) (k + 1) ≤ l.length := by unfold cnt; have := List.countP_le_length (p := fun e : Evt => decide (e.task.toNat = tk l k)) (l := l.take (k + 1)); simp at this ⊢; omega
  omega
theorem fill_next {N i : Nat} {Z : List Int} (h : i < N) : (List.replicate i Z ++ List.replicate (N - i) []).set i Z = List.replicate (i + 1) Z ++ List.replicate (N - (i + 1)) [] := by
  rw [List.set_append_right _ _ (by simp)]
  simp only [List.length_replicate, Nat.sub_self]
  obtain ⟨m, hm⟩ : ∃ m, N - i = m + 1 := ⟨N - i - 1, by omega⟩
  rw [hm, List.replicate_succ, List.set_cons_zero, show N - (i + 1) = m by omega, List.replicate_succ', List.append_assoc]; rfl
theorem many_le (xs : List Evt) : many xs ≤ xs.length + 1 := by
  unfold many; have := List.length_filter_le (fun e : Evt => decide (e.act = sFork)) xs; omega
theorem cnow_t {s : CS} {e : Evt} (ht : e.task.toNat < s.now.length) (h : e.act = sFork → e.other.toNat ≠ e.task.toNat) : (cnow s e)[e.task.toNat]? = some (cown s e) := by
  unfold cnow; dsimp only
  split
  · rename_i hf
    rw [List.getElem?_set_ne (h hf)]; simp [ht]
  · simp [ht]
theorem nil_all {hs : List Hdr} {hd : Hdr} (h : ∀ x ∈ hs, x.a ≠ none) (hd1 : hd.a ≠ none) : ∀ x ∈ hs ++ [hd], x.a ≠ none := by
  intro x hx; rcases List.mem_append.1 hx with h1 | h1
  · exact h x h1
  · simp at h1; subst h1; exact hd1

theorem clocks_ok {L : List Asn} {b : Option Addr} {n cp : Nat} {xs : List Evt} [SlIn evE L b xs] (hn : n = xs.length) (hb : xs.length ≤ 2000) (hf : ∀ k, k < xs.length → FineAt xs k) :
    CallS Try.prog 36 [.slice b n cp].toArray L (fun v M => ∃ a cap hs, v = .slice a xs.length cap ∧ M = sl rowE a cap hs :: rows intE hs (clks xs) :: L) := by
  subst hn
  have hN := many_le xs
  refine CallS.ent ?_
  refine CallS.enter Try.func36 rfl rfl rfl rfl rfl ?_
  refine J.seq rfl ?_
  refine J.region rfl ?_
  refine JO.pur rfl rfl rfl (Pur.assign rfl) ?_
  refine JO.nil ?_
  refine J.seq rfl ?_
  refine J.region rfl ?_
  refine JO.pur rfl rfl rfl (Pur.move rfl) ?_
  refine JO.effR rfl rfl rfl (Eff.call rfl (many_ok rfl (by omega))) ?_
  refine JO.pur rfl rfl rfl (Pur.assign rfl) ?_
  refine JO.nil ?_
  refine J.seq rfl ?_
  refine J.region rfl ?_
  refine JO.pur rfl rfl rfl (Pur.move rfl) ?_
  refine JO.eff rfl rfl rfl (Eff.make rowE ⟨none, 0, 0⟩ rfl rfl rfl rfl rfl (by decide) (by omega) (by omega)) ?_
  rintro _ _ ⟨b15, rfl, rfl⟩
  refine JO.pur rfl rfl rfl (Pur.assign rfl) ?_
  refine JO.nil ?_
  refine J.seq rfl ?_
  refine J.seq rfl ?_
  refine J.region rfl ?_
  refine JO.pur rfl rfl rfl (Pur.move rfl) ?_
  refine JO.pur rfl rfl rfl (Pur.len rfl) ?_
  refine JO.pur rfl rfl rfl (Pur.move rfl) ?_
  refine JO.nil ?_
  refine J.block rfl ?_
  refine J.loopF (ι := Nat × List Hdr) (fun i => i.1 ≤ many xs ∧ i.2.length = many xs) (fun i => [(18, .int .i64 (i.1 : Int))]) [(0, _), (3, _), (4, _), (17, _)] (fun i => sl rowE (some ⟨b15, 0, none⟩) (many xs) i.2 :: rows intE i.2 (List.replicate i.1 (List.replicate (many xs) 0) ++ List.replicate (many xs - i.1) []) :: L) (fun i => many xs - i.1) (0, List.replicate (many xs) ⟨none, 0, 0⟩) rfl (.cons rfl rfl (.cons rfl rfl (.cons rfl rfl (.cons rfl rfl .nil)))) (.cons rfl rfl .nil) (fun h s => by simp only [List.replicate_zero, List.nil_append, Nat.sub_zero]; exact SubC.out h (rows_new (E := intE) s (many xs))) ⟨Nat.zero_le _, by simp⟩ ?_
  rintro ⟨i, hs⟩ ⟨hi, hhl⟩ ih0
  try dsimp only
  dsimp only at hi hhl
  refine J.seq rfl ?_
  refine J.region rfl ?_
  refine JO.pur rfl rfl rfl (Pur.lss rfl rfl) ?_
  refine JO.nil ?_
  refine J.seq rfl ?_
  refine J.splitB 19 rfl (fun h19 => ?_) (fun h19 => ?_)
  · try simp only [decide_eq_true_eq, decide_eq_false_iff_not, Bool.not_eq_true', Bool.not_eq_false', Bool.and_eq_true, Bool.or_eq_true, Bool.and_eq_false_iff, Bool.or_eq_false_iff, Option.isNone_some, Option.isSome_some, Option.isNone_none, Option.isSome_none, Int.not_lt, Int.not_le, beq_iff_eq, beq_eq_false_iff_ne, bne_iff_ne, ne_eq, Bool.not_not, Decidable.not_not] at h19
    refine J.condT rfl rfl ?_
    refine J.skip rfl ?_
    refine J.seq rfl ?_
    refine J.block rfl ?_
    refine J.seq rfl ?_
    refine J.region rfl ?_
    refine JO.pur rfl rfl rfl (Pur.move rfl) ?_
    refine JO.pur rfl rfl rfl (Pur.assign rfl) ?_
    refine JO.nil ?_
    refine J.region rfl ?_
    refine JO.pur rfl rfl rfl (Pur.move rfl) ?_
    refine JO.pur rfl rfl rfl (Pur.move rfl) ?_
    refine JO.pur rfl rfl rfl (Pur.move rfl) ?_
    refine JO.eff rfl rfl rfl (Eff.make intE 0 rfl rfl rfl rfl rfl (by decide) (by omega) (by omega)) ?_
    rintro _ _ ⟨b24, rfl, rfl⟩
    refine JO.pur rfl rfl rfl (Pur.idx rfl rfl rfl (by first | rfl | (simp; done) | omega) rfl (by omega)) ?_
    refine JO.effN rfl rfl (Eff.storeS0 (z' := ⟨some ⟨b24, 0, none⟩, many xs, many xs⟩) rfl rfl rfl rfl (List.getElem?_eq_getElem (by omega)) .head) ?_
    rintro _ _ ⟨rfl, rfl⟩
    refine JO.nil ?_
    refine J.inBlock ?_
    refine J.region rfl ?_
    refine JO.pur rfl rfl rfl (Pur.add rfl rfl (wr64 (by omega))) ?_
    refine JO.pur rfl rfl rfl (Pur.move rfl) ?_
    refine JO.nil ?_
    exact J.weaken (.cons rfl (congrArg (Value.int .i64) (by dsimp only; omega)) (.cons rfl rfl (.cons rfl rfl (.cons rfl rfl (.cons rfl rfl .nil))))) (fun h s => by dsimp only; have s2 := put_row (E := intE) (a := some ⟨b24, 0, none⟩) (n := many xs) (cap := many xs) (xs := (List.replicate (many xs) 0)) (hs := hs) (xss := List.replicate i (List.replicate (many xs) 0) ++ List.replicate (many xs - i) []) (i := i) (by omega) (by simp) s; rw [fill_next (by omega)] at s2; exact SubC.out h s2) (ih0 (i + 1, hs.set i ⟨some ⟨b24, 0, none⟩, many xs, many xs⟩) ⟨(by dsimp only; omega), (by simp [hhl])⟩ (by dsimp only; omega))
  · try simp only [decide_eq_true_eq, decide_eq_false_iff_not, Bool.not_eq_true', Bool.not_eq_false', Bool.and_eq_true, Bool.or_eq_true, Bool.and_eq_false_iff, Bool.or_eq_false_iff, Option.isNone_some, Option.isSome_some, Option.isNone_none, Option.isSome_none, Int.not_lt, Int.not_le, beq_iff_eq, beq_eq_false_iff_ne, bne_iff_ne, ne_eq, Bool.not_not, Decidable.not_not] at h19
    refine J.condF rfl rfl ?_
    refine J.exit rfl rfl ?_
    refine J.seq rfl ?_
    refine J.region rfl ?_
    refine JO.eff rfl rfl rfl (Eff.makeMap strK) ?_
    rintro _ _ ⟨b27, rfl, rfl⟩
    refine JO.pur rfl rfl rfl (Pur.assign rfl) ?_
    refine JO.nil ?_
    refine J.seq rfl ?_
    refine J.region rfl ?_
    refine JO.pur rfl rfl rfl (Pur.assign rfl) ?_
    refine JO.nil ?_
    refine J.seq rfl ?_
    refine J.region rfl ?_
    refine JO.pur rfl rfl rfl (Pur.assign rfl) ?_
    refine JO.nil ?_
    refine J.seq rfl ?_
    refine J.seq rfl ?_
    refine J.region rfl ?_
    refine JO.pur rfl rfl rfl (Pur.move rfl) ?_
    refine JO.pur rfl rfl rfl (Pur.len rfl) ?_
    refine JO.pur rfl rfl rfl (Pur.move rfl) ?_
    refine JO.nil ?_
    refine J.block rfl ?_
    have hie : i = many xs := by omega
    refine J.loopF (ι := Nat × Option Addr × Nat × List Hdr × List Hdr) (fun i => i.1 ≤ xs.length ∧ i.2.2.2.1.length = i.1 ∧ i.2.2.2.2.length = (cfold xs i.1).given.length ∧ ∀ x ∈ i.2.2.2.2, x.a ≠ none) (fun i => [(7, .slice i.2.1 i.1 i.2.2.1), (30, .int .i64 (i.1 : Int))]) [(4, _), (6, _), (8, _), (28, _), (29, _)] (fun i => sl rowE (some ⟨b15, 0, none⟩) (many xs) hs :: rows intE hs (cfold xs i.1).now :: mp strK b27 (gmap (cfold xs i.1).given i.2.2.2.2) :: rows intE i.2.2.2.2 ((cfold xs i.1).given.map (·.2)) :: sl rowE i.2.1 i.2.2.1 i.2.2.2.1 :: rows intE i.2.2.2.1 (cfold xs i.1).out :: L) (fun i => xs.length - i.1) (0, none, 0, [], []) rfl (.cons rfl rfl (.cons rfl rfl (.cons rfl rfl (.cons rfl rfl (.cons rfl rfl .nil))))) (.cons rfl rfl (.cons rfl rfl .nil)) (fun h s => by rw [hie, Nat.sub_self] at s; simp only [List.replicate_zero, List.append_nil] at s; dsimp only [cfold, cstart, List.take_zero, List.foldl_nil, List.map_nil]; rw [show gmap [] [] = [] from rfl, show (List.map (fun x : Str × List Int => x.2) []) = [] from rfl]; exact SubC.out h (rows_nil (E := intE) (sl_nil_new (E := rowE) (rows_nil (E := intE) s)))) ⟨Nat.zero_le _, rfl, rfl, fun x hx => by cases hx⟩ ?_
    rintro ⟨i, a7, c7, hsO, hsG⟩ ⟨hi2, hO, hG, hGn⟩ ih1
    try dsimp only
    dsimp only at hi2 hO hG hGn
    refine J.seq rfl ?_
    refine J.region rfl ?_
    refine JO.pur rfl rfl rfl (Pur.lss rfl rfl) ?_
    refine JO.nil ?_
    refine J.seq rfl ?_
    refine J.splitB 31 rfl (fun h31 => ?_) (fun h31 => ?_)
    · try simp only [decide_eq_true_eq, decide_eq_false_iff_not, Bool.not_eq_true', Bool.not_eq_false', Bool.and_eq_true, Bool.or_eq_true, Bool.and_eq_false_iff, Bool.or_eq_false_iff, Option.isNone_some, Option.isSome_some, Option.isNone_none, Option.isSome_none, Int.not_lt, Int.not_le, beq_iff_eq, beq_eq_false_iff_ne, bne_iff_ne, ne_eq, Bool.not_not, Decidable.not_not] at h31
      have hF := hf i (by omega)
      have hIv := inv_all hf i (by omega)
      have hnl := hIv.len
      have hnm := tn_many (l := xs) (k := i) (by omega)
      have htl : tk xs i < many xs := by have := hF.tl; omega
      have htk : (ev xs i).task = ((tk xs i : Nat) : Int) := (Int.toNat_of_nonneg hF.t0).symm
      have rT : (cfold xs i).now[(tk xs i)]? = some ((cfold xs i).now.getD (tk xs i) []) := getD_get (by omega)
      have hT : hs[(tk xs i)]? = some (hs.getD (tk xs i) default) := getD_get (by omega)
      refine J.fact (fun h s => RowsIn.n (hs := hs) s) fun hnn => ?_
      have lT : ((cfold xs i).now.getD (tk xs i) []).length = many xs := (hIv.now _ htl).len
      have nT : (hs.getD (tk xs i) default).n = many xs := by rw [hdr_n hnn hT rT]; exact lT
      refine J.fact (fun h s => SlIn.some (RowsIn.row (E := intE) inferInstance hT rT) (by omega) h s) fun haT => ?_
      have hwl : (cown (cfold xs i) (ev xs i)).length = many xs := (inv_own hf (by omega) hIv).len
      have hw1 : (cown1 (cfold xs i) (ev xs i)).length = many xs := by rw [← hwl, cown_eq]; simp
      refine J.condT rfl rfl ?_
      refine J.skip rfl ?_
      refine J.seq rfl ?_
      refine J.block rfl ?_
      refine J.seq rfl ?_
      refine J.region rfl ?_
      refine JO.pur rfl rfl rfl (Pur.idx rfl rfl rfl (by first | rfl | (simp; done) | omega) (by first | rfl | exact (Int.toNat_of_nonneg (by omega)).symm) (by first | omega | (simp only [List.length_map]; omega) | (simp; omega))) ?_
      refine JO.pur rfl rfl rfl (Pur.loadA rfl rfl rfl (CellsIn.el rfl (ev_get (by omega)))) ?_
      refine JO.eff rfl rfl rfl (Eff.alloc (cs := [_, _, _, _]) rfl) ?_
      rintro _ _ ⟨b10, rfl, rfl⟩
      refine JO.effN rfl rfl (Eff.storeBA (cs' := [_, _, _, _]) rfl rfl (by rfl) (by rfl) (by rfl)) ?_
      rintro _ _ ⟨rfl, rfl⟩
      refine JO.nil ?_
      refine J.seq rfl ?_
      refine J.region rfl ?_
      refine JO.pur rfl rfl rfl (Pur.move rfl) ?_
      refine JO.pur rfl rfl rfl (Pur.fieldAddr rfl) ?_
      refine JO.pur rfl rfl rfl (Pur.load rfl (CellIn.blk rfl)) ?_
      refine JO.pur rfl rfl rfl (Pur.idx rfl rfl rfl (by first | rfl | (simp; done) | omega) htk (by omega)) ?_
      refine JO.pur rfl rfl rfl (Pur.load rfl (CellIn.el0 rfl hT rfl)) ?_
      refine JO.pur rfl rfl rfl (Pur.assign rfl) ?_
      refine JO.nil ?_
      refine J.seq rfl ?_
      refine J.seq rfl ?_
      refine J.region rfl ?_
      refine JO.pur rfl rfl rfl (Pur.fieldAddr rfl) ?_
      refine JO.pur rfl rfl rfl (Pur.load rfl (CellIn.blk rfl)) ?_
      refine JO.nil ?_
      refine J.cut (ι := Unit) (fun q => True) (fun q => []) [(4, _), (6, _), (7, _), (8, _), (10, _), (11, _), (28, _), (29, _), (30, _)] (fun q => blk b10 (.cells #[.int .i64 (ev xs i).task, .string (ev xs i).act, .int .i64 (ev xs i).other, .string (ev xs i).cell] 41 (0, 0)) :: sl rowE (some ⟨b15, 0, none⟩) (many xs) hs :: rows intE hs ((cfold xs i).now.set (tk xs i) (cown1 (cfold xs i) (ev xs i))) :: mp strK b27 (gmap (cfold xs i).given hsG) :: rows intE hsG ((cfold xs i).given.map (·.2)) :: sl rowE a7 c7 hsO :: rows intE hsO (cfold xs i).out :: L) (.cons rfl rfl (.cons rfl rfl (.cons rfl rfl (.cons rfl rfl (.cons rfl rfl (.cons rfl rfl (.cons rfl rfl (.cons rfl rfl (.cons rfl rfl .nil))))))))) ?_ ?_
      · rintro - -
        try dsimp only
        refine J.seq rfl ?_
        refine J.imp (fun h s => open_row (E := intE) hT (List.getElem?_set_self (by omega) : ((cfold xs i).now.set (tk xs i) (cown1 (cfold xs i) (ev xs i)))[(tk xs i)]? = some (cown1 (cfold xs i) (ev xs i))) s) ?_
        refine J.region rfl ?_
        refine JO.pur rfl rfl rfl (Pur.move rfl) ?_
        refine JO.pur rfl rfl rfl (Pur.fieldAddr rfl) ?_
        refine JO.pur rfl rfl rfl (Pur.load rfl (CellIn.blk rfl)) ?_
        refine JO.pur rfl rfl rfl (Pur.idx rfl rfl rfl (by first | rfl | (simp; done) | omega) htk (by omega)) ?_
        refine JO.pur rfl rfl rfl (Pur.load rfl (CellIn.el0 (a := (hs.getD (tk xs i) default).a) rfl (getD_get (d := 0) (by omega)) rfl)) ?_
        have hw64 := (inv_own1 hf (by omega) hIv)
        refine JO.pur rfl rfl rfl (Pur.add rfl rfl (wr64 (by omega))) ?_
        refine JO.pur rfl rfl rfl (Pur.idx rfl rfl rfl (by first | rfl | (simp; done) | omega) htk (by omega)) ?_
        refine JO.effN rfl rfl (Eff.storeS0 (E := intE) (a := (hs.getD (tk xs i) default).a) (z' := ((cown1 (cfold xs i) (ev xs i)).getD (tk xs i) 0 + 1)) rfl rfl rfl rfl (getD_get (d := 0) (by omega)) .head) ?_
        rintro _ _ ⟨rfl, rfl⟩
        refine JO.nil ?_
        refine J.seq rfl ?_
        refine J.seq rfl ?_
        rw [show (cown1 (cfold xs i) (ev xs i)).set (tk xs i) ((cown1 (cfold xs i) (ev xs i)).getD (tk xs i) 0 + 1) = cown (cfold xs i) (ev xs i) from rfl]
        refine J.imp (fun h s => by have s2 := shut_row (E := intE) hT (by rw [nT, hwl]) s; rw [List.set_set] at s2; exact s2) ?_
        refine J.region rfl ?_
        refine JO.pur rfl rfl rfl (Pur.fieldAddr rfl) ?_
        refine JO.pur rfl rfl rfl (Pur.load rfl (CellIn.blk rfl)) ?_
        refine JO.nil ?_
        refine J.cut (ι := List Hdr) (fun q => q.length = (cgiven (cfold xs i) (ev xs i)).length ∧ ∀ x ∈ q, x.a ≠ none) (fun q => []) [(4, _), (6, _), (7, _), (8, _), (11, _), (28, _), (29, _), (30, _)] (fun q => sl rowE (some ⟨b15, 0, none⟩) (many xs) hs :: rows intE hs (cnow (cfold xs i) (ev xs i)) :: mp strK b27 (gmap (cgiven (cfold xs i) (ev xs i)) q) :: rows intE q ((cgiven (cfold xs i) (ev xs i)).map (·.2)) :: sl rowE a7 c7 hsO :: rows intE hsO (cfold xs i).out :: L) (.cons rfl rfl (.cons rfl rfl (.cons rfl rfl (.cons rfl rfl (.cons rfl rfl (.cons rfl rfl (.cons rfl rfl (.cons rfl rfl .nil)))))))) ?_ ?_
        · rintro hsG2 ⟨hG2, hGn2⟩
          try dsimp only
          have hct : (cnow (cfold xs i) (ev xs i))[(tk xs i)]? = some (cown (cfold xs i) (ev xs i)) := cnow_t (by rw [hnl]; exact htl) (fun hk => by have := hF.fork hk; have := hF.tl; unfold tk at this; omega)
          refine J.region rfl ?_
          refine JO.pur rfl rfl rfl (Pur.move rfl) ?_
          refine JO.pur rfl rfl rfl (Pur.move rfl) ?_
          refine JO.eff rfl rfl rfl (Eff.call rfl (clone_c (RowsIn.row inferInstance hT hct) (a := (hs.getD (tk xs i) default).a) (xs := cown (cfold xs i) (ev xs i)) (by omega) (by omega) (fun e => by obtain ⟨_, _, e2⟩ := haT; rw [e2] at e; cases e))) ?_
          rintro _ _ ⟨a93, c93, ⟨rfl, -⟩, rfl⟩
          rw [nT]
          refine JO.eff rfl rfl rfl (Eff.buildSlice rowE [⟨a93, many xs, c93⟩] rfl rfl rfl rfl rfl rfl rfl) ?_
          rintro _ _ ⟨b94, rfl, -, rfl⟩
          refine JO.eff rfl rfl rfl (Eff.append rfl rfl rfl rfl (by first | rfl | omega | (simp; done) | (simp; omega)) (by first | rfl | omega | (simp; done) | (simp; omega)) (by decide) (by first | omega | (simp only [List.length_cons, List.length_nil]; omega) | (simp; omega)) (by first | omega | (simp only [List.length_cons, List.length_nil]; omega) | (simp; omega)) (fun h => by cases h)) ?_
          rintro _ _ ⟨a95, c95, rfl, rfl⟩
          refine JO.pur rfl rfl rfl (Pur.assign rfl) ?_
          refine JO.nil ?_
          refine J.inBlock ?_
          refine J.region rfl ?_
          refine JO.pur rfl rfl rfl (Pur.add rfl rfl (wr64 (by omega))) ?_
          refine JO.pur rfl rfl rfl (Pur.move rfl) ?_
          refine JO.nil ?_
          exact J.weaken (.cons rfl (by simp [hO]) (.cons rfl (congrArg (Value.int .i64) (by dsimp only; omega)) (.cons rfl rfl (.cons rfl rfl (.cons rfl rfl (.cons rfl rfl (.cons rfl rfl .nil))))))) (fun h s => by dsimp only; rw [cfold_succ (by omega)]; have s2 := snoc_row (E := intE) (a := a93) (n := many xs) (cap := c93) (xs := cown (cfold xs i) (ev xs i)) (hs := hsO) (xss := (cfold xs i).out) hwl.symm s; dsimp only [cstep]; exact SubC.out h s2) (ih1 (i + 1, a95, c95, hsO ++ [⟨a93, many xs, c93⟩], hsG2) ⟨(by dsimp only; omega), (by simp [hO]), (by dsimp only; rw [cfold_succ (by omega)]; exact hG2), hGn2⟩ (by dsimp only; omega))
        · intro cut5
          refine J.block rfl ?_
          refine J.seq rfl ?_
          refine J.region rfl ?_
          refine JO.pur rfl rfl rfl (Pur.eqlT rfl rfl) ?_
          refine JO.pur rfl rfl rfl (Pur.assign rfl) ?_
          refine JO.nil ?_
          refine J.splitB 69 rfl (fun h69 => ?_) (fun h69 => ?_)
          · try simp only [decide_eq_true_eq, decide_eq_false_iff_not, Bool.not_eq_true', Bool.not_eq_false', Bool.and_eq_true, Bool.or_eq_true, Bool.and_eq_false_iff, Bool.or_eq_false_iff, Option.isNone_some, Option.isSome_some, Option.isNone_none, Option.isSome_none, Int.not_lt, Int.not_le, beq_iff_eq, beq_eq_false_iff_ne, bne_iff_ne, ne_eq, Bool.not_not, Decidable.not_not] at h69
            have hK : (ev xs i).act = sFork := h69
            have ho := hF.fork hK
            have hon : (ev xs i).other.toNat = tn xs i := by omega
            have hok : (ev xs i).other = (((ev xs i).other.toNat : Nat) : Int) := by omega
            have hoN : (ev xs i).other.toNat < many xs := by have h1 := tn_succ (l := xs) (k := i) (by omega); rw [if_pos hK] at h1; have := tn_many (l := xs) (k := i + 1) (by omega); omega
            have hto : (ev xs i).other.toNat ≠ (tk xs i) := by have := hF.tl; omega
            have rO : ((cfold xs i).now.set (tk xs i) (cown (cfold xs i) (ev xs i)))[(ev xs i).other.toNat]? = some ((cfold xs i).now.getD (ev xs i).other.toNat []) := by rw [List.getElem?_set_ne (Ne.symm hto)]; exact getD_get (by omega)
            have rT2 : ((cfold xs i).now.set (tk xs i) (cown (cfold xs i) (ev xs i)))[(tk xs i)]? = some (cown (cfold xs i) (ev xs i)) := List.getElem?_set_self (by omega)
            have hO2 : hs[(ev xs i).other.toNat]? = some (hs.getD (ev xs i).other.toNat default) := getD_get (by omega)
            have lO : ((cfold xs i).now.getD (ev xs i).other.toNat []).length = many xs := (hIv.now _ hoN).len
            refine J.fact (fun h s => RowsIn.n (hs := hs) s) fun hnn2 => ?_
            have nO : (hs.getD (ev xs i).other.toNat default).n = (hs.getD (tk xs i) default).n := by rw [nT, hdr_n hnn2 hO2 rO]; exact lO
            refine J.condT rfl rfl ?_
            refine J.region rfl ?_
            refine JO.pur rfl rfl rfl (Pur.move rfl) ?_
            refine JO.pur rfl rfl rfl (Pur.move rfl) ?_
            refine JO.pur rfl rfl rfl (Pur.fieldAddr rfl) ?_
            refine JO.pur rfl rfl rfl (Pur.load rfl (CellIn.blk rfl)) ?_
            refine JO.pur rfl rfl rfl (Pur.idx rfl rfl rfl (by first | rfl | (simp; done) | omega) hok (by omega)) ?_
            refine JO.pur rfl rfl rfl (Pur.load rfl (CellIn.el0 rfl hO2 rfl)) ?_
            refine JO.pur rfl rfl rfl (Pur.move rfl) ?_
            refine JO.imp (fun h s => open_row (E := intE) hO2 rO s) ?_
            rw [nO]
            refine JO.eff rfl rfl rfl (Eff.callV rfl rfl (merge_c (RBIn.row inferInstance hto hT rT2) (by omega) (by omega) (by omega))) ?_
            rintro _ _ ⟨B, ⟨rfl, rfl⟩, rfl⟩
            refine JO.nil ?_
            refine J.inBlock ?_
            have hcn : cnow (cfold xs i) (ev xs i) = ((cfold xs i).now.set (tk xs i) (cown (cfold xs i) (ev xs i))).set (ev xs i).other.toNat (List.zipWith max ((cfold xs i).now.getD (ev xs i).other.toNat []) (cown (cfold xs i) (ev xs i))) := by unfold cnow; dsimp only; rw [if_pos hK]; show ((cfold xs i).now.set (tk xs i) (cown (cfold xs i) (ev xs i))).set (ev xs i).other.toNat (vmax (((cfold xs i).now.set (tk xs i) (cown (cfold xs i) (ev xs i))).getD (ev xs i).other.toNat []) (cown (cfold xs i) (ev xs i))) = _; rw [List.getD_eq_getElem?_getD, rO]; rfl
            have hcg : cgiven (cfold xs i) (ev xs i) = (cfold xs i).given := by unfold cgiven; rw [if_neg (by rw [hK]; decide)]
            have hG3 : hsG.length = (cgiven (cfold xs i) (ev xs i)).length := by rw [hcg]; exact hG
            refine J.imp (fun h s => shut_row (E := intE) hO2 (by rw [nO, nT, List.length_zipWith]; omega) s) ?_
            rw [← hcn, ← hcg]
            exact J.weaken (.cons rfl rfl (.cons rfl rfl (.cons rfl rfl (.cons rfl rfl (.cons rfl rfl (.cons rfl rfl (.cons rfl rfl (.cons rfl rfl .nil)))))))) (by first | exact fun _ h => h | exact SubC.out | (dsimp only; exact SubC.out)) (cut5 hsG ⟨hG3, hGn⟩)
          · try simp only [decide_eq_true_eq, decide_eq_false_iff_not, Bool.not_eq_true', Bool.not_eq_false', Bool.and_eq_true, Bool.or_eq_true, Bool.and_eq_false_iff, Bool.or_eq_false_iff, Option.isNone_some, Option.isSome_some, Option.isNone_none, Option.isSome_none, Int.not_lt, Int.not_le, beq_iff_eq, beq_eq_false_iff_ne, bne_iff_ne, ne_eq, Bool.not_not, Decidable.not_not] at h69
            refine J.condF rfl rfl ?_
            refine J.seq rfl ?_
            refine J.region rfl ?_
            refine JO.pur rfl rfl rfl (Pur.eqlT rfl rfl) ?_
            refine JO.pur rfl rfl rfl (Pur.assign rfl) ?_
            refine JO.nil ?_
            refine J.splitB 79 rfl (fun h79 => ?_) (fun h79 => ?_)
            · try simp only [decide_eq_true_eq, decide_eq_false_iff_not, Bool.not_eq_true', Bool.not_eq_false', Bool.and_eq_true, Bool.or_eq_true, Bool.and_eq_false_iff, Bool.or_eq_false_iff, Option.isNone_some, Option.isSome_some, Option.isNone_none, Option.isSome_none, Int.not_lt, Int.not_le, beq_iff_eq, beq_eq_false_iff_ne, bne_iff_ne, ne_eq, Bool.not_not, Decidable.not_not] at h79
              have hV : (ev xs i).act = sGive := h79
              have hcn : cnow (cfold xs i) (ev xs i) = ((cfold xs i).now.set (tk xs i) (cown (cfold xs i) (ev xs i))) := by unfold cnow; dsimp only; rw [if_neg (show (ev xs i).act ≠ sFork from h69)]; rfl
              refine J.condT rfl rfl ?_
              refine J.seq rfl ?_
              refine J.region rfl ?_
              refine JO.pur rfl rfl rfl (Pur.move rfl) ?_
              refine JO.pur rfl rfl rfl (Pur.fieldAddr rfl) ?_
              refine JO.pur rfl rfl rfl (Pur.load rfl (CellIn.blk rfl)) ?_
              refine JO.pur rfl rfl rfl (Pur.lookup rfl rfl) ?_
              refine JO.setv (u' := .slice (ghdr (cfold xs i).given hsG (ev xs i).cell).a (ghdr (cfold xs i).given hsG (ev xs i).cell).n (ghdr (cfold xs i).given hsG (ev xs i).cell).cap) 84 rfl (ghdr_look _ _ _) ?_
              refine JO.pur rfl rfl rfl (Pur.eqlSlNil rfl) ?_
              refine JO.nil ?_
              refine J.splitB 85 rfl (fun h85 => ?_) (fun h85 => ?_)
              · try simp only [decide_eq_true_eq, decide_eq_false_iff_not, Bool.not_eq_true', Bool.not_eq_false', Bool.and_eq_true, Bool.or_eq_true, Bool.and_eq_false_iff, Bool.or_eq_false_iff, Option.isNone_some, Option.isSome_some, Option.isNone_none, Option.isSome_none, Int.not_lt, Int.not_le, beq_iff_eq, beq_eq_false_iff_ne, bne_iff_ne, ne_eq, Bool.not_not, Decidable.not_not] at h85
                have hgl : glook (cfold xs i).given (ev xs i).cell = none := by cases hq : glook (cfold xs i).given (ev xs i).cell with | none => rfl | some v => obtain ⟨jg, hj1, hj2⟩ := ghdr_some (hs := hsG) hG hq; have := hGn _ (List.mem_of_getElem? hj1); simp_all
                have hcg : cgiven (cfold xs i) (ev xs i) = (cfold xs i).given ++ [((ev xs i).cell, cown (cfold xs i) (ev xs i))] := by unfold cgiven; rw [if_pos hV, hgl]
                have rT2 : ((cfold xs i).now.set (tk xs i) (cown (cfold xs i) (ev xs i)))[(tk xs i)]? = some (cown (cfold xs i) (ev xs i)) := List.getElem?_set_self (by omega)
                refine J.condT rfl rfl ?_
                refine J.mask0 (n := 6) [5] rfl Try.mixed rfl (by kernel_rfl) ?_
                refine JM.take 0 (fun _ h => h) rfl (by kernel_rfl) rfl rfl rfl (m' := 1) rfl (Pur.move rfl) ?_
                refine JM.take 1 (fun _ h => h) rfl (by kernel_rfl) rfl rfl rfl (m' := 3) rfl (Pur.fieldAddr rfl) ?_
                refine JM.take 2 (fun _ h => h) rfl (by kernel_rfl) rfl rfl rfl (m' := 7) rfl (Pur.load rfl (CellIn.blk rfl)) ?_
                refine JM.take 3 (fun _ h => h) rfl (by kernel_rfl) rfl rfl rfl (m' := 15) rfl (Pur.move rfl) ?_
                refine JM.one (i := 4) (by kernel_rfl) ?_
                refine JMi.eff rfl rfl rfl rfl (m' := 31) rfl (Eff.call rfl (clone_c (RowsIn.row inferInstance hT rT2) (a := (hs.getD (tk xs i) default).a) (xs := cown (cfold xs i) (ev xs i)) (by omega) (by omega) (fun e => by obtain ⟨_, _, e2⟩ := haT; rw [e2] at e; cases e))) ?_
                rintro _ _ ⟨a90, c90, ⟨rfl, haN0⟩, rfl⟩
                refine ⟨.inr (fun _ h => h.tail), ?_⟩
                refine JM.one (i := 5) (by kernel_rfl) ?_
                refine JMi.effN rfl rfl rfl (m' := 63) rfl (Eff.mapUpdate rfl rfl rfl) ?_
                rintro _ _ ⟨rfl, rfl⟩
                refine ⟨.inl (by simp), ?_⟩
                refine JM.done rfl ?_
                refine J.inBlock ?_
                refine J.fact (fun h s => SlIn.some (a := a90) (E := intE) (xs := cown (cfold xs i) (ev xs i)) inferInstance (by omega) h s) fun hq90 => ?_
                have haN : a90 ≠ none := by obtain ⟨_, _, e9⟩ := hq90; rw [e9]; simp
                refine J.imp (fun h s => snoc_row (E := intE) (a := a90) (n := (hs.getD (tk xs i) default).n) (cap := c90) (hs := hsG) (nT.trans hwl.symm) s) ?_
                have hgm := gmap_new (v := cown (cfold xs i) (ev xs i)) (hd := ⟨a90, (hs.getD (tk xs i) default).n, c90⟩) hG hgl
                dsimp only at hgm
                rw [hgm]
                exact J.weaken (.cons rfl rfl (.cons rfl rfl (.cons rfl rfl (.cons rfl rfl (.cons rfl rfl (.cons rfl rfl (.cons rfl rfl (.cons rfl rfl .nil)))))))) (fun h s => by rw [hcn, hcg, List.map_append, List.map_cons, List.map_nil]; exact SubC.out h s) (cut5 (hsG ++ [⟨a90, (hs.getD (tk xs i) default).n, c90⟩]) ⟨(by rw [hcg]; simp [hG]), nil_all hGn haN⟩)
              · try simp only [decide_eq_true_eq, decide_eq_false_iff_not, Bool.not_eq_true', Bool.not_eq_false', Bool.and_eq_true, Bool.or_eq_true, Bool.and_eq_false_iff, Bool.or_eq_false_iff, Option.isNone_some, Option.isSome_some, Option.isNone_none, Option.isSome_none, Int.not_lt, Int.not_le, beq_iff_eq, beq_eq_false_iff_ne, bne_iff_ne, ne_eq, Bool.not_not, Decidable.not_not] at h85
                have hcg : cgiven (cfold xs i) (ev xs i) = (cfold xs i).given := by unfold cgiven; rw [if_pos hV]; cases hq : glook (cfold xs i).given (ev xs i).cell with | none => rw [ghdr_none hsG hq] at h85; simp at h85 | some v => rfl
                refine J.condF rfl rfl ?_
                refine J.skip rfl ?_
                refine J.inBlock ?_
                have hG3 : hsG.length = (cgiven (cfold xs i) (ev xs i)).length := by rw [hcg]; exact hG
                rw [← hcn, ← hcg]
                exact J.weaken (.cons rfl rfl (.cons rfl rfl (.cons rfl rfl (.cons rfl rfl (.cons rfl rfl (.cons rfl rfl (.cons rfl rfl (.cons rfl rfl .nil)))))))) (by first | exact fun _ h => h | exact SubC.out | (dsimp only; exact SubC.out)) (cut5 hsG ⟨hG3, hGn⟩)
            · try simp only [decide_eq_true_eq, decide_eq_false_iff_not, Bool.not_eq_true', Bool.not_eq_false', Bool.and_eq_true, Bool.or_eq_true, Bool.and_eq_false_iff, Bool.or_eq_false_iff, Option.isNone_some, Option.isSome_some, Option.isNone_none, Option.isSome_none, Int.not_lt, Int.not_le, beq_iff_eq, beq_eq_false_iff_ne, bne_iff_ne, ne_eq, Bool.not_not, Decidable.not_not] at h79
              have hcn : cnow (cfold xs i) (ev xs i) = ((cfold xs i).now.set (tk xs i) (cown (cfold xs i) (ev xs i))) := by unfold cnow; dsimp only; rw [if_neg (show (ev xs i).act ≠ sFork from h69)]; rfl
              have hcg : cgiven (cfold xs i) (ev xs i) = (cfold xs i).given := by unfold cgiven; rw [if_neg (show (ev xs i).act ≠ sGive from h79)]
              refine J.condF rfl rfl ?_
              refine J.skip rfl ?_
              refine J.inBlock ?_
              have hG3 : hsG.length = (cgiven (cfold xs i) (ev xs i)).length := by rw [hcg]; exact hG
              rw [← hcn, ← hcg]
              exact J.weaken (.cons rfl rfl (.cons rfl rfl (.cons rfl rfl (.cons rfl rfl (.cons rfl rfl (.cons rfl rfl (.cons rfl rfl (.cons rfl rfl .nil)))))))) (by first | exact fun _ h => h | exact SubC.out | (dsimp only; exact SubC.out)) (cut5 hsG ⟨hG3, hGn⟩)
      · intro cut4
        refine J.block rfl ?_
        refine J.seq rfl ?_
        refine J.region rfl ?_
        refine JO.pur rfl rfl rfl (Pur.eqlT rfl rfl) ?_
        refine JO.pur rfl rfl rfl (Pur.assign rfl) ?_
        refine JO.nil ?_
        refine J.splitB 41 rfl (fun h41 => ?_) (fun h41 => ?_)
        · try simp only [decide_eq_true_eq, decide_eq_false_iff_not, Bool.not_eq_true', Bool.not_eq_false', Bool.and_eq_true, Bool.or_eq_true, Bool.and_eq_false_iff, Bool.or_eq_false_iff, Option.isNone_some, Option.isSome_some, Option.isNone_none, Option.isSome_none, Int.not_lt, Int.not_le, beq_iff_eq, beq_eq_false_iff_ne, bne_iff_ne, ne_eq, Bool.not_not, Decidable.not_not] at h41
          have hJ : (ev xs i).act = sJoin := h41
          obtain ⟨o0, ol, one⟩ := hF.join hJ
          have hok : (ev xs i).other = (((ev xs i).other.toNat : Nat) : Int) := (Int.toNat_of_nonneg o0).symm
          have hoN : (ev xs i).other.toNat < many xs := by omega
          have hto : (tk xs i) ≠ (ev xs i).other.toNat := by unfold tk; omega
          have rO : (cfold xs i).now[(ev xs i).other.toNat]? = some ((cfold xs i).now.getD (ev xs i).other.toNat []) := getD_get (by omega)
          have hO2 : hs[(ev xs i).other.toNat]? = some (hs.getD (ev xs i).other.toNat default) := getD_get (by omega)
          have lO : ((cfold xs i).now.getD (ev xs i).other.toNat []).length = many xs := (hIv.now _ hoN).len
          refine J.condT rfl rfl ?_
          refine J.region rfl ?_
          refine JO.pur rfl rfl rfl (Pur.move rfl) ?_
          refine JO.pur rfl rfl rfl (Pur.move rfl) ?_
          refine JO.pur rfl rfl rfl (Pur.move rfl) ?_
          refine JO.pur rfl rfl rfl (Pur.fieldAddr rfl) ?_
          refine JO.pur rfl rfl rfl (Pur.load rfl (CellIn.blk rfl)) ?_
          refine JO.pur rfl rfl rfl (Pur.idx rfl rfl rfl (by first | rfl | (simp; done) | omega) hok (by omega)) ?_
          refine JO.pur rfl rfl rfl (Pur.load rfl (CellIn.el0 rfl hO2 rfl)) ?_
          refine JO.imp (fun h s => open_row (E := intE) hT rT s) ?_
          have nO : (hs.getD (ev xs i).other.toNat default).n = (hs.getD (tk xs i) default).n := by rw [nT, hdr_n hnn hO2 rO]; exact lO
          rw [nO]
          refine JO.eff rfl rfl rfl (Eff.callV rfl rfl (merge_c (RBIn.row inferInstance hto hO2 rO) (by omega) (by omega) (by omega))) ?_
          rintro _ _ ⟨B, ⟨rfl, rfl⟩, rfl⟩
          refine JO.nil ?_
          refine J.inBlock ?_
          have hc1 : cown1 (cfold xs i) (ev xs i) = List.zipWith max ((cfold xs i).now.getD (tk xs i) []) ((cfold xs i).now.getD (ev xs i).other.toNat []) := by unfold cown1; dsimp only; rw [if_pos hJ]; rfl
          refine J.imp (fun h s => shut_row (E := intE) hT (by rw [nT, ← hw1, hc1]) s) ?_
          rw [← hc1]
          exact J.weaken (.cons rfl rfl (.cons rfl rfl (.cons rfl rfl (.cons rfl rfl (.cons rfl rfl (.cons rfl rfl (.cons rfl rfl (.cons rfl rfl (.cons rfl rfl .nil))))))))) (by first | exact fun _ h => h | exact SubC.out | (dsimp only; exact SubC.out)) (cut4 () trivial)
        · try simp only [decide_eq_true_eq, decide_eq_false_iff_not, Bool.not_eq_true', Bool.not_eq_false', Bool.and_eq_true, Bool.or_eq_true, Bool.and_eq_false_iff, Bool.or_eq_false_iff, Option.isNone_some, Option.isSome_some, Option.isNone_none, Option.isSome_none, Int.not_lt, Int.not_le, beq_iff_eq, beq_eq_false_iff_ne, bne_iff_ne, ne_eq, Bool.not_not, Decidable.not_not] at h41
          refine J.condF rfl rfl ?_
          refine J.seq rfl ?_
          refine J.region rfl ?_
          refine JO.pur rfl rfl rfl (Pur.eqlT rfl rfl) ?_
          refine JO.pur rfl rfl rfl (Pur.assign rfl) ?_
          refine JO.nil ?_
          refine J.splitB 51 rfl (fun h51 => ?_) (fun h51 => ?_)
          · try simp only [decide_eq_true_eq, decide_eq_false_iff_not, Bool.not_eq_true', Bool.not_eq_false', Bool.and_eq_true, Bool.or_eq_true, Bool.and_eq_false_iff, Bool.or_eq_false_iff, Option.isNone_some, Option.isSome_some, Option.isNone_none, Option.isSome_none, Int.not_lt, Int.not_le, beq_iff_eq, beq_eq_false_iff_ne, bne_iff_ne, ne_eq, Bool.not_not, Decidable.not_not] at h51
            have hJ : (ev xs i).act ≠ sJoin := h41
            have hGe : (ev xs i).act = sGet := h51
            have hfg := hF.get hGe
            have hgl := hIv.giv (ev xs i).cell
            rw [if_pos hfg] at hgl
            obtain ⟨jg, hj1, hj2⟩ := ghdr_some (hs := hsG) hG hgl
            have lG := (hIv.out _ hfg).len
            refine J.condT rfl rfl ?_
            refine J.region rfl ?_
            refine JO.pur rfl rfl rfl (Pur.move rfl) ?_
            refine JO.pur rfl rfl rfl (Pur.move rfl) ?_
            refine JO.pur rfl rfl rfl (Pur.move rfl) ?_
            refine JO.pur rfl rfl rfl (Pur.fieldAddr rfl) ?_
            refine JO.pur rfl rfl rfl (Pur.load rfl (CellIn.blk rfl)) ?_
            refine JO.pur rfl rfl rfl (Pur.lookup rfl rfl) ?_
            refine JO.setv (u' := .slice (ghdr (cfold xs i).given hsG (ev xs i).cell).a (ghdr (cfold xs i).given hsG (ev xs i).cell).n (ghdr (cfold xs i).given hsG (ev xs i).cell).cap) 58 rfl (ghdr_look _ _ _) ?_
            refine JO.fact (fun h s => RowsIn.n (hs := hsG) s) fun hnG => ?_
            refine JO.imp (fun h s => open_row (E := intE) hT rT s) ?_
            have nG : (ghdr (cfold xs i).given hsG (ev xs i).cell).n = (hs.getD (tk xs i) default).n := by rw [nT, hdr_n hnG hj1 hj2]; exact lG
            rw [nG]
            refine JO.eff rfl rfl rfl (Eff.callV rfl rfl (merge_c (RowsIn.row inferInstance hj1 hj2) (by omega) (by omega) (by omega))) ?_
            rintro _ _ ⟨B, ⟨rfl, rfl⟩, rfl⟩
            refine JO.nil ?_
            refine J.inBlock ?_
            have hc1 : cown1 (cfold xs i) (ev xs i) = List.zipWith max ((cfold xs i).now.getD (tk xs i) []) ((cfold xs i).out.getD (firstGive xs (ev xs i).cell) []) := by unfold cown1; dsimp only; rw [if_neg hJ, if_pos hGe, hgl]; rfl
            refine J.imp (fun h s => shut_row (E := intE) hT (by rw [nT, ← hw1, hc1]) s) ?_
            rw [← hc1]
            exact J.weaken (.cons rfl rfl (.cons rfl rfl (.cons rfl rfl (.cons rfl rfl (.cons rfl rfl (.cons rfl rfl (.cons rfl rfl (.cons rfl rfl (.cons rfl rfl .nil))))))))) (by first | exact fun _ h => h | exact SubC.out | (dsimp only; exact SubC.out)) (cut4 () trivial)
          · try simp only [decide_eq_true_eq, decide_eq_false_iff_not, Bool.not_eq_true', Bool.not_eq_false', Bool.and_eq_true, Bool.or_eq_true, Bool.and_eq_false_iff, Bool.or_eq_false_iff, Option.isNone_some, Option.isSome_some, Option.isNone_none, Option.isSome_none, Int.not_lt, Int.not_le, beq_iff_eq, beq_eq_false_iff_ne, bne_iff_ne, ne_eq, Bool.not_not, Decidable.not_not] at h51
            refine J.condF rfl rfl ?_
            refine J.skip rfl ?_
            refine J.inBlock ?_
            have hc1 : (cfold xs i).now = (cfold xs i).now.set (tk xs i) (cown1 (cfold xs i) (ev xs i)) := by unfold cown1; dsimp only; rw [if_neg (show (ev xs i).act ≠ sJoin from h41), if_neg (show (ev xs i).act ≠ sGet from h51)]; exact (set_same rT).symm
            refine J.imp (M := blk b10 (.cells #[.int .i64 (ev xs i).task, .string (ev xs i).act, .int .i64 (ev xs i).other, .string (ev xs i).cell] 41 (0, 0)) :: sl rowE (some ⟨b15, 0, none⟩) (many xs) hs :: rows intE hs ((cfold xs i).now.set (tk xs i) (cown1 (cfold xs i) (ev xs i))) :: mp strK b27 (gmap (cfold xs i).given hsG) :: rows intE hsG ((cfold xs i).given.map (·.2)) :: sl rowE a7 c7 hsO :: rows intE hsO (cfold xs i).out :: L) (fun h s => by rw [← hc1]; exact SubC.out h s) ?_
            exact J.weaken (.cons rfl rfl (.cons rfl rfl (.cons rfl rfl (.cons rfl rfl (.cons rfl rfl (.cons rfl rfl (.cons rfl rfl (.cons rfl rfl (.cons rfl rfl .nil))))))))) (by first | exact fun _ h => h | exact SubC.out | (dsimp only; exact SubC.out)) (cut4 () trivial)
    · try simp only [decide_eq_true_eq, decide_eq_false_iff_not, Bool.not_eq_true', Bool.not_eq_false', Bool.and_eq_true, Bool.or_eq_true, Bool.and_eq_false_iff, Bool.or_eq_false_iff, Option.isNone_some, Option.isSome_some, Option.isNone_none, Option.isSome_none, Int.not_lt, Int.not_le, beq_iff_eq, beq_eq_false_iff_ne, bne_iff_ne, ne_eq, Bool.not_not, Decidable.not_not] at h31
      refine J.condF rfl rfl ?_
      refine J.exit rfl rfl ?_
      refine J.seq rfl ?_
      refine J.region rfl ?_
      refine JO.pur rfl rfl rfl (Pur.move rfl) ?_
      refine JO.pur rfl rfl rfl (Pur.assign rfl) ?_
      refine JO.nil ?_
      refine J.ret rfl rfl ?_
      have hie : i = xs.length := by omega
      subst hie
      exact ⟨_, _, ⟨a7, c7, hsO, rfl, rfl⟩, rfl, fun h s => by unfold clks; exact SubC.out h s⟩

end Go.Proofs.Ytekgkamjbnfgiaa
