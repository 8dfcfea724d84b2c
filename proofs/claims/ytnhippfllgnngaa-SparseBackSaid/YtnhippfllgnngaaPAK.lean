/-
  A part of the proof of the claim that this folder bears.
-/
import Derived.Test.YtnhippfllgnngaaPAI
import Derived.Test.YtnhippfllgnngaaPAJ
import Derived.Test.YtnhippfllgnngaaKB
/- The text SM4. -/
set_option linter.unusedVariables false
set_option linter.unusedSimpArgs false
set_option maxRecDepth 10000
namespace Go.Proofs.Ytnhippfllgnngaa
open Go Go.KK Dm

theorem zip_fst_at {rs : List Rg} : ∀ {es : List (Int × Hdr)} {xss : List (List Int)}, es.map (·.1) = xss.map (atS rs) → ∀ g ∈ es.zip xss, g.1.1 = atS rs g.2
  | [], _, _, g, hg => by simp at hg
  | e :: es, [], h, g, hg => by simp at h
  | e :: es, x :: xss, h, g, hg => by
    simp only [List.map_cons, List.cons.injEq] at h
    simp only [List.zip_cons_cons, List.mem_cons] at hg
    rcases hg with rfl | hg
    · exact h.1
    · exact zip_fst_at h.2 g hg
theorem zip_back {α β : Type} : ∀ (l : List (α × β)), (l.map (·.1)).zip (l.map (·.2)) = l
  | [] => rfl
  | x :: l => by rw [List.map_cons, List.map_cons, List.zip_cons_cons, zip_back l]
theorem fst_zip {α β : Type} : ∀ {l : List α} {m : List β}, l.length = m.length → (l.zip m).map (·.1) = l ∧ (l.zip m).map (·.2) = m
  | [], [], _ => ⟨rfl, rfl⟩
  | [], _ :: _, h => by simp at h
  | _ :: _, [], h => by simp at h
  | x :: l, y :: m, h => by
    obtain ⟨a, b⟩ := fst_zip (l := l) (m := m) (by simpa using h)
    rw [List.zip_cons_cons, List.map_cons, List.map_cons, a, b]; exact ⟨rfl, rfl⟩
theorem zip_map_snd {α β γ : Type} (f : α → γ) : ∀ (l : List α) (m : List β), (l.map f).zip m = (l.zip m).map fun g => (f g.1, g.2)
  | [], _ => rfl
  | _ :: _, [] => rfl
  | x :: l, y :: m => by simp only [List.map_cons, List.zip_cons_cons, zip_map_snd f l m]
theorem plc_sort {rs : List Rg} {es ys : List (Int × Hdr)} {xss : List (List Int)} (h : es.map (·.1) = xss.map (atS rs)) (p : ys.Perm es) : ∃ yss : List (List Int), yss.Perm xss ∧ ys.map (·.1) = yss.map (atS rs) ∧ ys.length = yss.length ∧ ((ys.map (·.2)).zip yss).Perm ((es.map (·.2)).zip xss) := by
  have hl : es.length = xss.length := by have := congrArg List.length h; simpa using this
  obtain ⟨e1, e2⟩ := fst_zip hl
  obtain ⟨gs, pg, eg⟩ := perm_lift (ys := ys) (f := fun g : (Int × Hdr) × List Int => g.1) (gs := es.zip xss) (by rw [e1]; exact p)
  refine ⟨gs.map (·.2), by have := pg.map (·.2); rwa [e2] at this, ?_, by rw [← eg]; simp, ?_⟩
  · rw [← eg, List.map_map, List.map_map]
    apply List.map_congr_left
    intro g hg
    exact zip_fst_at h g (pg.mem_iff.1 hg)
  · rw [zip_map_snd, zip_map_snd, ← eg, zip_back]
    exact pg.map _
theorem s_places {L : List Asn} {a la : Option Addr} {n cap ln lc : Nat} {rs : List Rg} {hs : List Hdr} {xss : List (List Int)} [SlIn rgE L a rs] [SlIn hE L la hs] [RowsR intE L hs xss] (hn : n = rs.length) (hl : ln = hs.length) (hxb : xss.length ≤ 1000000) :
    CallS Try.prog 112 [.agg #[.slice a n cap], .slice la ln lc].toArray L (fun v M => ∃ es yss a' c', v = .tuple #[.slice a' es.length c', .bool (plcV rs xss).2] ∧ M = sl enE a' c' es :: rows intE (es.map (·.2)) yss :: L ∧ ((plcV rs xss).2 = true → es.map (·.1) = yss.map (atS rs) ∧ yss.Perm xss ∧ srtd enK es)) := by
  subst hn
  subst hl
  refine CallS.fact (fun h s => RowsR.len (E := intE) (hs := hs) (xss := xss) s) fun hnn => ?_
  have hhl : hs.length = xss.length := rows_len hnn
  refine CallS.ent ?_
  refine CallS.enter Try.func112 rfl rfl rfl rfl rfl ?_
  refine J.seq rfl ?_
  refine J.region rfl ?_
  refine JO.eff rfl rfl rfl (Eff.box (cs := [_]) rfl rfl) ?_
  rintro _ _ ⟨b2, rfl, rfl⟩
  refine JO.pur rfl rfl rfl (Pur.assign rfl) ?_
  refine JO.pur rfl rfl rfl (Pur.assign rfl) ?_
  refine JO.nil ?_
  refine J.seq rfl ?_
  refine J.region rfl ?_
  refine JO.pur rfl rfl rfl (Pur.assign rfl) ?_
  refine JO.nil ?_
  refine J.seq rfl ?_
  refine J.seq rfl ?_
  refine J.region rfl ?_
  refine JO.pur rfl rfl rfl (Pur.move rfl) ?_
  refine JO.pur rfl rfl rfl (Pur.len rfl) ?_
  refine JO.pur rfl rfl rfl (Pur.move rfl) ?_
  refine JO.nil ?_
  refine J.block rfl ?_
  refine J.loopF (ι := Nat × Option Addr × Nat × List (Int × Hdr)) (fun q => q.1 ≤ xss.length ∧ q.2.2.2.map (·.1) = (xss.take q.1).map (atS rs) ∧ ∀ j x, j < q.1 → xss[j]? = some x → (plV rs x).2 = 0) (fun q => [(6, .slice q.2.1 q.1 q.2.2.1), (13, .int .i64 (q.1 : Int))]) [(2, _), (11, _), (12, _)] (fun q => sl enE q.2.1 q.2.2.1 q.2.2.2 :: rows intE (q.2.2.2.map (·.2)) (xss.take (q.1)) :: blk b2 (.cells #[.slice a rs.length cap] 24) :: L) (fun q => xss.length - q.1) (0, none, 0, []) rfl (.cons rfl rfl (.cons rfl rfl (.cons rfl rfl .nil))) (.cons rfl rfl (.cons rfl rfl .nil)) (fun h s => by have s2 := sl_nil_new (E := enE) (rows_nil (E := intE) s); dsimp only; rw [List.take_zero, List.map_nil]; exact SubC.out (L := sl enE none 0 [] :: rows intE [] [] :: _) h s2) ⟨Nat.zero_le _, by simp, fun j x hj => absurd hj (Nat.not_lt_zero j)⟩ ?_
  rintro ⟨k, a6, c6, es⟩ ⟨hk, hes, hok⟩ ih0
  try dsimp only
  dsimp only at hk hes hok
  have hel : es.length = k := by have := congrArg List.length hes; rw [List.length_map, List.length_map, List.length_take] at this; omega
  refine J.seq rfl ?_
  refine J.region rfl ?_
  refine JO.pur rfl rfl rfl (Pur.lss rfl rfl) ?_
  refine JO.nil ?_
  refine J.seq rfl ?_
  refine J.splitB 14 rfl (fun h14 => ?_) (fun h14 => ?_)
  · try simp only [decide_eq_true_eq, decide_eq_false_iff_not, Bool.not_eq_true', Bool.not_eq_false', Bool.and_eq_true, Bool.or_eq_true, Bool.and_eq_false_iff, Bool.or_eq_false_iff, Option.isNone_some, Option.isSome_some, Option.isNone_none, Option.isSome_none, Int.not_lt, Int.not_le, beq_iff_eq, beq_eq_false_iff_ne, bne_iff_ne, ne_eq, Bool.not_not, Decidable.not_not] at h14
    have hkl : k < xss.length := by omega
    obtain ⟨x, hX⟩ : ∃ x, xss[k]? = some x := ⟨_, List.getElem?_eq_getElem (by omega)⟩
    obtain ⟨hd, hH⟩ : ∃ hd, hs[k]? = some hd := ⟨_, List.getElem?_eq_getElem (by omega)⟩
    have hdn := hdr_n hnn hH hX
    have hxm := List.mem_of_getElem? hX
    have hxg : xss.getD k [] = x := getD_of' hX
    have htk : xss.take (k + 1) = xss.take k ++ [x] := take_get hX
    refine J.fact (fun h s => RowsR.fit (E := intE) (hs := hs) (xss := xss) s hH hX) fun hfit => ?_
    refine J.condT rfl rfl ?_
    refine J.skip rfl ?_
    refine J.seq rfl ?_
    refine J.block rfl ?_
    refine J.seq rfl ?_
    refine J.region rfl ?_
    refine JO.pur rfl rfl rfl (Pur.idx rfl rfl rfl (by first | rfl | (simp; done) | omega) rfl (by omega)) ?_
    refine JO.pur rfl rfl rfl (Pur.load rfl (CellIn.el0 rfl hH rfl)) ?_
    refine JO.setv (u' := .slice hd.a x.length hd.cap) 16 rfl (by rw [← hdn]) ?_
    refine JO.pur rfl rfl rfl (Pur.assign rfl) ?_
    refine JO.nil ?_
    refine J.seq rfl ?_
    refine J.region rfl ?_
    refine JO.pur rfl rfl rfl (Pur.loadA rfl rfl rfl CellsIn.blk) ?_
    refine JO.pur rfl rfl rfl (Pur.move rfl) ?_
    refine JO.effR rfl rfl rfl (Eff.call rfl (@d_Place _ _ _ _ _ _ _ rs x inferInstance (RowsR.row (E := intE) inferInstance hH hX) rfl rfl)) ?_
    refine JO.pur rfl rfl rfl (Pur.move rfl) ?_
    refine JO.pur rfl rfl rfl (Pur.extract rfl rfl) ?_
    refine JO.setv (u' := .int .i64 (plV rs x).1) 21 rfl rfl ?_
    refine JO.pur rfl rfl rfl (Pur.extract rfl rfl) ?_
    refine JO.setv (u' := .int .i64 (plV rs x).2) 22 rfl rfl ?_
    refine JO.pur rfl rfl rfl (Pur.assign rfl) ?_
    refine JO.pur rfl rfl rfl (Pur.assign rfl) ?_
    refine JO.nil ?_
    refine J.seq rfl ?_
    refine J.seq rfl ?_
    refine J.region rfl ?_
    refine JO.pur rfl rfl rfl (Pur.move rfl) ?_
    refine JO.pur rfl rfl rfl (Pur.neqI rfl rfl) ?_
    refine JO.nil ?_
    refine J.splitB 24 rfl (fun h24 => ?_) (fun h24 => ?_)
    · try simp only [decide_eq_true_eq, decide_eq_false_iff_not, Bool.not_eq_true', Bool.not_eq_false', Bool.and_eq_true, Bool.or_eq_true, Bool.and_eq_false_iff, Bool.or_eq_false_iff, Option.isNone_some, Option.isSome_some, Option.isNone_none, Option.isSome_none, Int.not_lt, Int.not_le, beq_iff_eq, beq_eq_false_iff_ne, bne_iff_ne, ne_eq, Bool.not_not, Decidable.not_not] at h24
      have hbad : (plV rs x).2 ≠ 0 := by simpa using h24
      refine J.condT rfl rfl ?_
      refine J.seq rfl ?_
      refine J.region rfl ?_
      refine JO.pur rfl rfl rfl (Pur.assign rfl) ?_
      refine JO.pur rfl rfl rfl (Pur.assign rfl) ?_
      refine JO.nil ?_
      refine J.ret rfl rfl ?_
      have hv : plcV rs xss = ([], false) := plcV_no (fun g => hbad (g x hxm))
      refine ⟨_, _, ⟨[], [], none, 0, by rw [hv]; rfl, rfl, fun g => by rw [hv] at g; cases g⟩, rfl, fun h s => ?_⟩
      exact sl_nil_new (rows_nil (SubC.out h s))
    · try simp only [decide_eq_true_eq, decide_eq_false_iff_not, Bool.not_eq_true', Bool.not_eq_false', Bool.and_eq_true, Bool.or_eq_true, Bool.and_eq_false_iff, Bool.or_eq_false_iff, Option.isNone_some, Option.isSome_some, Option.isNone_none, Option.isSome_none, Int.not_lt, Int.not_le, beq_iff_eq, beq_eq_false_iff_ne, bne_iff_ne, ne_eq, Bool.not_not, Decidable.not_not] at h24
      have hgd : (plV rs x).2 = 0 := by simpa using h24
      have hok2 : ∀ j y, j < k + 1 → xss[j]? = some y → (plV rs y).2 = 0 := fun j y hj hy => by
        rcases Nat.lt_or_ge j k with h | h
        · exact hok j y h hy
        · obtain rfl : j = k := by omega
          rw [hX] at hy; rw [← Option.some.inj hy]; exact hgd
      have hrok : okD rs := by
        by_cases hd' : okD rs
        · exact hd'
        · unfold plV at hgd; rw [if_pos hd'] at hgd; cases hgd
      have hxs := (plV_ok hrok x).1.1 hgd
      have hxl : x.length = rs.length := by unfold plD at hxs; by_cases e : x.length = rs.length; exact e; rw [if_neg e] at hxs; cases hxs
      have hr3 := hrok.2.1
      refine J.condF rfl rfl ?_
      refine J.skip rfl ?_
      have hpa : (plV rs x).1 = atS rs x := by rw [(plV_ok hrok x).2 hxs]
      rw [hpa]
      refine J.region rfl ?_
      refine JO.pur rfl rfl rfl (Pur.move rfl) ?_
      refine JO.pur rfl rfl rfl (Pur.move rfl) ?_
      refine JO.pur rfl rfl rfl (Pur.move rfl) ?_
      refine JO.eff rfl rfl rfl (Eff.call rfl (@cloneI _ _ _ _ x (RowsR.row (E := intE) inferInstance hH hX) rfl (by omega) (fun e => by have := hfit.1 e; rw [hdn] at this; exact this))) ?_
      rintro _ _ ⟨a28, c28, ⟨rfl, -⟩, rfl⟩
      refine JO.pur rfl rfl rfl (Pur.build (cs := [_, _]) rfl rfl) ?_
      refine JO.eff rfl rfl rfl (Eff.buildSlice enE [(atS rs x, ⟨a28, x.length, c28⟩)] rfl rfl rfl rfl rfl rfl rfl) ?_
      rintro _ _ ⟨b30, rfl, -, rfl⟩
      refine JO.eff rfl rfl rfl (Eff.append rfl rfl rfl rfl (by first | rfl | omega | (simp; done) | (simp; omega)) (by first | rfl | omega | (simp; done) | (simp; omega)) (by decide) (by simp; omega) (by simp; omega) (fun h => by cases h)) ?_
      rintro _ _ ⟨a31, c31, rfl, rfl⟩
      refine JO.pur rfl rfl rfl (Pur.assign rfl) ?_
      refine JO.nil ?_
      refine J.inBlock ?_
      refine J.region rfl ?_
      refine JO.pur rfl rfl rfl (Pur.add rfl rfl (wr64 (by omega))) ?_
      refine JO.pur rfl rfl rfl (Pur.move rfl) ?_
      refine JO.nil ?_
      exact J.weaken (.cons rfl (by show Value.slice a31 _ c31 = Value.slice a31 (k + 1) c31; simp [hel]) (.cons rfl (congrArg (Value.int .i64) (by first | rfl | (dsimp only; omega))) (.cons rfl rfl (.cons rfl rfl (.cons rfl rfl .nil))))) (fun h s => by have s2 := snoc_row (E := intE) (a := a28) (n := x.length) (cap := c28) (xs := x) (hs := es.map (·.2)) (xss := xss.take k) rfl s; dsimp only; rw [List.map_append, htk, List.map_singleton]; exact SubC.out h s2) (ih0 (k + 1, a31, c31, es ++ [(atS rs x, ⟨a28, x.length, c28⟩)]) ⟨by dsimp only; omega, by dsimp only; rw [List.map_append, hes, htk, List.map_append]; rfl, hok2⟩ (by dsimp only; omega))
  · try simp only [decide_eq_true_eq, decide_eq_false_iff_not, Bool.not_eq_true', Bool.not_eq_false', Bool.and_eq_true, Bool.or_eq_true, Bool.and_eq_false_iff, Bool.or_eq_false_iff, Option.isNone_some, Option.isSome_some, Option.isNone_none, Option.isSome_none, Int.not_lt, Int.not_le, beq_iff_eq, beq_eq_false_iff_ne, bne_iff_ne, ne_eq, Bool.not_not, Decidable.not_not] at h14
    have hke : k = xss.length := by omega
    rw [List.take_of_length_le (by omega)] at hes
    refine J.condF rfl rfl ?_
    refine J.exit rfl rfl ?_
    refine J.seq rfl ?_
    refine J.region rfl ?_
    refine JO.pur rfl rfl rfl (Pur.move rfl) ?_
    refine JO.eff rfl rfl rfl (Eff.call rfl (sortS_ok (es := es) hel.symm (by omega))) ?_
    rintro _ _ ⟨ys, rfl, hpy, hys, rfl⟩
    refine JO.nil ?_
    refine J.seq rfl ?_
    refine J.region rfl ?_
    refine JO.pur rfl rfl rfl (Pur.move rfl) ?_
    refine JO.pur rfl rfl rfl (Pur.assign rfl) ?_
    refine JO.pur rfl rfl rfl (Pur.assign rfl) ?_
    refine JO.nil ?_
    refine J.ret rfl rfl ?_
    have hv : plcV rs xss = (xss.map (atS rs), true) := plcV_yes (fun x hx => by obtain ⟨j, hj, e⟩ := List.getElem_of_mem hx; exact hok j x (by omega) (by rw [List.getElem?_eq_getElem hj, e]))
    obtain ⟨yss, py, ey, ly, pz⟩ := plc_sort hes hpy
    refine ⟨_, _, ⟨ys, yss, a6, c6, by rw [hv, hpy.length_eq, hel]; rfl, rfl, fun _ => ⟨ey, py, hys⟩⟩, rfl, fun h s => ?_⟩
    rw [List.take_of_length_le (by omega)] at s
    have s2 : Sat h (rows intE (es.map (·.2)) xss :: sl enE a6 c6 ys :: L) := SubC.out h s
    have s3 := rows_perm (by rw [List.length_map]; exact ly) pz s2
    exact SubC.out h s3

theorem list_ok {L : List Asn} {a : Option Addr} {n cap : Nat} {es : List (Int × Hdr)} [SlIn enE L a es] (hn : n = es.length) (hes : es.length ≤ 1000000) :
    CallS Try.prog 113 [.slice a n cap].toArray L (fun v M => ∃ a' c', v = .slice a' es.length c' ∧ M = sl hE a' c' (es.map (·.2)) :: L) := by
  subst hn
  refine CallS.ent ?_
  refine CallS.enter Try.func113 rfl rfl rfl rfl rfl ?_
  refine J.seq rfl ?_
  refine J.region rfl ?_
  refine JO.pur rfl rfl rfl (Pur.assign rfl) ?_
  refine JO.nil ?_
  refine J.seq rfl ?_
  refine J.region rfl ?_
  refine JO.pur rfl rfl rfl (Pur.assign rfl) ?_
  refine JO.nil ?_
  refine J.seq rfl ?_
  refine J.seq rfl ?_
  refine J.region rfl ?_
  refine JO.pur rfl rfl rfl (Pur.move rfl) ?_
  refine JO.pur rfl rfl rfl (Pur.len rfl) ?_
  refine JO.pur rfl rfl rfl (Pur.move rfl) ?_
  refine JO.nil ?_
  refine J.block rfl ?_
  refine J.loopF (ι := Nat × Option Addr × Nat) (fun q => q.1 ≤ es.length) (fun q => [(3, .slice q.2.1 q.1 q.2.2), (8, .int .i64 (q.1 : Int))]) [(6, _), (7, _)] (fun q => sl hE q.2.1 q.2.2 ((es.map (·.2)).take q.1) :: L) (fun q => es.length - q.1) (0, none, 0) rfl (.cons rfl rfl (.cons rfl rfl .nil)) (.cons rfl rfl (.cons rfl rfl .nil)) (fun h s => by have s2 := sl_nil_new (E := hE) s; exact SubC.out (L := sl hE none 0 [] :: _) (M := sl hE none 0 [] :: _) h s2) (Nat.zero_le _) ?_
  rintro ⟨k, a3, c3⟩ hk ih0
  try dsimp only
  dsimp only at hk
  have htl : ((es.map (·.2)).take k).length = k := by rw [List.length_take, List.length_map]; omega
  refine J.seq rfl ?_
  refine J.region rfl ?_
  refine JO.pur rfl rfl rfl (Pur.lss rfl rfl) ?_
  refine JO.nil ?_
  refine J.seq rfl ?_
  refine J.splitB 9 rfl (fun h9 => ?_) (fun h9 => ?_)
  · try simp only [decide_eq_true_eq, decide_eq_false_iff_not, Bool.not_eq_true', Bool.not_eq_false', Bool.and_eq_true, Bool.or_eq_true, Bool.and_eq_false_iff, Bool.or_eq_false_iff, Option.isNone_some, Option.isSome_some, Option.isNone_none, Option.isSome_none, Int.not_lt, Int.not_le, beq_iff_eq, beq_eq_false_iff_ne, bne_iff_ne, ne_eq, Bool.not_not, Decidable.not_not] at h9
    have hkl : k < es.length := by omega
    obtain ⟨e, hE_⟩ : ∃ e, es[k]? = some e := ⟨_, List.getElem?_eq_getElem hkl⟩
    have hap : (es.map (·.2)).take (k + 1) = (es.map (·.2)).take k ++ [e.2] := take_get (by rw [List.getElem?_map, hE_]; rfl)
    refine J.condT rfl rfl ?_
    refine J.skip rfl ?_
    refine J.seq rfl ?_
    refine J.block rfl ?_
    refine J.seq rfl ?_
    refine J.region rfl ?_
    refine JO.pur rfl rfl rfl (Pur.idx rfl rfl rfl (by first | rfl | (simp; done) | omega) rfl (by omega)) ?_
    refine JO.pur rfl rfl rfl (Pur.loadA rfl rfl rfl (CellsIn.el rfl hE_)) ?_
    refine JO.setv (u' := enV e) 11 rfl rfl ?_
    refine JO.eff rfl rfl rfl (Eff.alloc (cs := [_, _]) rfl) ?_
    rintro _ _ ⟨b5, rfl, rfl⟩
    refine JO.effN rfl rfl (Eff.storeBA (cs' := [_, _]) rfl rfl (by rfl) (by rfl) (by rfl)) ?_
    rintro _ _ ⟨rfl, rfl⟩
    refine JO.nil ?_
    refine J.region rfl ?_
    refine JO.pur rfl rfl rfl (Pur.move rfl) ?_
    refine JO.pur rfl rfl rfl (Pur.fieldAddr rfl) ?_
    refine JO.pur rfl rfl rfl (Pur.load rfl (CellIn.blk rfl)) ?_
    refine JO.eff rfl rfl rfl (Eff.buildSlice hE [e.2] rfl rfl rfl rfl rfl rfl rfl) ?_
    rintro _ _ ⟨b15, rfl, -, rfl⟩
    refine JO.eff rfl rfl rfl (Eff.append rfl rfl rfl rfl (by first | rfl | omega | (simp; done) | (simp; omega)) (by first | rfl | omega | (simp; done) | (simp; omega)) (by decide) (by simp; omega) (by simp; omega) (fun h => by cases h)) ?_
    rintro _ _ ⟨a16, c16, rfl, rfl⟩
    refine JO.pur rfl rfl rfl (Pur.assign rfl) ?_
    refine JO.nil ?_
    refine J.inBlock ?_
    refine J.region rfl ?_
    refine JO.pur rfl rfl rfl (Pur.add rfl rfl (wr64 (by omega))) ?_
    refine JO.pur rfl rfl rfl (Pur.move rfl) ?_
    refine JO.nil ?_
    exact J.weaken (.cons rfl (by show Value.slice a16 _ c16 = Value.slice a16 (k + 1) c16; rw [htl]; rfl) (.cons rfl (congrArg (Value.int .i64) (by first | rfl | (dsimp only; omega))) (.cons rfl rfl (.cons rfl rfl .nil)))) (fun h s => by dsimp only; rw [hap]; exact SubC.out h s) (ih0 (k + 1, a16, c16) (by dsimp only; omega) (by dsimp only; omega))
  · try simp only [decide_eq_true_eq, decide_eq_false_iff_not, Bool.not_eq_true', Bool.not_eq_false', Bool.and_eq_true, Bool.or_eq_true, Bool.and_eq_false_iff, Bool.or_eq_false_iff, Option.isNone_some, Option.isSome_some, Option.isNone_none, Option.isSome_none, Int.not_lt, Int.not_le, beq_iff_eq, beq_eq_false_iff_ne, bne_iff_ne, ne_eq, Bool.not_not, Decidable.not_not] at h9
    have hke : k = es.length := by omega
    refine J.condF rfl rfl ?_
    refine J.exit rfl rfl ?_
    refine J.seq rfl ?_
    refine J.region rfl ?_
    refine JO.pur rfl rfl rfl (Pur.move rfl) ?_
    refine JO.pur rfl rfl rfl (Pur.assign rfl) ?_
    refine JO.nil ?_
    refine J.ret rfl rfl ?_
    refine ⟨_, _, ⟨a3, c3, rfl, rfl⟩, by rw [hke]; rfl, fun h s => ?_⟩
    rw [List.take_of_length_le (by rw [List.length_map]; omega)] at s
    exact SubC.out h s

end Go.Proofs.Ytnhippfllgnngaa

/- The text SM5. -/
set_option linter.unusedVariables false
set_option linter.unusedSimpArgs false
set_option maxRecDepth 10000
namespace Go.Proofs.Ytnhippfllgnngaa
open Go Go.KK Dm

def lE : Enc Hdr := hdrE 25
def cat2 (hs gs : List Hdr) (q : Nat) : List Hdr := if q = 0 then [] else if q = 1 then hs else hs ++ gs
end Go.Proofs.Ytnhippfllgnngaa

/- The text SpPlainC. -/
set_option linter.unusedVariables false
set_option linter.unusedSimpArgs false
namespace Go.Proofs.Ytnhippfllgnngaa
open Go Go.KK Dm
theorem srt_pw {rs : List Rg} {es : List (Int × Hdr)} {zs : List (List Int)} {r : Int → Int → Prop} (h : es.map (·.1) = zs.map (atS rs)) (hp : es.Pairwise fun x y => r (enK x) (enK y)) : zs.Pairwise fun x y => r (atS rs x) (atS rs y) := by
  have h1 : (es.map (·.1)).Pairwise r := List.pairwise_map.2 hp
  rw [h] at h1
  exact List.pairwise_map.1 h1
abbrev SpRn := (List Rg × List (List Int)) × Int
/-- All indexes of a list added. -/
def addS (rs : List Rg) (xss yss : List (List Int)) : SpRn := if ¬ okS rs xss then (([], []), 50) else if ¬ ∀ y ∈ yss, (plV rs y).2 = 0 then (([], []), 2) else
  if 400 < (madeL rs ((xss ++ yss).map (atS rs))).length then (([], []), 4) else ((rs, madeL rs ((xss ++ yss).map (atS rs))), 0)
def addN (rs : List Rg) (xss yss : List (List Int)) : Int := if (addS rs xss yss).2 ≠ 0 then 0 else ((addS rs xss yss).1.2.length : Int) - (xss.length : Int)
instance RowsR.app {α : Type} {E : Enc α} {L : List Asn} {hs gs : List Hdr} {xss yss : List (List α)} [h1 : RowsR E L hs xss] [h2 : RowsR E L gs yss] : RowsR E L (hs ++ gs) (xss ++ yss) := ⟨fun h s => by
  obtain ⟨a1, b1⟩ := h1.out h s
  obtain ⟨a2, b2⟩ := h2.out h s
  have hl : hs.length = xss.length := rows_len a1
  refine ⟨by rw [List.map_append, List.map_append, a1, a2], fun i hd xs e1 e2 => ?_⟩
  by_cases hi : i < hs.length
  · rw [List.getElem?_append_left hi] at e1
    rw [List.getElem?_append_left (by omega)] at e2
    exact b1 i hd xs e1 e2
  · rw [List.getElem?_append_right (by omega)] at e1
    rw [List.getElem?_append_right (by omega), ← hl] at e2
    exact b2 _ hd xs e1 e2⟩
end Go.Proofs.Ytnhippfllgnngaa

/- The text SJ4. -/
set_option linter.unusedVariables false
set_option linter.unusedSimpArgs false
set_option maxRecDepth 10000
namespace Go.Proofs.Ytnhippfllgnngaa
open Go Go.KK Dm

abbrev SpR := (List Rg × List (List Int)) × Int
def newS (rs : List Rg) : SpR := if ¬ okD rs then (([], []), 50) else ((rs, []), 0)
def denS (rs : List Rg) : SpR := if ¬ okD rs then (([], []), 50) else if 400 < cntD rs then (([], []), 4) else ((rs, idx rs), 0)
def prtS (rs : List Rg) (xss : List (List Int)) (ss : List Rg) : SpR := if ¬ (okS rs xss ∧ okD ss) then (([], []), 50) else if ss.length ≠ rs.length then (([], []), 2) else ((rs, xss.filter fun x => (hasV ss x).1), 0)
end Go.Proofs.Ytnhippfllgnngaa

/- The text SM6. -/
set_option linter.unusedVariables false
set_option linter.unusedSimpArgs false
set_option maxRecDepth 10000
namespace Go.Proofs.Ytnhippfllgnngaa
open Go Go.KK Dm

end Go.Proofs.Ytnhippfllgnngaa

/- The text SK1. -/
set_option linter.unusedVariables false
set_option linter.unusedSimpArgs false
set_option maxRecDepth 10000
namespace Go.Proofs.Ytnhippfllgnngaa
open Go Go.KK Dm

/-- A pair's number. -/
def nthP (w : Nat) (p : Int × Int) : Int := if w = 0 then p.1 else p.2
def pickP (l : List (Int × Int)) (w k : Nat) : List Int := (l.filter fun p => decide (nthP w p = (k : Int))).map (nthP (1 - w))
def othK (l : List (Int × Int)) (w k : Nat) : List Int := (List.range k).flatMap (pickP l w)
def stsK (l : List (Int × Int)) (w k : Nat) : List Int := (List.range (k + 1)).map fun i => ((othK l w i).length : Int)
theorem othK_succ (l : List (Int × Int)) (w k : Nat) : othK l w (k + 1) = othK l w k ++ pickP l w k := by unfold othK; rw [List.range_succ, List.flatMap_append]; simp
theorem stsK_len (l : List (Int × Int)) (w k : Nat) : (stsK l w k).length = k + 1 := by simp [stsK]
def tabL (d : List Rg) (xss : List (List Int)) : List (Int × Int) := xss.map fun x => (memS d 0 (x.getD 0 0), memS d 1 (x.getD 1 0))
end Go.Proofs.Ytnhippfllgnngaa

/- The text SpPlain4. -/
set_option linter.unusedVariables false
set_option linter.unusedSimpArgs false
/-! Compressed by rows: the counts and the reference's lists. -/
namespace Go.Proofs.Ytnhippfllgnngaa
open Go Go.KK Dm
theorem filter_lt_succ {α : Type} (f : α → Int) (k : Int) : ∀ {l : List α}, (l.Pairwise fun p q => f p ≤ f q) → (l.filter fun p => decide (f p < k)) ++ (l.filter fun p => decide (f p = k)) = l.filter fun p => decide (f p < k + 1)
  | [], _ => rfl
  | a :: l, h => by
    obtain ⟨h1, h2⟩ := List.pairwise_cons.1 h
    have ih := filter_lt_succ f k h2
    have hd : decide (f a < k + 1) = (decide (f a < k) || decide (f a = k)) := by
      by_cases c1 : f a < k
      · rw [decide_eq_true c1, decide_eq_true (by omega : f a < k + 1)]; rfl
      · by_cases c2 : f a = k
        · rw [decide_eq_true c2, decide_eq_true (by omega : f a < k + 1), decide_eq_false c1]; rfl
        · rw [decide_eq_false c2, decide_eq_false (by omega : ¬ f a < k + 1), decide_eq_false c1]; rfl
    simp only [List.filter_cons, hd]
    by_cases c1 : f a < k
    · have c2 : ¬ f a = k := by omega
      rw [decide_eq_true c1, decide_eq_false c2]
      simp only [Bool.true_or, if_true, Bool.false_eq_true, if_false, List.cons_append]
      rw [ih]
    · by_cases c2 : f a = k
      · have e0 : l.filter (fun p => decide (f p < k)) = [] := List.filter_eq_nil_iff.2 fun p hp => by have := h1 p hp; simp; omega
        rw [decide_eq_true c2, decide_eq_false c1]
        simp only [Bool.or_true, if_true, Bool.false_eq_true, if_false]
        rw [e0] at ih ⊢
        rw [← ih]; rfl
      · rw [decide_eq_false c2, decide_eq_false c1]
        simp only [Bool.or_false, if_true, Bool.false_eq_true, if_false]
        exact ih
/-- Lists that stand in order are put together in order. -/
theorem othK_sorted {ps : List (Int × Int)} {w : Nat} (hs : ps.Pairwise fun p q => nthP w p ≤ nthP w q) (h0 : ∀ p ∈ ps, 0 ≤ nthP w p) : ∀ k : Nat, othK ps w k = (ps.filter fun p => decide (nthP w p < (k : Int))).map (nthP (1 - w))
  | 0 => by
    have : ps.filter (fun p => decide (nthP w p < ((0 : Nat) : Int))) = [] := List.filter_eq_nil_iff.2 fun p hp => by have := h0 p hp; simp; omega
    rw [this]; rfl
  | k + 1 => by
    rw [othK_succ, othK_sorted hs h0 k]
    unfold pickP
    rw [← List.map_append, filter_lt_succ (nthP w) (k : Int) hs]; rfl
theorem othK_cnt (ps : List (Int × Int)) (w : Nat) (h0 : ∀ p ∈ ps, 0 ≤ nthP w p) : ∀ k : Nat, (othK ps w k).length = ps.countP fun p => decide (nthP w p < (k : Int))
  | 0 => by
    have : ps.countP (fun p => decide (nthP w p < ((0 : Nat) : Int))) = 0 := List.countP_eq_zero.2 fun p hp => by have := h0 p hp; simp; omega
    rw [this]; rfl
  | k + 1 => by
    rw [othK_succ, List.length_append, othK_cnt ps w h0 k]
    unfold pickP
    rw [List.length_map, ← List.countP_eq_length_filter]
    clear h0
    induction ps with
    | nil => rfl
    | cons a l ih =>
      simp only [List.countP_cons]
      have hd : decide (nthP w a < ((k + 1 : Nat) : Int)) = (decide (nthP w a < (k : Int)) || decide (nthP w a = (k : Int))) := by
        by_cases c1 : nthP w a < (k : Int)
        · rw [decide_eq_true c1, decide_eq_true (by omega : nthP w a < ((k + 1 : Nat) : Int))]; rfl
        · by_cases c2 : nthP w a = (k : Int)
          · rw [decide_eq_true c2, decide_eq_true (by omega : nthP w a < ((k + 1 : Nat) : Int)), decide_eq_false c1]; rfl
          · rw [decide_eq_false c2, decide_eq_false (by omega : ¬ nthP w a < ((k + 1 : Nat) : Int)), decide_eq_false c1]; rfl
      rw [hd]
      by_cases c1 : nthP w a < (k : Int)
      · have c2 : ¬ nthP w a = (k : Int) := by omega
        rw [decide_eq_true c1, decide_eq_false c2]
        simp only [Bool.true_or, if_true, Bool.false_eq_true, if_false]; omega
      · by_cases c2 : nthP w a = (k : Int)
        · rw [decide_eq_true c2, decide_eq_false c1]
          simp only [Bool.or_true, if_true, Bool.false_eq_true, if_false]; omega
        · rw [decide_eq_false c2, decide_eq_false c1]
          simp only [Bool.or_false, Bool.false_eq_true, if_false]; omega
/-- The counts, summed up. -/
theorem cntL_take {d : List Rg} {n : Nat} (xss : List (List Int)) (h : ∀ x ∈ xss, rowN d x < n) (j : Nat) : ((cntL d n xss).take (j + 1)).sum = ((xss.countP fun x => decide (rowN d x < j) : Nat) : Int) := by
  revert h
  refine snoc_ind' (P := fun xss => (∀ x ∈ xss, rowN d x < n) → ((cntL d n xss).take (j + 1)).sum = ((xss.countP fun x => decide (rowN d x < j) : Nat) : Int)) ?_ (fun l z ih h => ?_) xss
  · intro _
    unfold cntL
    rw [List.foldl_nil, List.take_replicate]
    simp
  · have h1 := ih (fun x hx => h x (List.mem_append_left _ hx))
    have hz := h z (by simp)
    have hl := cntL_len d n l
    rw [cntL_snoc, List.countP_append]
    unfold incL
    rw [List.take_set]
    by_cases c : rowN d z < j
    · have hlt : rowN d z + 1 < ((cntL d n l).take (j + 1)).length := by rw [List.length_take]; omega
      rw [sum_set hlt, h1]
      have hg : ((cntL d n l).take (j + 1)).getD (rowN d z + 1) 0 = (cntL d n l).getD (rowN d z + 1) 0 := by
        rw [List.getD_eq_getElem?_getD, List.getElem?_take, if_pos (by omega), ← List.getD_eq_getElem?_getD]
      rw [hg]
      simp [c]; omega
    · rw [List.set_eq_of_length_le (by rw [List.length_take]; omega), h1]
      simp [c]
end Go.Proofs.Ytnhippfllgnngaa
namespace Go.Proofs.Ytnhippfllgnngaa
open Go Go.KK Dm
theorem okS_pw' {rs : List Rg} {xss : List (List Int)} (h : okS rs xss) : xss.Pairwise fun x y => atS rs x < atS rs y := by
  rw [List.pairwise_iff_getElem]
  intro i j hi hj hij
  have := okS_asc h j i hij hj
  rwa [List.getD_eq_getElem?_getD, List.getD_eq_getElem?_getD, List.getElem?_eq_getElem hi, List.getElem?_eq_getElem hj] at this
/-- A place by row and column. -/
theorem at_rc {rs : List Rg} (h : okD rs) (hl : rs.length = 2) {x : List Int} (hx : (plD rs x).isSome = true) :
    ∃ i j, memS (canD rs) 0 (x.getD 0 0) = ((i : Nat) : Int) ∧ memS (canD rs) 1 (x.getD 1 0) = ((j : Nat) : Int) ∧ i < cnt ((canD rs).getD 0 default) ∧ j < cnt ((canD rs).getD 1 default) ∧ atS rs x = ((i * cnt ((canD rs).getD 1 default) + j : Nat) : Int) := by
  obtain ⟨i, e0, m0, l0⟩ := mem_one h hx (k := 0) (by omega)
  obtain ⟨j, e1, m1, l1⟩ := mem_one h hx (k := 1) (by omega)
  refine ⟨i, j, m0, m1, l0, l1, ?_⟩
  have hne : rs ≠ [] := fun e => by rw [e] at hl; simp at hl
  have hxl : x.length = rs.length := by
    unfold plD at hx
    by_cases e : x.length = rs.length
    · exact e
    · rw [if_neg e] at hx; cases hx
  unfold atS
  rw [← plD_can h.2.2.1 hne x]
  unfold plD
  rw [if_pos (by rw [canD_len]; exact hxl), canD_len, hl]
  have e0' : plR ((canD rs).getD 0 default) (x.getD 0 default) = some i := e0
  have e1' : plR ((canD rs).getD 1 default) (x.getD 1 default) = some j := e1
  have k1 : plK (canD rs) x 1 = some i := by
    show (match plK (canD rs) x 0, plR ((canD rs).getD 0 default) (x.getD 0 default) with | some a, some i => some (a * cnt ((canD rs).getD 0 default) + i) | _, _ => none) = _
    rw [e0']; show some (0 * _ + i) = _; rw [Nat.zero_mul, Nat.zero_add]
  have k2 : plK (canD rs) x 2 = some (i * cnt ((canD rs).getD 1 default) + j) := by
    show (match plK (canD rs) x 1, plR ((canD rs).getD 1 default) (x.getD 1 default) with | some a, some i => some (a * cnt ((canD rs).getD 1 default) + i) | _, _ => none) = _
    rw [k1, e1']
  rw [k2]; rfl
theorem tab_sorted {rs : List Rg} {xss : List (List Int)} (h : okS rs xss) (hl : rs.length = 2) : (tabL (canD rs) xss).Pairwise fun p q => nthP 0 p ≤ nthP 0 q := by
  unfold tabL
  rw [List.pairwise_map]
  refine (okS_pw' h).imp_of_mem ?_
  intro x y hx hy hlt
  obtain ⟨i, j, m0, m1, l0, l1, e⟩ := at_rc h.1 hl (okS_some h hx)
  obtain ⟨i', j', m0', m1', l0', l1', e'⟩ := at_rc h.1 hl (okS_some h hy)
  show memS _ 0 _ ≤ memS _ 0 _
  rw [m0, m0']
  rw [e, e'] at hlt
  have h3 : i * cnt ((canD rs).getD 1 default) + j < i' * cnt ((canD rs).getD 1 default) + j' := by omega
  have : i ≤ i' := Nat.le_of_not_lt fun g => by
    have := Nat.mul_le_mul_right (cnt ((canD rs).getD 1 default)) (show i' + 1 ≤ i by omega)
    rw [Nat.add_mul, Nat.one_mul] at this; omega
  omega
theorem tab_bnd {rs : List Rg} {xss : List (List Int)} (h : okS rs xss) (hl : rs.length = 2) {p : Int × Int} (hp : p ∈ tabL (canD rs) xss) : 0 ≤ nthP 0 p ∧ nthP 0 p < (cnt ((canD rs).getD 0 default) : Int) := by
  obtain ⟨x, hx, rfl⟩ := List.mem_map.1 hp
  obtain ⟨i, j, m0, m1, l0, l1, e⟩ := at_rc h.1 hl (okS_some h hx)
  show 0 ≤ memS _ 0 _ ∧ memS _ 0 _ < _
  rw [m0]; omega
theorem rowsV_eq {rs : List Rg} {xss : List (List Int)} (h : okS rs xss) (hl : rs.length = 2) {R : Nat} (hR : ctV (oneR (canD rs) 0) = (R : Int)) : rowsV rs xss = (stsK (tabL (canD rs) xss) 0 R, othK (tabL (canD rs) xss) 0 R, 0) := by
  obtain ⟨ho0, hc0, hb0⟩ := one_ok h.1 (k := 0) (by omega)
  have hRc : R = cnt ((canD rs).getD 0 default) := by rw [hc0] at hR; omega
  have hrow : ∀ x ∈ xss, memS (canD rs) 0 (x.getD 0 0) = ((rowN (canD rs) x : Nat) : Int) ∧ rowN (canD rs) x < R := fun x hx => by
    obtain ⟨i, h1, h2, h3⟩ := mem_one h.1 (okS_some h hx) (k := 0) (by omega)
    have e : rowN (canD rs) x = i := by unfold rowN; rw [h2]; rfl
    rw [e, hRc]; exact ⟨h2, h3⟩
  have hRn : (ctV (oneR (canD rs) 0)).toNat = R := by rw [hR]; rfl
  unfold rowsV
  rw [if_neg (not_not_intro h), if_neg (not_not_intro hl), hRn]
  have hA : othK (tabL (canD rs) xss) 0 R = colL (canD rs) xss := by
    rw [othK_sorted (tab_sorted h hl) (fun p hp => (tab_bnd h hl hp).1) R, List.filter_eq_self.2 (fun p hp => decide_eq_true (by rw [hRc]; exact (tab_bnd h hl hp).2))]
    unfold tabL colL
    rw [List.map_map]; rfl
  have hB : preL (cntL (canD rs) R xss) R = stsK (tabL (canD rs) xss) 0 R := by
    apply List.ext_getElem?
    intro j
    have hcl := cntL_len (canD rs) R xss
    by_cases hj : j < R + 1
    · rw [preL_get (by omega), if_pos (by omega), cntL_take xss (fun x hx => (hrow x hx).2)]
      unfold stsK
      rw [List.getElem?_map, List.getElem?_range hj]
      rw [Option.map_some]
      rw [othK_cnt _ 0 (fun p hp => (tab_bnd h hl hp).1)]
      unfold tabL
      rw [List.countP_map]
      congr 2
      refine List.countP_congr fun x hx => ?_
      simp only [Function.comp, decide_eq_true_eq]
      show _ ↔ memS _ 0 _ < _
      rw [(hrow x hx).1]; omega
    · rw [List.getElem?_eq_none (by rw [preL_len]; omega), List.getElem?_eq_none (by rw [stsK_len]; omega)]
  rw [hA, hB]
end Go.Proofs.Ytnhippfllgnngaa

/- The text SK2. -/
set_option linter.unusedVariables false
set_option linter.unusedSimpArgs false
set_option maxRecDepth 10000
namespace Go.Proofs.Ytnhippfllgnngaa
open Go Go.KK Dm

end Go.Proofs.Ytnhippfllgnngaa

/- The text SK3. -/
set_option linter.unusedVariables false
set_option linter.unusedSimpArgs false
set_option maxRecDepth 10000
namespace Go.Proofs.Ytnhippfllgnngaa
open Go Go.KK Dm

theorem less_ok {L : List Asn} {x y : Int} :
    CallS Try.prog 146 [.int .i64 x, .int .i64 y].toArray L (fun v M => v = .bool (decide (x < y)) ∧ M = L) := by
  refine CallS.ent ?_
  refine CallS.enter Try.func146 rfl rfl rfl rfl rfl ?_
  refine J.seq rfl ?_
  refine J.region rfl ?_
  refine JO.pur rfl rfl rfl (Pur.assign rfl) ?_
  refine JO.nil ?_
  refine J.seq rfl ?_
  refine J.region rfl ?_
  refine JO.pur rfl rfl rfl (Pur.move rfl) ?_
  refine JO.effR rfl rfl rfl (Eff.call rfl (isNaN_ok)) ?_
  refine JO.setv (u' := .bool false) 6 rfl (congrArg Value.bool (rfl)) ?_
  refine JO.pur rfl rfl rfl (Pur.move rfl) ?_
  refine JO.no rfl rfl rfl ?_
  refine JO.no rfl rfl rfl ?_
  refine JO.no rfl rfl rfl ?_
  refine JO.pur rfl rfl rfl (Pur.pickF rfl rfl) ?_
  refine JO.pur rfl rfl rfl (Pur.move rfl) ?_
  refine JO.pur rfl rfl rfl (Pur.move rfl) ?_
  refine JO.pur rfl rfl rfl (Pur.move rfl) ?_
  refine JO.pur rfl rfl rfl (Pur.lss rfl rfl) ?_
  refine JO.pur rfl rfl rfl (Pur.pickF rfl rfl) ?_
  refine JO.pur rfl rfl rfl (Pur.assign rfl) ?_
  refine JO.nil ?_
  refine J.ret rfl rfl ?_
  refine ⟨_, _, ⟨rfl, rfl⟩, rfl, SubC.out⟩

def sortB (xs : List Int) : Prop := ∀ i, i < xs.length → 1 ≤ i → xs.getD (i - 1) 0 ≤ xs.getD i 0
instance (xs : List Int) : Decidable (sortB xs) := inferInstanceAs (Decidable (∀ i, i < xs.length → _))
theorem isSorted_ok {L : List Asn} {a : Option Addr} {n cap : Nat} {xs : List Int} [SlIn intE L a xs] (hn : n = xs.length) (hb : xs.length ≤ 1000000) :
    CallS Try.prog 93 [.slice a n cap].toArray L (fun v M => v = .bool (decide (sortB xs)) ∧ M = L) := by
  subst hn
  refine CallS.ent ?_
  refine CallS.enter Try.func93 rfl rfl rfl rfl rfl ?_
  refine J.seq rfl ?_
  refine J.region rfl ?_
  refine JO.pur rfl rfl rfl (Pur.assign rfl) ?_
  refine JO.nil ?_
  refine J.seq rfl ?_
  refine J.seq rfl ?_
  refine J.region rfl ?_
  refine JO.pur rfl rfl rfl (Pur.move rfl) ?_
  refine JO.pur rfl rfl rfl (Pur.len rfl) ?_
  refine JO.pur rfl rfl rfl (Pur.sub rfl rfl (wr64 (by omega))) ?_
  refine JO.pur rfl rfl rfl (Pur.assign rfl) ?_
  refine JO.nil ?_
  refine J.block rfl ?_
  refine J.loopF (ι := Nat) (fun q => q ≤ xs.length ∧ ∀ i, q ≤ i → i < xs.length → 1 ≤ i → xs.getD (i - 1) 0 ≤ xs.getD i 0) (fun q => [(3, .int .i64 ((q : Int) - 1))]) [(0, _)] (fun q => L) (fun q => q) xs.length rfl (.cons rfl rfl .nil) (.cons rfl rfl .nil) (by first | exact fun _ h => h | exact SubC.out | (dsimp only; exact SubC.out)) ⟨Nat.le_refl _, fun i h1 h2 => by omega⟩ ?_
  rintro k ⟨hk, hok⟩ ihk
  try dsimp only
  refine J.seq rfl ?_
  refine J.seq rfl ?_
  refine J.region rfl ?_
  refine JO.pur rfl rfl rfl (Pur.move rfl) ?_
  refine JO.pur rfl rfl rfl (Pur.gtr rfl rfl) ?_
  refine JO.nil ?_
  refine J.splitB 8 rfl (fun h8 => ?_) (fun h8 => ?_)
  · try simp only [decide_eq_true_eq, decide_eq_false_iff_not, Bool.not_eq_true', Bool.not_eq_false', Bool.and_eq_true, Bool.or_eq_true, Bool.and_eq_false_iff, Bool.or_eq_false_iff, Option.isNone_some, Option.isSome_some, Option.isNone_none, Option.isSome_none, Int.not_lt, Int.not_le, beq_iff_eq, beq_eq_false_iff_ne, bne_iff_ne, ne_eq, Bool.not_not, Decidable.not_not] at h8
    have hk2 : 2 ≤ k := by omega
    have e1 : ((k : Int) - 1) = ((k - 1 : Nat) : Int) := by omega
    have e2 : ((k : Int) - 1 - 1) = ((k - 2 : Nat) : Int) := by omega
    refine J.condT rfl rfl ?_
    refine J.skip rfl ?_
    refine J.seq rfl ?_
    refine J.block rfl ?_
    refine J.seq rfl ?_
    refine J.mask0 (n := 10) [9] rfl Try.mixed rfl (by kernel_rfl) ?_
    refine JM.take 0 (fun _ h => h) rfl (by kernel_rfl) rfl rfl rfl (m' := 1) rfl (Pur.move rfl) ?_
    refine JM.take 1 (fun _ h => h) rfl (by kernel_rfl) rfl rfl rfl (m' := 3) rfl (Pur.move rfl) ?_
    refine JM.take 2 (fun _ h => h) rfl (by kernel_rfl) rfl rfl rfl (m' := 7) rfl (Pur.idx rfl rfl rfl (by first | rfl | (simp; done) | omega) e1 (by omega)) ?_
    refine JM.take 3 (fun _ h => h) rfl (by kernel_rfl) rfl rfl rfl (m' := 15) rfl (Pur.load rfl (CellIn.el0 rfl (getD_at' 0 (by omega)) rfl)) ?_
    refine JM.setv (u' := .int .i64 (xs.getD (k - 1) 0)) 14 rfl rfl ?_
    refine JM.take 4 (fun _ h => h) rfl (by kernel_rfl) rfl rfl rfl (m' := 31) rfl (Pur.move rfl) ?_
    refine JM.take 5 (fun _ h => h) rfl (by kernel_rfl) rfl rfl rfl (m' := 63) rfl (Pur.move rfl) ?_
    refine JM.take 6 (fun _ h => h) rfl (by kernel_rfl) rfl rfl rfl (m' := 127) rfl (Pur.sub rfl rfl (wr64 (by omega))) ?_
    refine JM.take 7 (fun _ h => h) rfl (by kernel_rfl) rfl rfl rfl (m' := 255) rfl (Pur.idx rfl rfl rfl (by first | rfl | (simp; done) | omega) e2 (by omega)) ?_
    refine JM.take 8 (fun _ h => h) rfl (by kernel_rfl) rfl rfl rfl (m' := 511) rfl (Pur.load rfl (CellIn.el0 rfl (getD_at' 0 (by omega)) rfl)) ?_
    refine JM.setv (u' := .int .i64 (xs.getD (k - 2) 0)) 19 rfl rfl ?_
    refine JM.one (i := 9) (by kernel_rfl) ?_
    refine JMi.effR (fun _ h => h) rfl rfl rfl rfl (m' := 1023) rfl (Eff.call rfl (less_ok)) ?_
    refine JM.done rfl ?_
    refine J.splitB 20 rfl (fun h20 => ?_) (fun h20 => ?_)
    · try simp only [decide_eq_true_eq, decide_eq_false_iff_not, Bool.not_eq_true', Bool.not_eq_false', Bool.and_eq_true, Bool.or_eq_true, Bool.and_eq_false_iff, Bool.or_eq_false_iff, Option.isNone_some, Option.isSome_some, Option.isNone_none, Option.isSome_none, Int.not_lt, Int.not_le, beq_iff_eq, beq_eq_false_iff_ne, bne_iff_ne, ne_eq, Bool.not_not, Decidable.not_not] at h20
      refine J.condT rfl rfl ?_
      refine J.seq rfl ?_
      refine J.region rfl ?_
      refine JO.pur rfl rfl rfl (Pur.assign rfl) ?_
      refine JO.nil ?_
      refine J.ret rfl rfl ?_
      refine ⟨_, _, ⟨rfl, rfl⟩, congrArg Value.bool ((decide_eq_false (fun g => by have := g (k - 1) (by omega) (by omega); rw [show k - 1 - 1 = k - 2 by omega] at this; omega)).symm), SubC.out⟩
    · try simp only [decide_eq_true_eq, decide_eq_false_iff_not, Bool.not_eq_true', Bool.not_eq_false', Bool.and_eq_true, Bool.or_eq_true, Bool.and_eq_false_iff, Bool.or_eq_false_iff, Option.isNone_some, Option.isSome_some, Option.isNone_none, Option.isSome_none, Int.not_lt, Int.not_le, beq_iff_eq, beq_eq_false_iff_ne, bne_iff_ne, ne_eq, Bool.not_not, Decidable.not_not] at h20
      have hok2 : ∀ i, k - 1 ≤ i → i < xs.length → 1 ≤ i → xs.getD (i - 1) 0 ≤ xs.getD i 0 := fun i h1 h2 h3 => by
        by_cases e : i = k - 1
        · subst e; have : k - 1 - 1 = k - 2 := by omega
          rw [this]; omega
        · exact hok i (by omega) h2 h3
      refine J.condF rfl rfl ?_
      refine J.skip rfl ?_
      refine J.inBlock ?_
      refine J.region rfl ?_
      refine JO.pur rfl rfl rfl (Pur.move rfl) ?_
      refine JO.pur rfl rfl rfl (Pur.sub rfl rfl (wr64 (by omega))) ?_
      refine JO.pur rfl rfl rfl (Pur.assign rfl) ?_
      refine JO.nil ?_
      exact J.weaken (.cons rfl (congrArg (Value.int .i64) (by omega)) (.cons rfl rfl .nil)) (by first | exact fun _ h => h | exact SubC.out | (dsimp only; exact SubC.out)) (ihk (k - 1) ⟨by omega, hok2⟩ (by omega))
  · try simp only [decide_eq_true_eq, decide_eq_false_iff_not, Bool.not_eq_true', Bool.not_eq_false', Bool.and_eq_true, Bool.or_eq_true, Bool.and_eq_false_iff, Bool.or_eq_false_iff, Option.isNone_some, Option.isSome_some, Option.isNone_none, Option.isSome_none, Int.not_lt, Int.not_le, beq_iff_eq, beq_eq_false_iff_ne, bne_iff_ne, ne_eq, Bool.not_not, Decidable.not_not] at h8
    refine J.condF rfl rfl ?_
    refine J.exit rfl rfl ?_
    refine J.seq rfl ?_
    refine J.region rfl ?_
    refine JO.pur rfl rfl rfl (Pur.assign rfl) ?_
    refine JO.nil ?_
    refine J.ret rfl rfl ?_
    refine ⟨_, _, ⟨rfl, rfl⟩, congrArg Value.bool ((decide_eq_true (fun i h1 h2 => hok i (by omega) h1 h2)).symm), SubC.out⟩

end Go.Proofs.Ytnhippfllgnngaa

/- The text SpPlain5. -/
set_option linter.unusedVariables false
set_option linter.unusedSimpArgs false
/-! From lists that are compressed by rows. -/
namespace Go.Proofs.Ytnhippfllgnngaa
open Go Go.KK Dm
abbrev SpRF := (List Rg × List (List Int)) × Int
theorem cntD_two {d : List Rg} (h : d.length = 2) : cntD d = cnt (d.getD 0 default) * cnt (d.getD 1 default) := by
  match d, h with
  | [a, b], _ => unfold cntD; simp
theorem sortB_le {xs : List Int} (h : sortB xs) : ∀ j i, i ≤ j → j < xs.length → xs.getD i 0 ≤ xs.getD j 0 := by
  intro j
  induction j with
  | zero => intro i hi hj; rw [show i = 0 by omega]; omega
  | succ j ih =>
    intro i hi hj
    by_cases e : i = j + 1
    · rw [e]; omega
    · have h1 := ih i (by omega) (by omega)
      have h2 := h (j + 1) hj (by omega)
      rw [Nat.add_sub_cancel] at h2; omega
/-- The lists' form. -/
def chkF (R : Nat) (starts cols : List Int) : Prop := starts.length = R + 1 ∧ starts.getD 0 0 = 0 ∧ starts.getD R 0 = (cols.length : Int) ∧ cols.length ≤ 400 ∧ sortB starts
instance (R : Nat) (starts cols : List Int) : Decidable (chkF R starts cols) := inferInstanceAs (Decidable (_ ∧ _))
/-- The row that a place of the list of columns is in. -/
def rowAt (starts : List Int) (i : Nat) : Nat := (starts.countP fun s => decide (s ≤ (i : Int))) - 1
theorem rowAt_eq {R : Nat} {starts cols : List Int} (h : chkF R starts cols) {k i : Nat} (hk : k < R) (h1 : starts.getD k 0 ≤ (i : Int)) (h2 : (i : Int) < starts.getD (k + 1) 0) : rowAt starts i = k := by
  obtain ⟨hl, _, _, _, hs⟩ := h
  have : starts.countP (fun s => decide (s ≤ (i : Int))) = k + 1 := by
    conv => lhs; rw [← List.take_append_drop (k + 1) starts, List.countP_append]
    have a1 : (starts.take (k + 1)).countP (fun s => decide (s ≤ (i : Int))) = (starts.take (k + 1)).length := List.countP_eq_length.2 fun y hy => by
      obtain ⟨j, hj, e⟩ := List.getElem_of_mem hy
      rw [List.length_take] at hj
      rw [List.getElem_take] at e
      have := sortB_le hs k j (by omega) (by omega)
      rw [List.getD_eq_getElem?_getD, List.getElem?_eq_getElem (by omega), Option.getD_some, e] at this
      exact decide_eq_true (by omega)
    have a2 : (starts.drop (k + 1)).countP (fun s => decide (s ≤ (i : Int))) = 0 := List.countP_eq_zero.2 fun y hy => by
      obtain ⟨j, hj, e⟩ := List.getElem_of_mem hy
      rw [List.length_drop] at hj
      rw [List.getElem_drop] at e
      have := sortB_le hs (k + 1 + j) (k + 1) (by omega) (by omega)
      have e2 : starts.getD (k + 1 + j) 0 = y := by rw [List.getD_eq_getElem?_getD, List.getElem?_eq_getElem (by omega), Option.getD_some, e]
      rw [e2] at this
      simp; omega
    rw [a1, a2, List.length_take]; omega
  unfold rowAt; rw [this]; rfl
/-- The indexes that the lists name. -/
def fromK (rs : List Rg) (starts cols : List Int) (n : Nat) : List (List Int) := (List.range n).map fun i => ixD (canD rs) (rowAt starts i * cnt ((canD rs).getD 1 default) + (cols.getD i 0).toNat)
theorem fromK_len (rs : List Rg) (starts cols : List Int) (n : Nat) : (fromK rs starts cols n).length = n := by simp [fromK]
theorem fromK_succ (rs : List Rg) (starts cols : List Int) (n : Nat) : fromK rs starts cols (n + 1) = fromK rs starts cols n ++ [ixD (canD rs) (rowAt starts n * cnt ((canD rs).getD 1 default) + (cols.getD n 0).toNat)] := by unfold fromK; rw [List.range_succ, List.map_append]; rfl
def goodC (rs : List Rg) (cols : List Int) : Prop := ∀ i, i < cols.length → 0 ≤ cols.getD i 0 ∧ cols.getD i 0 < (cnt ((canD rs).getD 1 default) : Int)
instance (rs : List Rg) (cols : List Int) : Decidable (goodC rs cols) := inferInstanceAs (Decidable (∀ i, i < cols.length → _))
def frmS (rs : List Rg) (starts cols : List Int) : SpRF := if ¬ okD rs then (([], []), 50) else if rs.length ≠ 2 then (([], []), 2) else
  if ¬ (chkF (cnt ((canD rs).getD 0 default)) starts cols ∧ goodC rs cols ∧ okS rs (fromK rs starts cols cols.length)) then (([], []), 5) else ((rs, fromK rs starts cols cols.length), 0)
end Go.Proofs.Ytnhippfllgnngaa
