/-
  A part of the proof of the claim that this folder bears.
-/
import Derived.Test.YtnhippfllgnngaaPAI
import Derived.Test.YtnhippfllgnngaaPAJ
import Derived.Test.YtnhippfllgnngaaKC
import Derived.Test.YtnhippfllgnngaaKB
/- The text SM4. -/
set_option linter.unusedVariables false
set_option linter.unusedSimpArgs false
set_option maxRecDepth 10000
namespace Go.Proofs.Ytnhippfllgnngaa
open Go Go.KK Dm

theorem zip_fst_at {rs : List Rg} : ∀ {es : List (Int × Hdr)} {xss : List (List Int)}, es.map (·.1) = xss.map (atS rs) → ∀ g ∈ es.zip xss, g.1.1 = atS rs g.2
  | [], _, _, g, hg => by simp at hg
  | e :: es, [], h, g, hg => by simp at h
  | e :: es, x :: xss, h, g, hg => by
    simp only [List.map_cons, List.cons.injEq] at h
    simp only [List.zip_cons_cons, List.mem_cons] at hg
    rcases hg with rfl | hg
    · exact h.1
    · exact zip_fst_at h.2 g hg
theorem zip_back {α β : Type} : ∀ (l : List (α × β)), (l.map (·.1)).zip (l.map (·.2)) = l
  | [] => rfl
  | x :: l => by rw [List.map_cons, List.map_cons, List.zip_cons_cons, zip_back l]
theorem fst_zip {α β : Type} : ∀ {l : List α} {m : List β}, l.length = m.length → (l.zip m).map (·.1) = l ∧ (l.zip m).map (·.2) = m
  | [], [], _ => ⟨rfl, rfl⟩
  | [], _ :: _, h => by simp at h
  | _ :: _, [], h => by simp at h
  | x :: l, y :: m, h => by
    obtain ⟨a, b⟩ := fst_zip (l := l) (m := m) (by simpa using h)
    rw [List.zip_cons_cons, List.map_cons, List.map_cons, a, b]; exact ⟨rfl, rfl⟩
theorem zip_map_snd {α β γ : Type} (f : α → γ) : ∀ (l : List α) (m : List β), (l.map f).zip m = (l.zip m).map fun g => (f g.1, g.2)
  | [], _ => rfl
  | _ :: _, [] => rfl
  | x :: l, y :: m => by simp only [List.map_cons, List.zip_cons_cons, zip_map_snd f l m]
theorem plc_sort {rs : List Rg} {es ys : List (Int × Hdr)} {xss : List (List Int)} (h : es.map (·.1) = xss.map (atS rs)) (p : ys.Perm es) : ∃ yss : List (List Int), yss.Perm xss ∧ ys.map (·.1) = yss.map (atS rs) ∧ ys.length = yss.length ∧ ((ys.map (·.2)).zip yss).Perm ((es.map (·.2)).zip xss) := by
  have hl : es.length = xss.length := by have := congrArg List.length h; simpa using this
  obtain ⟨e1, e2⟩ := fst_zip hl
  obtain ⟨gs, pg, eg⟩ := perm_lift (ys := ys) (f := fun g : (Int × Hdr) × List Int => g.1) (gs := es.zip xss) (by rw [e1]; exact p)
  refine ⟨gs.map (·.2), by have := pg.map (·.2); rwa [e2] at this, ?_, by rw [← eg]; simp, ?_⟩
  · rw [← eg, List.map_map, List.map_map]
    apply List.map_congr_left
    intro g hg
    exact zip_fst_at h g (pg.mem_iff.1 hg)
  · rw [zip_map_snd, zip_map_snd, ← eg, zip_back]
    exact pg.map _
theorem s_places {L : List Asn} {a la : Option Addr} {n cap ln lc : Nat} {rs : List Rg} {hs : List Hdr} {xss : List (List Int)} [SlIn rgE L a rs] [SlIn hE L la hs] [RowsR intE L hs xss] (hn : n = rs.length) (hl : ln = hs.length) (hxb : xss.length ≤ 1000000) :
    CallS Try.prog 112 [.agg #[.slice a n cap], .slice la ln lc].toArray L (fun v M => ∃ es yss a' c', v = .tuple #[.slice a' es.length c', .bool (plcV rs xss).2] ∧ M = sl enE a' c' es :: rows intE (es.map (·.2)) yss :: L ∧ ((plcV rs xss).2 = true → es.map (·.1) = yss.map (atS rs) ∧ yss.Perm xss ∧ srtd enK es)) := by
  subst hn
  subst hl
  refine CallS.fact (fun h s => RowsR.len (E := intE) (hs := hs) (xss := xss) s) fun hnn => ?_
  have hhl : hs.length = xss.length := rows_len hnn
  refine CallS.ent ?_
  refine CallS.enter Try.func112 rfl rfl rfl rfl rfl ?_
  refine J.seq rfl ?_
  refine J.region rfl ?_
  refine JO.eff rfl rfl rfl (Eff.box (cs := [_]) rfl rfl) ?_
  rintro _ _ ⟨b2, rfl, rfl⟩
  refine JO.pur rfl rfl rfl (Pur.assign rfl) ?_
  refine JO.pur rfl rfl rfl (Pur.assign rfl) ?_
  refine JO.nil ?_
  refine J.seq rfl ?_
  refine J.region rfl ?_
  refine JO.pur rfl rfl rfl (Pur.assign rfl) ?_
  refine JO.nil ?_
  refine J.seq rfl ?_
  refine J.seq rfl ?_
  refine J.region rfl ?_
  refine JO.pur rfl rfl rfl (Pur.move rfl) ?_
  refine JO.pur rfl rfl rfl (Pur.len rfl) ?_
  refine JO.pur rfl rfl rfl (Pur.move rfl) ?_
  refine JO.nil ?_
  refine J.block rfl ?_
  refine J.loopF (ι := Nat × Option Addr × Nat × List (Int × Hdr)) (fun q => q.1 ≤ xss.length ∧ q.2.2.2.map (·.1) = (xss.take q.1).map (atS rs) ∧ ∀ j x, j < q.1 → xss[j]? = some x → (plV rs x).2 = 0) (fun q => [(6, .slice q.2.1 q.1 q.2.2.1), (13, .int .i64 (q.1 : Int))]) [(2, _), (11, _), (12, _)] (fun q => sl enE q.2.1 q.2.2.1 q.2.2.2 :: rows intE (q.2.2.2.map (·.2)) (xss.take (q.1)) :: blk b2 (.cells #[.slice a rs.length cap] 24) :: L) (fun q => xss.length - q.1) (0, none, 0, []) rfl (.cons rfl rfl (.cons rfl rfl (.cons rfl rfl .nil))) (.cons rfl rfl (.cons rfl rfl .nil)) (fun h s => by have s2 := sl_nil_new (E := enE) (rows_nil (E := intE) s); dsimp only; rw [List.take_zero, List.map_nil]; exact SubC.out (L := sl enE none 0 [] :: rows intE [] [] :: _) h s2) ⟨Nat.zero_le _, by simp, fun j x hj => absurd hj (Nat.not_lt_zero j)⟩ ?_
  rintro ⟨k, a6, c6, es⟩ ⟨hk, hes, hok⟩ ih0
  try dsimp only
  dsimp only at hk hes hok
  have hel : es.length = k := by have := congrArg List.length hes; rw [List.length_map, List.length_map, List.length_take] at this; omega
  refine J.seq rfl ?_
  refine J.region rfl ?_
  refine JO.pur rfl rfl rfl (Pur.lss rfl rfl) ?_
  refine JO.nil ?_
  refine J.seq rfl ?_
  refine J.splitB 14 rfl (fun h14 => ?_) (fun h14 => ?_)
  · try simp only [decide_eq_true_eq, decide_eq_false_iff_not, Bool.not_eq_true', Bool.not_eq_false', Bool.and_eq_true, Bool.or_eq_true, Bool.and_eq_false_iff, Bool.or_eq_false_iff, Option.isNone_some, Option.isSome_some, Option.isNone_none, Option.isSome_none, Int.not_lt, Int.not_le, beq_iff_eq, beq_eq_false_iff_ne, bne_iff_ne, ne_eq, Bool.not_not, Decidable.not_not] at h14
    have hkl : k < xss.length := by omega
    obtain ⟨x, hX⟩ : ∃ x, xss[k]? = some x := ⟨_, List.getElem?_eq_getElem (by omega)⟩
    obtain ⟨hd, hH⟩ : ∃ hd, hs[k]? = some hd := ⟨_, List.getElem?_eq_getElem (by omega)⟩
    have hdn := hdr_n hnn hH hX
    have hxm := List.mem_of_getElem? hX
    have hxg : xss.getD k [] = x := getD_of' hX
    have htk : xss.take (k + 1) = xss.take k ++ [x] := take_get hX
    refine J.fact (fun h s => RowsR.fit (E := intE) (hs := hs) (xss := xss) s hH hX) fun hfit => ?_
    refine J.condT rfl rfl ?_
    refine J.skip rfl ?_
    refine J.seq rfl ?_
    refine J.block rfl ?_
    refine J.seq rfl ?_
    refine J.region rfl ?_
    refine JO.pur rfl rfl rfl (Pur.idx rfl rfl rfl (by first | rfl | (simp; done) | omega) rfl (by omega)) ?_
    refine JO.pur rfl rfl rfl (Pur.load rfl (CellIn.el0 rfl hH rfl)) ?_
    refine JO.setv (u' := .slice hd.a x.length hd.cap) 16 rfl (by rw [← hdn]) ?_
    refine JO.pur rfl rfl rfl (Pur.assign rfl) ?_
    refine JO.nil ?_
    refine J.seq rfl ?_
    refine J.region rfl ?_
    refine JO.pur rfl rfl rfl (Pur.loadA rfl rfl rfl CellsIn.blk) ?_
    refine JO.pur rfl rfl rfl (Pur.move rfl) ?_
    refine JO.effR rfl rfl rfl (Eff.call rfl (@d_Place _ _ _ _ _ _ _ rs x inferInstance (RowsR.row (E := intE) inferInstance hH hX) rfl rfl)) ?_
    refine JO.pur rfl rfl rfl (Pur.move rfl) ?_
    refine JO.pur rfl rfl rfl (Pur.extract rfl rfl) ?_
    refine JO.setv (u' := .int .i64 (plV rs x).1) 21 rfl rfl ?_
    refine JO.pur rfl rfl rfl (Pur.extract rfl rfl) ?_
    refine JO.setv (u' := .int .i64 (plV rs x).2) 22 rfl rfl ?_
    refine JO.pur rfl rfl rfl (Pur.assign rfl) ?_
    refine JO.pur rfl rfl rfl (Pur.assign rfl) ?_
    refine JO.nil ?_
    refine J.seq rfl ?_
    refine J.seq rfl ?_
    refine J.region rfl ?_
    refine JO.pur rfl rfl rfl (Pur.move rfl) ?_
    refine JO.pur rfl rfl rfl (Pur.neqI rfl rfl) ?_
    refine JO.nil ?_
    refine J.splitB 24 rfl (fun h24 => ?_) (fun h24 => ?_)
    · try simp only [decide_eq_true_eq, decide_eq_false_iff_not, Bool.not_eq_true', Bool.not_eq_false', Bool.and_eq_true, Bool.or_eq_true, Bool.and_eq_false_iff, Bool.or_eq_false_iff, Option.isNone_some, Option.isSome_some, Option.isNone_none, Option.isSome_none, Int.not_lt, Int.not_le, beq_iff_eq, beq_eq_false_iff_ne, bne_iff_ne, ne_eq, Bool.not_not, Decidable.not_not] at h24
      have hbad : (plV rs x).2 ≠ 0 := by simpa using h24
      refine J.condT rfl rfl ?_
      refine J.seq rfl ?_
      refine J.region rfl ?_
      refine JO.pur rfl rfl rfl (Pur.assign rfl) ?_
      refine JO.pur rfl rfl rfl (Pur.assign rfl) ?_
      refine JO.nil ?_
      refine J.ret rfl rfl ?_
      have hv : plcV rs xss = ([], false) := plcV_no (fun g => hbad (g x hxm))
      refine ⟨_, _, ⟨[], [], none, 0, by rw [hv]; rfl, rfl, fun g => by rw [hv] at g; cases g⟩, rfl, fun h s => ?_⟩
      exact sl_nil_new (rows_nil (SubC.out h s))
    · try simp only [decide_eq_true_eq, decide_eq_false_iff_not, Bool.not_eq_true', Bool.not_eq_false', Bool.and_eq_true, Bool.or_eq_true, Bool.and_eq_false_iff, Bool.or_eq_false_iff, Option.isNone_some, Option.isSome_some, Option.isNone_none, Option.isSome_none, Int.not_lt, Int.not_le, beq_iff_eq, beq_eq_false_iff_ne, bne_iff_ne, ne_eq, Bool.not_not, Decidable.not_not] at h24
      have hgd : (plV rs x).2 = 0 := by simpa using h24
      have hok2 : ∀ j y, j < k + 1 → xss[j]? = some y → (plV rs y).2 = 0 := fun j y hj hy => by
        rcases Nat.lt_or_ge j k with h | h
        · exact hok j y h hy
        · obtain rfl : j = k := by omega
          rw [hX] at hy; rw [← Option.some.inj hy]; exact hgd
      have hrok : okD rs := by
        by_cases hd' : okD rs
        · exact hd'
        · unfold plV at hgd; rw [if_pos hd'] at hgd; cases hgd
      have hxs := (plV_ok hrok x).1.1 hgd
      have hxl : x.length = rs.length := by unfold plD at hxs; by_cases e : x.length = rs.length; exact e; rw [if_neg e] at hxs; cases hxs
      have hr3 := hrok.2.1
      refine J.condF rfl rfl ?_
      refine J.skip rfl ?_
      have hpa : (plV rs x).1 = atS rs x := by rw [(plV_ok hrok x).2 hxs]
      rw [hpa]
      refine J.region rfl ?_
      refine JO.pur rfl rfl rfl (Pur.move rfl) ?_
      refine JO.pur rfl rfl rfl (Pur.move rfl) ?_
      refine JO.pur rfl rfl rfl (Pur.move rfl) ?_
      refine JO.eff rfl rfl rfl (Eff.call rfl (@cloneI _ _ _ _ x (RowsR.row (E := intE) inferInstance hH hX) rfl (by omega) (fun e => by have := hfit.1 e; rw [hdn] at this; exact this))) ?_
      rintro _ _ ⟨a28, c28, ⟨rfl, -⟩, rfl⟩
      refine JO.pur rfl rfl rfl (Pur.build (cs := [_, _]) rfl rfl) ?_
      refine JO.eff rfl rfl rfl (Eff.buildSlice enE [(atS rs x, ⟨a28, x.length, c28⟩)] rfl rfl rfl rfl rfl rfl rfl) ?_
      rintro _ _ ⟨b30, rfl, -, rfl⟩
      refine JO.eff rfl rfl rfl (Eff.append rfl rfl rfl rfl (by first | rfl | omega | (simp; done) | (simp; omega)) (by first | rfl | omega | (simp; done) | (simp; omega)) (by decide) (by simp; omega) (by simp; omega) (fun h => by cases h)) ?_
      rintro _ _ ⟨a31, c31, rfl, rfl⟩
      refine JO.pur rfl rfl rfl (Pur.assign rfl) ?_
      refine JO.nil ?_
      refine J.inBlock ?_
      refine J.region rfl ?_
      refine JO.pur rfl rfl rfl (Pur.add rfl rfl (wr64 (by omega))) ?_
      refine JO.pur rfl rfl rfl (Pur.move rfl) ?_
      refine JO.nil ?_
      exact J.weaken (.cons rfl (by show Value.slice a31 _ c31 = Value.slice a31 (k + 1) c31; simp [hel]) (.cons rfl (congrArg (Value.int .i64) (by first | rfl | (dsimp only; omega))) (.cons rfl rfl (.cons rfl rfl (.cons rfl rfl .nil))))) (fun h s => by have s2 := snoc_row (E := intE) (a := a28) (n := x.length) (cap := c28) (xs := x) (hs := es.map (·.2)) (xss := xss.take k) rfl s; dsimp only; rw [List.map_append, htk, List.map_singleton]; exact SubC.out h s2) (ih0 (k + 1, a31, c31, es ++ [(atS rs x, ⟨a28, x.length, c28⟩)]) ⟨by dsimp only; omega, by dsimp only; rw [List.map_append, hes, htk, List.map_append]; rfl, hok2⟩ (by dsimp only; omega))
  · try simp only [decide_eq_true_eq, decide_eq_false_iff_not, Bool.not_eq_true', Bool.not_eq_false', Bool.and_eq_true, Bool.or_eq_true, Bool.and_eq_false_iff, Bool.or_eq_false_iff, Option.isNone_some, Option.isSome_some, Option.isNone_none, Option.isSome_none, Int.not_lt, Int.not_le, beq_iff_eq, beq_eq_false_iff_ne, bne_iff_ne, ne_eq, Bool.not_not, Decidable.not_not] at h14
    have hke : k = xss.length := by omega
    rw [List.take_of_length_le (by omega)] at hes
    refine J.condF rfl rfl ?_
    refine J.exit rfl rfl ?_
    refine J.seq rfl ?_
    refine J.region rfl ?_
    refine JO.pur rfl rfl rfl (Pur.move rfl) ?_
    refine JO.eff rfl rfl rfl (Eff.call rfl (sortS_ok (es := es) hel.symm (by omega))) ?_
    rintro _ _ ⟨ys, rfl, hpy, hys, rfl⟩
    refine JO.nil ?_
    refine J.seq rfl ?_
    refine J.region rfl ?_
    refine JO.pur rfl rfl rfl (Pur.move rfl) ?_
    refine JO.pur rfl rfl rfl (Pur.assign rfl) ?_
    refine JO.pur rfl rfl rfl (Pur.assign rfl) ?_
    refine JO.nil ?_
    refine J.ret rfl rfl ?_
    have hv : plcV rs xss = (xss.map (atS rs), true) := plcV_yes (fun x hx => by obtain ⟨j, hj, e⟩ := List.getElem_of_mem hx; exact hok j x (by omega) (by rw [List.getElem?_eq_getElem hj, e]))
    obtain ⟨yss, py, ey, ly, pz⟩ := plc_sort hes hpy
    refine ⟨_, _, ⟨ys, yss, a6, c6, by rw [hv, hpy.length_eq, hel]; rfl, rfl, fun _ => ⟨ey, py, hys⟩⟩, rfl, fun h s => ?_⟩
    rw [List.take_of_length_le (by omega)] at s
    have s2 : Sat h (rows intE (es.map (·.2)) xss :: sl enE a6 c6 ys :: L) := SubC.out h s
    have s3 := rows_perm (by rw [List.length_map]; exact ly) pz s2
    exact SubC.out h s3

theorem list_ok {L : List Asn} {a : Option Addr} {n cap : Nat} {es : List (Int × Hdr)} [SlIn enE L a es] (hn : n = es.length) (hes : es.length ≤ 1000000) :
    CallS Try.prog 113 [.slice a n cap].toArray L (fun v M => ∃ a' c', v = .slice a' es.length c' ∧ M = sl hE a' c' (es.map (·.2)) :: L) := by
  subst hn
  refine CallS.ent ?_
  refine CallS.enter Try.func113 rfl rfl rfl rfl rfl ?_
  refine J.seq rfl ?_
  refine J.region rfl ?_
  refine JO.pur rfl rfl rfl (Pur.assign rfl) ?_
  refine JO.nil ?_
  refine J.seq rfl ?_
  refine J.region rfl ?_
  refine JO.pur rfl rfl rfl (Pur.assign rfl) ?_
  refine JO.nil ?_
  refine J.seq rfl ?_
  refine J.seq rfl ?_
  refine J.region rfl ?_
  refine JO.pur rfl rfl rfl (Pur.move rfl) ?_
  refine JO.pur rfl rfl rfl (Pur.len rfl) ?_
  refine JO.pur rfl rfl rfl (Pur.move rfl) ?_
  refine JO.nil ?_
  refine J.block rfl ?_
  refine J.loopF (ι := Nat × Option Addr × Nat) (fun q => q.1 ≤ es.length) (fun q => [(3, .slice q.2.1 q.1 q.2.2), (8, .int .i64 (q.1 : Int))]) [(6, _), (7, _)] (fun q => sl hE q.2.1 q.2.2 ((es.map (·.2)).take q.1) :: L) (fun q => es.length - q.1) (0, none, 0) rfl (.cons rfl rfl (.cons rfl rfl .nil)) (.cons rfl rfl (.cons rfl rfl .nil)) (fun h s => by have s2 := sl_nil_new (E := hE) s; exact SubC.out (L := sl hE none 0 [] :: _) (M := sl hE none 0 [] :: _) h s2) (Nat.zero_le _) ?_
  rintro ⟨k, a3, c3⟩ hk ih0
  try dsimp only
  dsimp only at hk
  have htl : ((es.map (·.2)).take k).length = k := by rw [List.length_take, List.length_map]; omega
  refine J.seq rfl ?_
  refine J.region rfl ?_
  refine JO.pur rfl rfl rfl (Pur.lss rfl rfl) ?_
  refine JO.nil ?_
  refine J.seq rfl ?_
  refine J.splitB 9 rfl (fun h9 => ?_) (fun h9 => ?_)
  · try simp only [decide_eq_true_eq, decide_eq_false_iff_not, Bool.not_eq_true', Bool.not_eq_false', Bool.and_eq_true, Bool.or_eq_true, Bool.and_eq_false_iff, Bool.or_eq_false_iff, Option.isNone_some, Option.isSome_some, Option.isNone_none, Option.isSome_none, Int.not_lt, Int.not_le, beq_iff_eq, beq_eq_false_iff_ne, bne_iff_ne, ne_eq, Bool.not_not, Decidable.not_not] at h9
    have hkl : k < es.length := by omega
    obtain ⟨e, hE_⟩ : ∃ e, es[k]? = some e := ⟨_, List.getElem?_eq_getElem hkl⟩
    have hap : (es.map (·.2)).take (k + 1) = (es.map (·.2)).take k ++ [e.2] := take_get (by rw [List.getElem?_map, hE_]; rfl)
    refine J.condT rfl rfl ?_
    refine J.skip rfl ?_
    refine J.seq rfl ?_
    refine J.block rfl ?_
    refine J.seq rfl ?_
    refine J.region rfl ?_
    refine JO.pur rfl rfl rfl (Pur.idx rfl rfl rfl (by first | rfl | (simp; done) | omega) rfl (by omega)) ?_
    refine JO.pur rfl rfl rfl (Pur.loadA rfl rfl rfl (CellsIn.el rfl hE_)) ?_
    refine JO.setv (u' := enV e) 11 rfl rfl ?_
    refine JO.eff rfl rfl rfl (Eff.alloc (cs := [_, _]) rfl) ?_
    rintro _ _ ⟨b5, rfl, rfl⟩
    refine JO.effN rfl rfl (Eff.storeBA (cs' := [_, _]) rfl rfl (by rfl) (by rfl) (by rfl)) ?_
    rintro _ _ ⟨rfl, rfl⟩
    refine JO.nil ?_
    refine J.region rfl ?_
    refine JO.pur rfl rfl rfl (Pur.move rfl) ?_
    refine JO.pur rfl rfl rfl (Pur.fieldAddr rfl) ?_
    refine JO.pur rfl rfl rfl (Pur.load rfl (CellIn.blk rfl)) ?_
    refine JO.eff rfl rfl rfl (Eff.buildSlice hE [e.2] rfl rfl rfl rfl rfl rfl rfl) ?_
    rintro _ _ ⟨b15, rfl, -, rfl⟩
    refine JO.eff rfl rfl rfl (Eff.append rfl rfl rfl rfl (by first | rfl | omega | (simp; done) | (simp; omega)) (by first | rfl | omega | (simp; done) | (simp; omega)) (by decide) (by simp; omega) (by simp; omega) (fun h => by cases h)) ?_
    rintro _ _ ⟨a16, c16, rfl, rfl⟩
    refine JO.pur rfl rfl rfl (Pur.assign rfl) ?_
    refine JO.nil ?_
    refine J.inBlock ?_
    refine J.region rfl ?_
    refine JO.pur rfl rfl rfl (Pur.add rfl rfl (wr64 (by omega))) ?_
    refine JO.pur rfl rfl rfl (Pur.move rfl) ?_
    refine JO.nil ?_
    exact J.weaken (.cons rfl (by show Value.slice a16 _ c16 = Value.slice a16 (k + 1) c16; rw [htl]; rfl) (.cons rfl (congrArg (Value.int .i64) (by first | rfl | (dsimp only; omega))) (.cons rfl rfl (.cons rfl rfl .nil)))) (fun h s => by dsimp only; rw [hap]; exact SubC.out h s) (ih0 (k + 1, a16, c16) (by dsimp only; omega) (by dsimp only; omega))
  · try simp only [decide_eq_true_eq, decide_eq_false_iff_not, Bool.not_eq_true', Bool.not_eq_false', Bool.and_eq_true, Bool.or_eq_true, Bool.and_eq_false_iff, Bool.or_eq_false_iff, Option.isNone_some, Option.isSome_some, Option.isNone_none, Option.isSome_none, Int.not_lt, Int.not_le, beq_iff_eq, beq_eq_false_iff_ne, bne_iff_ne, ne_eq, Bool.not_not, Decidable.not_not] at h9
    have hke : k = es.length := by omega
    refine J.condF rfl rfl ?_
    refine J.exit rfl rfl ?_
    refine J.seq rfl ?_
    refine J.region rfl ?_
    refine JO.pur rfl rfl rfl (Pur.move rfl) ?_
    refine JO.pur rfl rfl rfl (Pur.assign rfl) ?_
    refine JO.nil ?_
    refine J.ret rfl rfl ?_
    refine ⟨_, _, ⟨a3, c3, rfl, rfl⟩, by rw [hke]; rfl, fun h s => ?_⟩
    rw [List.take_of_length_le (by rw [List.length_map]; omega)] at s
    exact SubC.out h s

theorem same_cl {L : List Asn} {x y : Int × Hdr} :
    CallS Try.prog 117 [enV x, enV y].toArray L (fun v M => v = .bool (decide (enK x = enK y)) ∧ M = L) := by
  refine CallS.ent ?_
  refine CallS.enter Try.func117 rfl rfl rfl rfl rfl ?_
  refine J.seq rfl ?_
  refine J.region rfl ?_
  refine JO.eff rfl rfl rfl (Eff.box (cs := [_, _]) rfl rfl) ?_
  rintro _ _ ⟨b2, rfl, rfl⟩
  refine JO.eff rfl rfl rfl (Eff.box (cs := [_, _]) rfl rfl) ?_
  rintro _ _ ⟨b3, rfl, rfl⟩
  refine JO.pur rfl rfl rfl (Pur.assign rfl) ?_
  refine JO.nil ?_
  refine J.seq rfl ?_
  refine J.region rfl ?_
  refine JO.pur rfl rfl rfl (Pur.fieldAddr rfl) ?_
  refine JO.pur rfl rfl rfl (Pur.load rfl (CellIn.blk rfl)) ?_
  refine JO.pur rfl rfl rfl (Pur.fieldAddr rfl) ?_
  refine JO.pur rfl rfl rfl (Pur.load rfl (CellIn.blk rfl)) ?_
  refine JO.pur rfl rfl rfl (Pur.eqlI rfl rfl) ?_
  refine JO.pur rfl rfl rfl (Pur.assign rfl) ?_
  refine JO.nil ?_
  refine J.ret rfl rfl ?_
  refine ⟨_, _, ⟨rfl, rfl⟩, rfl, SubC.out⟩

end Go.Proofs.Ytnhippfllgnngaa

/- The text SM5. -/
set_option linter.unusedVariables false
set_option linter.unusedSimpArgs false
set_option maxRecDepth 10000
namespace Go.Proofs.Ytnhippfllgnngaa
open Go Go.KK Dm

theorem compact_ok {L : List Asn} {a : Option Addr} {n cap : Nat} {es : List (Int × Hdr)} (hn : n = es.length) (hes : es.length ≤ 1000000) :
    CallS Try.prog 116 [.slice a n cap, (.func (.func 117) #[] #[])].toArray (sl enE a cap es :: L) (fun v M => v = .slice a (cptN enK es es.length).length cap ∧ M = sl enE a cap (cptN enK es es.length) :: L) := by
  subst hn
  refine CallS.ent ?_
  refine CallS.enter Try.func116 rfl rfl rfl rfl rfl ?_
  refine J.fact (fun h hs => SlH.le (a := a) (E := enE) (xs := es) hs) fun hcap => ?_
  refine J.seq rfl ?_
  refine J.region rfl ?_
  refine JO.pur rfl rfl rfl (Pur.assign rfl) ?_
  refine JO.nil ?_
  refine J.seq rfl ?_
  refine J.seq rfl ?_
  refine J.region rfl ?_
  refine JO.pur rfl rfl rfl (Pur.move rfl) ?_
  refine JO.pur rfl rfl rfl (Pur.len rfl) ?_
  refine JO.pur rfl rfl rfl (Pur.lss rfl rfl) ?_
  refine JO.nil ?_
  refine J.splitB 10 rfl (fun h10 => ?_) (fun h10 => ?_)
  · try simp only [decide_eq_true_eq, decide_eq_false_iff_not, Bool.not_eq_true', Bool.not_eq_false', Bool.and_eq_true, Bool.or_eq_true, Bool.and_eq_false_iff, Bool.or_eq_false_iff, Option.isNone_some, Option.isSome_some, Option.isNone_none, Option.isSome_none, Int.not_lt, Int.not_le, beq_iff_eq, beq_eq_false_iff_ne, bne_iff_ne, ne_eq, Bool.not_not, Decidable.not_not] at h10
    have hsh : cptN enK es es.length = es := by
      have h1 : es.length < 2 := by omega
      match es, h1 with
      | [], _ => rfl
      | [x], _ => rfl
      | x :: y :: l, h => simp only [List.length_cons] at h; omega
    refine J.condT rfl rfl ?_
    refine J.seq rfl ?_
    refine J.region rfl ?_
    refine JO.pur rfl rfl rfl (Pur.move rfl) ?_
    refine JO.pur rfl rfl rfl (Pur.assign rfl) ?_
    refine JO.nil ?_
    refine J.ret rfl rfl ?_
    refine ⟨_, _, ⟨rfl, rfl⟩, by rw [hsh]; rfl, fun h s => ?_⟩
    rw [hsh]
    exact SubC.out h s
  · try simp only [decide_eq_true_eq, decide_eq_false_iff_not, Bool.not_eq_true', Bool.not_eq_false', Bool.and_eq_true, Bool.or_eq_true, Bool.and_eq_false_iff, Bool.or_eq_false_iff, Option.isNone_some, Option.isSome_some, Option.isNone_none, Option.isSome_none, Int.not_lt, Int.not_le, beq_iff_eq, beq_eq_false_iff_ne, bne_iff_ne, ne_eq, Bool.not_not, Decidable.not_not] at h10
    refine J.condF rfl rfl ?_
    refine J.skip rfl ?_
    refine J.seq rfl ?_
    refine J.seq rfl ?_
    refine J.region rfl ?_
    refine JO.pur rfl rfl rfl (Pur.assign rfl) ?_
    refine JO.nil ?_
    refine J.block rfl ?_
    refine J.loopF (ι := Nat) (fun q => 1 ≤ q ∧ q ≤ es.length ∧ (cptN enK es (q)) = es.take q) (fun q => [(5, .int .i64 (q : Int))]) [(0, _), (1, _)] (fun q => sl enE a cap es :: L) (fun q => es.length - q) 1 rfl (.cons rfl rfl (.cons rfl rfl .nil)) (.cons rfl rfl .nil) (by first | exact fun _ h => h | exact SubC.out | (dsimp only; exact SubC.out)) ⟨Nat.le_refl _, by omega, by obtain ⟨e, he⟩ : ∃ e, es[0]? = some e := ⟨_, List.getElem?_eq_getElem (by omega)⟩; rw [cptN_no he (fun g => by omega)]; exact (take_get (k := 0) he).symm⟩ ?_
    rintro k ⟨hk1, hk, hck⟩ ihk
    try dsimp only
    refine J.seq rfl ?_
    refine J.seq rfl ?_
    refine J.region rfl ?_
    refine JO.pur rfl rfl rfl (Pur.move rfl) ?_
    refine JO.pur rfl rfl rfl (Pur.move rfl) ?_
    refine JO.pur rfl rfl rfl (Pur.len rfl) ?_
    refine JO.pur rfl rfl rfl (Pur.lss rfl rfl) ?_
    refine JO.nil ?_
    refine J.splitB 15 rfl (fun h15 => ?_) (fun h15 => ?_)
    · try simp only [decide_eq_true_eq, decide_eq_false_iff_not, Bool.not_eq_true', Bool.not_eq_false', Bool.and_eq_true, Bool.or_eq_true, Bool.and_eq_false_iff, Bool.or_eq_false_iff, Option.isNone_some, Option.isSome_some, Option.isNone_none, Option.isSome_none, Int.not_lt, Int.not_le, beq_iff_eq, beq_eq_false_iff_ne, bne_iff_ne, ne_eq, Bool.not_not, Decidable.not_not] at h15
      have hkl : k < es.length := by omega
      obtain ⟨x, hX⟩ : ∃ x, es[k]? = some x := ⟨_, List.getElem?_eq_getElem hkl⟩
      obtain ⟨y, hY⟩ : ∃ y, es[k - 1]? = some y := ⟨_, List.getElem?_eq_getElem (by omega)⟩
      have hk1c : (k : Int) - 1 = ((k - 1 : Nat) : Int) := by omega
      refine J.condT rfl rfl ?_
      refine J.skip rfl ?_
      refine J.seq rfl ?_
      refine J.block rfl ?_
      refine J.seq rfl ?_
      refine J.mask0 (n := 11) [10] rfl Try.mixed rfl (by kernel_rfl) ?_
      refine JM.take 0 (fun _ h => h) rfl (by kernel_rfl) rfl rfl rfl (m' := 1) rfl (Pur.move rfl) ?_
      refine JM.take 1 (fun _ h => h) rfl (by kernel_rfl) rfl rfl rfl (m' := 3) rfl (Pur.move rfl) ?_
      refine JM.take 2 (fun _ h => h) rfl (by kernel_rfl) rfl rfl rfl (m' := 7) rfl (Pur.move rfl) ?_
      refine JM.take 3 (fun _ h => h) rfl (by kernel_rfl) rfl rfl rfl (m' := 15) rfl (Pur.idx rfl rfl rfl (by first | rfl | (simp; done) | omega | (rw [List.length_drop]; omega)) rfl (by omega)) ?_
      refine JM.take 4 (fun _ h => h) rfl (by kernel_rfl) rfl rfl rfl (m' := 31) rfl (Pur.loadA rfl rfl rfl (CellsIn.el rfl hX)) ?_
      refine JM.setv (u' := enV x) 22 rfl rfl ?_
      refine JM.take 5 (fun _ h => h) rfl (by kernel_rfl) rfl rfl rfl (m' := 63) rfl (Pur.move rfl) ?_
      refine JM.take 6 (fun _ h => h) rfl (by kernel_rfl) rfl rfl rfl (m' := 127) rfl (Pur.move rfl) ?_
      refine JM.take 7 (fun _ h => h) rfl (by kernel_rfl) rfl rfl rfl (m' := 255) rfl (Pur.sub rfl rfl (wr64 (by omega))) ?_
      refine JM.take 8 (fun _ h => h) rfl (by kernel_rfl) rfl rfl rfl (m' := 511) rfl (Pur.idx rfl rfl rfl (by first | rfl | (simp; done) | omega | (rw [List.length_drop]; omega)) hk1c (by omega)) ?_
      refine JM.take 9 (fun _ h => h) rfl (by kernel_rfl) rfl rfl rfl (m' := 1023) rfl (Pur.loadA rfl rfl rfl (CellsIn.el rfl hY)) ?_
      refine JM.setv (u' := enV y) 27 rfl rfl ?_
      refine JM.one (i := 10) (by kernel_rfl) ?_
      refine JMi.effR (fun _ h => h) rfl rfl rfl rfl (m' := 2047) rfl (Eff.callV rfl rfl (same_cl (x := x) (y := y))) ?_
      refine JM.done rfl ?_
      refine J.splitB 28 rfl (fun h28 => ?_) (fun h28 => ?_)
      · try simp only [decide_eq_true_eq, decide_eq_false_iff_not, Bool.not_eq_true', Bool.not_eq_false', Bool.and_eq_true, Bool.or_eq_true, Bool.and_eq_false_iff, Bool.or_eq_false_iff, Option.isNone_some, Option.isSome_some, Option.isNone_none, Option.isSome_none, Int.not_lt, Int.not_le, beq_iff_eq, beq_eq_false_iff_ne, bne_iff_ne, ne_eq, Bool.not_not, Decidable.not_not] at h28
        have hc1 : cptN enK es (k + 1) = es.take k := by rw [cptN_yes hX hk1 (by rw [h28, kA_of hY]), hck]
        have hc1l : (cptN enK es (k + 1)).length = k := by rw [hc1, List.length_take]; omega
        refine J.condT rfl rfl ?_
        refine J.seq rfl ?_
        refine J.region rfl ?_
        refine JO.pur rfl rfl rfl (Pur.move rfl) ?_
        refine JO.pur rfl rfl rfl (Pur.move rfl) ?_
        refine JO.pur rfl rfl rfl (Pur.slice1 rfl rfl rfl (by omega) (by omega)) ?_
        refine JO.pur rfl rfl rfl (Pur.assign rfl) ?_
        refine JO.nil ?_
        refine J.seq rfl ?_
        refine J.seq rfl ?_
        refine J.region rfl ?_
        refine JO.pur rfl rfl rfl (Pur.assign rfl) ?_
        refine JO.nil ?_
        refine J.block rfl ?_
        refine J.loopF (ι := Nat) (fun q => 1 ≤ q ∧ k + q ≤ es.length ∧ (cptN enK es (k + q)).length < k + q) (fun q => [(5, .int .i64 ((cptN enK es (k + q)).length : Int)), (7, .int .i64 (q : Int))]) [(0, _), (1, _), (6, _)] (fun q => sl enE a cap ((cptN enK es (k + q)) ++ es.drop (cptN enK es (k + q)).length) :: L) (fun q => es.length - q) 1 rfl (.cons rfl rfl (.cons rfl rfl (.cons rfl rfl .nil))) (.cons rfl (congrArg (Value.int .i64) (by rw [hc1l])) (.cons rfl rfl .nil)) (fun h s => by rw [hc1l, hc1, List.take_append_drop]; exact SubC.out h s) ⟨Nat.le_refl _, by omega, by omega⟩ ?_
        rintro j ⟨hj1, hj, hjl⟩ ihj
        try dsimp only
        have hxl : ((cptN enK es (k + j)) ++ es.drop (cptN enK es (k + j)).length).length = es.length := by rw [List.length_append, List.length_drop]; omega
        refine J.seq rfl ?_
        refine J.seq rfl ?_
        refine J.region rfl ?_
        refine JO.pur rfl rfl rfl (Pur.move rfl) ?_
        refine JO.pur rfl rfl rfl (Pur.move rfl) ?_
        refine JO.pur rfl rfl rfl (Pur.len rfl) ?_
        refine JO.pur rfl rfl rfl (Pur.lss rfl rfl) ?_
        refine JO.nil ?_
        refine J.splitB 35 rfl (fun h35 => ?_) (fun h35 => ?_)
        · try simp only [decide_eq_true_eq, decide_eq_false_iff_not, Bool.not_eq_true', Bool.not_eq_false', Bool.and_eq_true, Bool.or_eq_true, Bool.and_eq_false_iff, Bool.or_eq_false_iff, Option.isNone_some, Option.isSome_some, Option.isNone_none, Option.isSome_none, Int.not_lt, Int.not_le, beq_iff_eq, beq_eq_false_iff_ne, bne_iff_ne, ne_eq, Bool.not_not, Decidable.not_not] at h35
          have hjl2 : k + j < es.length := by omega
          obtain ⟨x2, hX2⟩ : ∃ x, es[k + j]? = some x := ⟨_, List.getElem?_eq_getElem hjl2⟩
          obtain ⟨y2, hY2⟩ : ∃ y, es[k + j - 1]? = some y := ⟨_, List.getElem?_eq_getElem (by omega)⟩
          have hj1c : (j : Int) - 1 = ((j - 1 : Nat) : Int) := by omega
          have hg1 : (((cptN enK es (k + j)) ++ es.drop (cptN enK es (k + j)).length).drop k)[j]? = some x2 := by rw [List.getElem?_drop, List.getElem?_append_right (by omega), List.getElem?_drop, show (cptN enK es (k + j)).length + (k + j - (cptN enK es (k + j)).length) = k + j by omega]; exact hX2
          have hg2 : (((cptN enK es (k + j)) ++ es.drop (cptN enK es (k + j)).length).drop k)[j - 1]? = some y2 := by rw [List.getElem?_drop, List.getElem?_append_right (by omega), List.getElem?_drop, show (cptN enK es (k + j)).length + (k + (j - 1) - (cptN enK es (k + j)).length) = k + j - 1 by omega]; exact hY2
          refine J.condT rfl rfl ?_
          refine J.skip rfl ?_
          refine J.seq rfl ?_
          refine J.block rfl ?_
          refine J.seq rfl ?_
          refine J.mask0 (n := 12) [] rfl Try.mixed rfl (by kernel_rfl) ?_
          refine JM.take 0 (fun _ h => h) rfl (by kernel_rfl) rfl rfl rfl (m' := 1) rfl (Pur.move rfl) ?_
          refine JM.take 1 (fun _ h => h) rfl (by kernel_rfl) rfl rfl rfl (m' := 3) rfl (Pur.move rfl) ?_
          refine JM.take 2 (fun _ h => h) rfl (by kernel_rfl) rfl rfl rfl (m' := 7) rfl (Pur.move rfl) ?_
          refine JM.take 3 (fun _ h => h) rfl (by kernel_rfl) rfl rfl rfl (m' := 15) rfl (Pur.idx (hs := (SlIn.dropN (E := enE) (cap := cap) (a := a) (xs := ((cptN enK es (k + j)) ++ es.drop (cptN enK es (k + j)).length)) (m := 2) inferInstance rfl k (fun e => by omega))) rfl rfl rfl (by first | rfl | (simp; done) | omega | (rw [List.length_drop]; omega)) rfl (by rw [List.length_drop]; omega)) ?_
          refine JM.take 4 (fun _ h => h) rfl (by kernel_rfl) rfl rfl rfl (m' := 31) rfl (Pur.loadA rfl rfl rfl (CellsIn.el (hh := (SlIn.dropN (E := enE) (cap := cap) (a := a) (xs := ((cptN enK es (k + j)) ++ es.drop (cptN enK es (k + j)).length)) (m := 2) inferInstance rfl k (fun e => by omega))) rfl hg1)) ?_
          refine JM.setv (u' := enV x2) 42 rfl rfl ?_
          refine JM.take 5 (fun _ h => h) rfl (by kernel_rfl) rfl rfl rfl (m' := 63) rfl (Pur.move rfl) ?_
          refine JM.take 6 (fun _ h => h) rfl (by kernel_rfl) rfl rfl rfl (m' := 127) rfl (Pur.move rfl) ?_
          refine JM.take 7 (fun _ h => h) rfl (by kernel_rfl) rfl rfl rfl (m' := 255) rfl (Pur.sub rfl rfl (wr64 (by omega))) ?_
          refine JM.take 8 (fun _ h => h) rfl (by kernel_rfl) rfl rfl rfl (m' := 511) rfl (Pur.idx (hs := (SlIn.dropN (E := enE) (cap := cap) (a := a) (xs := ((cptN enK es (k + j)) ++ es.drop (cptN enK es (k + j)).length)) (m := 2) inferInstance rfl k (fun e => by omega))) rfl rfl rfl (by first | rfl | (simp; done) | omega | (rw [List.length_drop]; omega)) hj1c (by rw [List.length_drop]; omega)) ?_
          refine JM.take 9 (fun _ h => h) rfl (by kernel_rfl) rfl rfl rfl (m' := 1023) rfl (Pur.loadA rfl rfl rfl (CellsIn.el (hh := (SlIn.dropN (E := enE) (cap := cap) (a := a) (xs := ((cptN enK es (k + j)) ++ es.drop (cptN enK es (k + j)).length)) (m := 2) inferInstance rfl k (fun e => by omega))) rfl hg2)) ?_
          refine JM.setv (u' := enV y2) 47 rfl rfl ?_
          refine JM.one (i := 10) (by kernel_rfl) ?_
          refine JMi.effR (fun _ h => h) rfl rfl rfl rfl (m' := 2047) rfl (Eff.callV rfl rfl (same_cl (x := x2) (y := y2))) ?_
          refine JM.take 11 (fun _ h => h) rfl (by kernel_rfl) rfl rfl rfl (m' := 4095) rfl (Pur.not rfl) ?_
          refine JM.done rfl ?_
          refine J.splitB 49 rfl (fun h49 => ?_) (fun h49 => ?_)
          · try simp only [decide_eq_true_eq, decide_eq_false_iff_not, Bool.not_eq_true', Bool.not_eq_false', Bool.and_eq_true, Bool.or_eq_true, Bool.and_eq_false_iff, Bool.or_eq_false_iff, Option.isNone_some, Option.isSome_some, Option.isNone_none, Option.isSome_none, Int.not_lt, Int.not_le, beq_iff_eq, beq_eq_false_iff_ne, bne_iff_ne, ne_eq, Bool.not_not, Decidable.not_not] at h49
            have hst : (cptN enK es (k + j + 1)) = (cptN enK es (k + j)) ++ [x2] := cptN_no hX2 (fun g => h49 (by rw [g.2, kA_of hY2]))
            have hset : ((cptN enK es (k + j)) ++ es.drop (cptN enK es (k + j)).length).set (cptN enK es (k + j)).length x2 = (cptN enK es (k + j)) ++ [x2] ++ es.drop ((cptN enK es (k + j)).length + 1) := by rw [List.drop_eq_getElem_cons (by omega), set_mid]; simp
            refine J.condT rfl rfl ?_
            refine J.seq rfl ?_
            refine J.region rfl ?_
            refine JO.pur rfl rfl rfl (Pur.move rfl) ?_
            refine JO.pur rfl rfl rfl (Pur.move rfl) ?_
            refine JO.pur rfl rfl rfl (Pur.move rfl) ?_
            refine JO.pur rfl rfl rfl (Pur.move rfl) ?_
            refine JO.pur rfl rfl rfl (Pur.idx (hs := (SlIn.dropN (E := enE) (cap := cap) (a := a) (xs := ((cptN enK es (k + j)) ++ es.drop (cptN enK es (k + j)).length)) (m := 2) inferInstance rfl k (fun e => by omega))) rfl rfl rfl (by first | rfl | (simp; done) | omega | (rw [List.length_drop]; omega)) rfl (by rw [List.length_drop]; omega)) ?_
            refine JO.pur rfl rfl rfl (Pur.loadA rfl rfl rfl (CellsIn.el (hh := (SlIn.dropN (E := enE) (cap := cap) (a := a) (xs := ((cptN enK es (k + j)) ++ es.drop (cptN enK es (k + j)).length)) (m := 2) inferInstance rfl k (fun e => by omega))) rfl hg1)) ?_
            refine JO.setv (u' := enV x2) 55 rfl rfl ?_
            refine JO.pur rfl rfl rfl (Pur.idx rfl rfl rfl (by first | rfl | (simp; done) | omega | (rw [List.length_drop]; omega)) rfl (by omega)) ?_
            refine JO.effN rfl rfl (Eff.storeSA (z' := x2) rfl rfl rfl rfl (by omega) rfl) ?_
            rintro _ _ ⟨rfl, rfl⟩
            refine JO.nil ?_
            refine J.region rfl ?_
            refine JO.pur rfl rfl rfl (Pur.move rfl) ?_
            refine JO.pur rfl rfl rfl (Pur.add rfl rfl (wr64 (by omega))) ?_
            refine JO.pur rfl rfl rfl (Pur.assign rfl) ?_
            refine JO.nil ?_
            refine J.inBlock ?_
            refine J.region rfl ?_
            refine JO.pur rfl rfl rfl (Pur.move rfl) ?_
            refine JO.pur rfl rfl rfl (Pur.add rfl rfl (wr64 (by omega))) ?_
            refine JO.pur rfl rfl rfl (Pur.assign rfl) ?_
            refine JO.nil ?_
            exact J.weaken (.cons rfl (congrArg (Value.int .i64) (by rw [← Nat.add_assoc, hst, List.length_append, List.length_singleton]; rfl)) (.cons rfl (congrArg (Value.int .i64) (by first | rfl | (dsimp only; omega))) (.cons rfl rfl (.cons rfl rfl (.cons rfl rfl .nil))))) (fun h s => by rw [← Nat.add_assoc, hst, List.length_append, List.length_singleton]; rw [hset] at s; exact SubC.out h s) (ihj (j + 1) ⟨by omega, by omega, by rw [← Nat.add_assoc, hst, List.length_append, List.length_singleton]; omega⟩ (by omega))
          · try simp only [decide_eq_true_eq, decide_eq_false_iff_not, Bool.not_eq_true', Bool.not_eq_false', Bool.and_eq_true, Bool.or_eq_true, Bool.and_eq_false_iff, Bool.or_eq_false_iff, Option.isNone_some, Option.isSome_some, Option.isNone_none, Option.isSome_none, Int.not_lt, Int.not_le, beq_iff_eq, beq_eq_false_iff_ne, bne_iff_ne, ne_eq, Bool.not_not, Decidable.not_not] at h49
            have hst : (cptN enK es (k + j + 1)) = (cptN enK es (k + j)) := cptN_yes hX2 (by omega) (by rw [h49, kA_of hY2])
            refine J.condF rfl rfl ?_
            refine J.skip rfl ?_
            refine J.inBlock ?_
            refine J.region rfl ?_
            refine JO.pur rfl rfl rfl (Pur.move rfl) ?_
            refine JO.pur rfl rfl rfl (Pur.add rfl rfl (wr64 (by omega))) ?_
            refine JO.pur rfl rfl rfl (Pur.assign rfl) ?_
            refine JO.nil ?_
            exact J.weaken (.cons rfl (congrArg (Value.int .i64) (by rw [← Nat.add_assoc, hst])) (.cons rfl (congrArg (Value.int .i64) (by first | rfl | (dsimp only; omega))) (.cons rfl rfl (.cons rfl rfl (.cons rfl rfl .nil))))) (fun h s => by rw [← Nat.add_assoc, hst]; exact SubC.out h s) (ihj (j + 1) ⟨by omega, by omega, by rw [← Nat.add_assoc, hst]; omega⟩ (by omega))
        · try simp only [decide_eq_true_eq, decide_eq_false_iff_not, Bool.not_eq_true', Bool.not_eq_false', Bool.and_eq_true, Bool.or_eq_true, Bool.and_eq_false_iff, Bool.or_eq_false_iff, Option.isNone_some, Option.isSome_some, Option.isNone_none, Option.isSome_none, Int.not_lt, Int.not_le, beq_iff_eq, beq_eq_false_iff_ne, bne_iff_ne, ne_eq, Bool.not_not, Decidable.not_not] at h35
          have hje : k + j = es.length := by omega
          refine J.condF rfl rfl ?_
          refine J.exit rfl rfl ?_
          refine J.seq rfl ?_
          refine J.region rfl ?_
          refine JO.pur rfl rfl rfl (Pur.move rfl) ?_
          refine JO.pur rfl rfl rfl (Pur.move rfl) ?_
          refine JO.pur rfl rfl rfl (Pur.slice1 rfl rfl rfl (by omega) (by omega)) ?_
          refine JO.imp (fun h s => cut_sl (E := enE) (a := a) (cap := cap) (cptN enK es (k + j)).length s) ?_
          rw [List.take_left' rfl]
          refine JO.effN rfl rfl (Eff.clearSpare rfl rfl rfl rfl (by omega) (by decide)) ?_
          rintro _ _ ⟨rfl, rfl⟩
          refine JO.nil ?_
          refine J.seq rfl ?_
          refine J.region rfl ?_
          refine JO.pur rfl rfl rfl (Pur.move rfl) ?_
          refine JO.pur rfl rfl rfl (Pur.move rfl) ?_
          refine JO.pur rfl rfl rfl (Pur.slice0 rfl rfl rfl (by omega)) ?_
          refine JO.pur rfl rfl rfl (Pur.assign rfl) ?_
          refine JO.nil ?_
          refine J.ret rfl rfl ?_
          refine ⟨_, _, ⟨rfl, rfl⟩, by rw [hje]; rfl, fun h s => ?_⟩
          rw [hje] at s
          exact SubC.out h s
      · try simp only [decide_eq_true_eq, decide_eq_false_iff_not, Bool.not_eq_true', Bool.not_eq_false', Bool.and_eq_true, Bool.or_eq_true, Bool.and_eq_false_iff, Bool.or_eq_false_iff, Option.isNone_some, Option.isSome_some, Option.isNone_none, Option.isSome_none, Int.not_lt, Int.not_le, beq_iff_eq, beq_eq_false_iff_ne, bne_iff_ne, ne_eq, Bool.not_not, Decidable.not_not] at h28
        refine J.condF rfl rfl ?_
        refine J.skip rfl ?_
        refine J.inBlock ?_
        refine J.region rfl ?_
        refine JO.pur rfl rfl rfl (Pur.move rfl) ?_
        refine JO.pur rfl rfl rfl (Pur.add rfl rfl (wr64 (by omega))) ?_
        refine JO.pur rfl rfl rfl (Pur.assign rfl) ?_
        refine JO.nil ?_
        exact J.weaken (.cons rfl (congrArg (Value.int .i64) (by first | rfl | (dsimp only; omega))) (.cons rfl rfl (.cons rfl rfl .nil))) (by first | exact fun _ h => h | exact SubC.out | (dsimp only; exact SubC.out)) (ihk (k + 1) ⟨by omega, by omega, by rw [cptN_no hX (fun g => h28 (by rw [g.2, kA_of hY])), hck]; exact (take_get hX).symm⟩ (by omega))
    · try simp only [decide_eq_true_eq, decide_eq_false_iff_not, Bool.not_eq_true', Bool.not_eq_false', Bool.and_eq_true, Bool.or_eq_true, Bool.and_eq_false_iff, Bool.or_eq_false_iff, Option.isNone_some, Option.isSome_some, Option.isNone_none, Option.isSome_none, Int.not_lt, Int.not_le, beq_iff_eq, beq_eq_false_iff_ne, bne_iff_ne, ne_eq, Bool.not_not, Decidable.not_not] at h15
      have hke : k = es.length := by omega
      refine J.condF rfl rfl ?_
      refine J.exit rfl rfl ?_
      refine J.seq rfl ?_
      refine J.region rfl ?_
      refine JO.pur rfl rfl rfl (Pur.move rfl) ?_
      refine JO.pur rfl rfl rfl (Pur.assign rfl) ?_
      refine JO.nil ?_
      refine J.ret rfl rfl ?_
      have hsh : cptN enK es es.length = es := by rw [hke] at hck; rw [hck]; exact List.take_length
      refine ⟨_, _, ⟨rfl, rfl⟩, by rw [hsh]; rfl, fun h s => ?_⟩
      rw [hsh]
      exact SubC.out h s

theorem Pur_cap {P : Program} {F : Fr} {L : List Asn} {dst : Option Tmp} {ty : TypeId} {pos : String} {aft : Array Edge} {gd : Option (Nat × Bool)} {t e m by_ : Nat} {z : Value} [ha : SlT P t e m by_ z] {x : Operand} {a : Option Addr} {n cap : Nat} (hx : ev F x = some (.slice a n cap)) :
    Pur P F L ⟨dst, .call ⟨.builtin .cap, #[x], #[t]⟩, ty, pos, aft, gd⟩ (.int .i64 cap) := fun ρ w hρ _ => by
  obtain ⟨i', hu, _⟩ := sltB_spec ha.out
  simp [execOp, resolve, invoke, builtin, Builtin.cap_, hρ _ _ hx, hu, underlying, goInt, go_sem]
theorem grow_ok {L : List Asn} {m : Nat} (hm : m ≤ 1000000) :
    CallS Try.prog 162 [.slice none 0 0, .int .i64 (m : Int)].toArray L (fun v M => ∃ a' c', v = .slice a' 0 c' ∧ M = sl hE a' c' [] :: L) := by
  refine CallS.ent ?_
  refine CallS.enter Try.func162 rfl rfl rfl rfl rfl ?_
  refine J.seq rfl ?_
  refine J.region rfl ?_
  refine JO.pur rfl rfl rfl (Pur.assign rfl) ?_
  refine JO.nil ?_
  refine J.seq rfl ?_
  refine J.seq rfl ?_
  refine J.region rfl ?_
  refine JO.pur rfl rfl rfl (Pur.move rfl) ?_
  refine JO.pur rfl rfl rfl (Pur.lss rfl rfl) ?_
  refine JO.nil ?_
  refine J.setv (u' := .bool false) 6 rfl (congrArg Value.bool (decide_eq_false (by omega))) ?_
  refine J.condF rfl rfl ?_
  refine J.skip rfl ?_
  refine J.seq rfl ?_
  refine J.seq rfl ?_
  refine J.region rfl ?_
  refine JO.pur rfl rfl rfl (Pur.move rfl) ?_
  refine JO.pur rfl rfl rfl (Pur.move rfl) ?_
  refine JO.pur rfl rfl rfl (Pur_cap rfl) ?_
  refine JO.pur rfl rfl rfl (Pur.move rfl) ?_
  refine JO.pur rfl rfl rfl (Pur.len rfl) ?_
  refine JO.pur rfl rfl rfl (Pur.sub rfl rfl (wr64 (by omega))) ?_
  refine JO.pur rfl rfl rfl (Pur.sub rfl rfl (wr64 (by omega))) ?_
  refine JO.setv (u' := .int .i64 (m : Int)) 14 rfl (congrArg (Value.int .i64) (by omega)) ?_
  refine JO.pur rfl rfl rfl (Pur.assign rfl) ?_
  refine JO.nil ?_
  refine J.seq rfl ?_
  refine J.region rfl ?_
  refine JO.pur rfl rfl rfl (Pur.move rfl) ?_
  refine JO.pur rfl rfl rfl (Pur.gtr rfl rfl) ?_
  refine JO.nil ?_
  refine J.splitB 16 rfl (fun h16 => ?_) (fun h16 => ?_)
  · try simp only [decide_eq_true_eq, decide_eq_false_iff_not, Bool.not_eq_true', Bool.not_eq_false', Bool.and_eq_true, Bool.or_eq_true, Bool.and_eq_false_iff, Bool.or_eq_false_iff, Option.isNone_some, Option.isSome_some, Option.isNone_none, Option.isSome_none, Int.not_lt, Int.not_le, beq_iff_eq, beq_eq_false_iff_ne, bne_iff_ne, ne_eq, Bool.not_not, Decidable.not_not] at h16
    refine J.condT rfl rfl ?_
    refine J.imp (fun h s => sl_nil_new (E := hE) s) ?_
    refine J.region rfl ?_
    refine JO.pur rfl rfl rfl (Pur.move rfl) ?_
    refine JO.pur rfl rfl rfl (Pur.move rfl) ?_
    refine JO.pur rfl rfl rfl (Pur_cap rfl) ?_
    refine JO.pur rfl rfl rfl (Pur.slice0 rfl rfl rfl (by omega)) ?_
    refine JO.pur rfl rfl rfl (Pur.move rfl) ?_
    refine JO.eff rfl rfl rfl (Eff.appendZ (E := hE) (xs := []) ⟨none, 0, 0⟩ (k := m) (kn := .i64) (by kernel_rfl) rfl rfl rfl rfl rfl rfl rfl (by omega) (by simp; omega) (by simp; omega)) ?_
    rintro _ _ ⟨a22, c22, rfl, rfl⟩
    refine JO.pur rfl rfl rfl (Pur.move rfl) ?_
    refine JO.pur rfl rfl rfl (Pur.len rfl) ?_
    refine JO.pur rfl rfl rfl (Pur.slice0 rfl rfl rfl (Nat.zero_le _)) ?_
    refine JO.pur rfl rfl rfl (Pur.assign rfl) ?_
    refine JO.nil ?_
    refine J.seq rfl ?_
    refine J.region rfl ?_
    refine JO.pur rfl rfl rfl (Pur.move rfl) ?_
    refine JO.pur rfl rfl rfl (Pur.assign rfl) ?_
    refine JO.nil ?_
    refine J.ret rfl rfl ?_
    refine ⟨_, _, ⟨a22, c22, rfl, rfl⟩, rfl, fun h s => ?_⟩
    have s2 := cut_sl (E := hE) (a := a22) (cap := c22) 0 s
    rw [List.take_zero] at s2
    exact SubC.out h s2
  · try simp only [decide_eq_true_eq, decide_eq_false_iff_not, Bool.not_eq_true', Bool.not_eq_false', Bool.and_eq_true, Bool.or_eq_true, Bool.and_eq_false_iff, Bool.or_eq_false_iff, Option.isNone_some, Option.isSome_some, Option.isNone_none, Option.isSome_none, Int.not_lt, Int.not_le, beq_iff_eq, beq_eq_false_iff_ne, bne_iff_ne, ne_eq, Bool.not_not, Decidable.not_not] at h16
    refine J.condF rfl rfl ?_
    refine J.skip rfl ?_
    refine J.seq rfl ?_
    refine J.region rfl ?_
    refine JO.pur rfl rfl rfl (Pur.move rfl) ?_
    refine JO.pur rfl rfl rfl (Pur.assign rfl) ?_
    refine JO.nil ?_
    refine J.ret rfl rfl ?_
    refine ⟨_, _, ⟨none, 0, rfl, rfl⟩, rfl, fun h s => ?_⟩
    exact sl_nil_new (SubC.out h s)

def lE : Enc Hdr := hdrE 25
def cat2 (hs gs : List Hdr) (q : Nat) : List Hdr := if q = 0 then [] else if q = 1 then hs else hs ++ gs
theorem concat_ok {L : List Asn} {sa la lb : Option Addr} {n cap lc lc2 : Nat} {hs gs : List Hdr} [hS : SlIn lE L sa [⟨la, hs.length, lc⟩, ⟨lb, gs.length, lc2⟩]] [hA : SlIn hE L la hs] [hB : SlIn hE L lb gs] (hn : n = 2) (hnA : la = none → hs.length = 0 ∧ lc = 0) (hnB : lb = none → gs.length = 0 ∧ lc2 = 0) (hb1 : hs.length ≤ 400) (hb2 : gs.length ≤ 400) :
    CallS Try.prog 115 [.slice sa n cap].toArray L (fun v M => ∃ a' c', v = .slice a' (cat2 hs gs 2).length c' ∧ M = sl hE a' c' (hs ++ gs) :: L) := by
  subst hn
  refine CallS.ent ?_
  refine CallS.enter Try.func115 rfl rfl rfl rfl rfl ?_
  refine J.seq rfl ?_
  refine J.region rfl ?_
  refine JO.pur rfl rfl rfl (Pur.assign rfl) ?_
  refine JO.nil ?_
  refine J.seq rfl ?_
  refine J.region rfl ?_
  refine JO.pur rfl rfl rfl (Pur.assign rfl) ?_
  refine JO.nil ?_
  refine J.seq rfl ?_
  refine J.seq rfl ?_
  refine J.region rfl ?_
  refine JO.pur rfl rfl rfl (Pur.move rfl) ?_
  refine JO.pur rfl rfl rfl (Pur.len rfl) ?_
  refine JO.pur rfl rfl rfl (Pur.move rfl) ?_
  refine JO.nil ?_
  refine J.block rfl ?_
  refine J.loopF (ι := Nat) (fun q => q ≤ 2) (fun q => [(3, .int .i64 ((cat2 hs gs (q)).length : Int)), (11, .int .i64 (q : Int))]) [(0, _), (9, _), (10, _)] (fun q => L) (fun q => 2 - q) 0 rfl (.cons rfl rfl (.cons rfl rfl (.cons rfl rfl .nil))) (.cons rfl rfl (.cons rfl rfl .nil)) (by first | exact fun _ h => h | exact SubC.out | (dsimp only; exact SubC.out)) (Nat.zero_le _) ?_
  rintro q hq ihq
  try dsimp only
  refine J.seq rfl ?_
  refine J.region rfl ?_
  refine JO.pur rfl rfl rfl (Pur.lss rfl rfl) ?_
  refine JO.nil ?_
  refine J.seq rfl ?_
  refine J.splitB 12 rfl (fun h12 => ?_) (fun h12 => ?_)
  · try simp only [decide_eq_true_eq, decide_eq_false_iff_not, Bool.not_eq_true', Bool.not_eq_false', Bool.and_eq_true, Bool.or_eq_true, Bool.and_eq_false_iff, Bool.or_eq_false_iff, Option.isNone_some, Option.isSome_some, Option.isNone_none, Option.isSome_none, Int.not_lt, Int.not_le, beq_iff_eq, beq_eq_false_iff_ne, bne_iff_ne, ne_eq, Bool.not_not, Decidable.not_not] at h12
    have hq2 : q = 0 ∨ q = 1 := by omega
    obtain ⟨da, dn, dc, X, hH, hdn, hI, hcat, hnl, hxb⟩ : ∃ (da : Option Addr) (dn dc : Nat) (X : List Hdr), ([⟨la, hs.length, lc⟩, ⟨lb, gs.length, lc2⟩] : List Hdr)[q]? = some ⟨da, dn, dc⟩ ∧ dn = X.length ∧ SlIn hE L da X ∧ cat2 hs gs (q + 1) = cat2 hs gs q ++ X ∧ (da = none → dn = 0 ∧ dc = 0) ∧ X.length ≤ 400 := by
      rcases hq2 with rfl | rfl
      · exact ⟨la, hs.length, lc, hs, rfl, rfl, inferInstance, rfl, hnA, hb1⟩
      · exact ⟨lb, gs.length, lc2, gs, rfl, rfl, inferInstance, rfl, hnB, hb2⟩
    haveI := hI
    have hcl : (cat2 hs gs (q + 1)).length = (cat2 hs gs q).length + X.length := by rw [hcat, List.length_append]
    have hc2 : (cat2 hs gs q).length ≤ 800 := by unfold cat2; split; simp; split; omega; rw [List.length_append]; omega
    refine J.condT rfl rfl ?_
    refine J.skip rfl ?_
    refine J.seq rfl ?_
    refine J.block rfl ?_
    refine J.seq rfl ?_
    refine J.region rfl ?_
    refine JO.pur rfl rfl rfl (Pur.idx rfl rfl rfl (by first | rfl | (simp; done) | omega) rfl (by simp; omega)) ?_
    refine JO.pur rfl rfl rfl (Pur.load rfl (CellIn.el0 rfl hH rfl)) ?_
    refine JO.setv (u' := .slice da dn dc) 14 rfl rfl ?_
    refine JO.pur rfl rfl rfl (Pur.assign rfl) ?_
    refine JO.nil ?_
    refine J.seq rfl ?_
    refine J.region rfl ?_
    refine JO.pur rfl rfl rfl (Pur.move rfl) ?_
    refine JO.pur rfl rfl rfl (Pur.move rfl) ?_
    refine JO.pur rfl rfl rfl (Pur.len rfl) ?_
    refine JO.pur rfl rfl rfl (Pur.add rfl rfl (wr64 (by omega))) ?_
    refine JO.pur rfl rfl rfl (Pur.assign rfl) ?_
    refine JO.nil ?_
    refine J.seq rfl ?_
    refine J.region rfl ?_
    refine JO.pur rfl rfl rfl (Pur.move rfl) ?_
    refine JO.pur rfl rfl rfl (Pur.lss rfl rfl) ?_
    refine JO.nil ?_
    refine J.setv (u' := .bool false) 20 rfl (congrArg Value.bool (decide_eq_false (by omega))) ?_
    refine J.condF rfl rfl ?_
    refine J.skip rfl ?_
    refine J.inBlock ?_
    refine J.region rfl ?_
    refine JO.pur rfl rfl rfl (Pur.add rfl rfl (wr64 (by omega))) ?_
    refine JO.pur rfl rfl rfl (Pur.move rfl) ?_
    refine JO.nil ?_
    exact J.weaken (.cons rfl (congrArg (Value.int .i64) (by rw [hcl]; omega)) (.cons rfl (congrArg (Value.int .i64) (by first | rfl | (dsimp only; omega))) (.cons rfl rfl (.cons rfl rfl (.cons rfl rfl .nil))))) (by first | exact fun _ h => h | exact SubC.out | (dsimp only; exact SubC.out)) (ihq (q + 1) (by omega) (by omega))
  · try simp only [decide_eq_true_eq, decide_eq_false_iff_not, Bool.not_eq_true', Bool.not_eq_false', Bool.and_eq_true, Bool.or_eq_true, Bool.and_eq_false_iff, Bool.or_eq_false_iff, Option.isNone_some, Option.isSome_some, Option.isNone_none, Option.isSome_none, Int.not_lt, Int.not_le, beq_iff_eq, beq_eq_false_iff_ne, bne_iff_ne, ne_eq, Bool.not_not, Decidable.not_not] at h12
    have hqe : q = 2 := by omega
    have hcl2 : (cat2 hs gs 2).length ≤ 800 := by show (hs ++ gs).length ≤ 800; rw [List.length_append]; omega
    refine J.condF rfl rfl ?_
    refine J.exit rfl rfl ?_
    refine J.seq rfl ?_
    refine J.region rfl ?_
    refine JO.pur rfl rfl rfl (Pur.move rfl) ?_
    refine JO.eff rfl rfl rfl (Eff.call rfl (grow_ok (m := (cat2 hs gs q).length) (by rw [hqe]; omega))) ?_
    rintro _ _ ⟨a24, c24, rfl, rfl⟩
    refine JO.pur rfl rfl rfl (Pur.assign rfl) ?_
    refine JO.nil ?_
    refine J.seq rfl ?_
    refine J.seq rfl ?_
    refine J.region rfl ?_
    refine JO.pur rfl rfl rfl (Pur.move rfl) ?_
    refine JO.pur rfl rfl rfl (Pur.len rfl) ?_
    refine JO.pur rfl rfl rfl (Pur.move rfl) ?_
    refine JO.nil ?_
    refine J.block rfl ?_
    refine J.loopF (ι := Nat × Option Addr × Nat) (fun q => q.1 ≤ 2) (fun q => [(6, .slice q.2.1 (cat2 hs gs (q.1)).length q.2.2), (27, .int .i64 (q.1 : Int))]) [(25, _), (26, _)] (fun q => sl hE q.2.1 q.2.2 (cat2 hs gs (q.1)) :: L) (fun q => 2 - q.1) (0, a24, c24) rfl (.cons rfl rfl (.cons rfl rfl .nil)) (.cons rfl rfl (.cons rfl rfl .nil)) (by first | exact fun _ h => h | exact SubC.out | (dsimp only; exact SubC.out)) (Nat.zero_le _) ?_
    rintro ⟨q, a6, c6⟩ hq ihj
    try dsimp only
    dsimp only at hq
    refine J.seq rfl ?_
    refine J.region rfl ?_
    refine JO.pur rfl rfl rfl (Pur.lss rfl rfl) ?_
    refine JO.nil ?_
    refine J.seq rfl ?_
    refine J.splitB 28 rfl (fun h28 => ?_) (fun h28 => ?_)
    · try simp only [decide_eq_true_eq, decide_eq_false_iff_not, Bool.not_eq_true', Bool.not_eq_false', Bool.and_eq_true, Bool.or_eq_true, Bool.and_eq_false_iff, Bool.or_eq_false_iff, Option.isNone_some, Option.isSome_some, Option.isNone_none, Option.isSome_none, Int.not_lt, Int.not_le, beq_iff_eq, beq_eq_false_iff_ne, bne_iff_ne, ne_eq, Bool.not_not, Decidable.not_not] at h28
      have hq2 : q = 0 ∨ q = 1 := by omega
      obtain ⟨da, dn, dc, X, hH, hdn, hI, hcat, hnl, hxb⟩ : ∃ (da : Option Addr) (dn dc : Nat) (X : List Hdr), ([⟨la, hs.length, lc⟩, ⟨lb, gs.length, lc2⟩] : List Hdr)[q]? = some ⟨da, dn, dc⟩ ∧ dn = X.length ∧ SlIn hE L da X ∧ cat2 hs gs (q + 1) = cat2 hs gs q ++ X ∧ (da = none → dn = 0 ∧ dc = 0) ∧ X.length ≤ 400 := by
        rcases hq2 with rfl | rfl
        · exact ⟨la, hs.length, lc, hs, rfl, rfl, inferInstance, rfl, hnA, hb1⟩
        · exact ⟨lb, gs.length, lc2, gs, rfl, rfl, inferInstance, rfl, hnB, hb2⟩
      haveI := hI
      have hcl : (cat2 hs gs (q + 1)).length = (cat2 hs gs q).length + X.length := by rw [hcat, List.length_append]
      have hc2 : (cat2 hs gs q).length ≤ 800 := by unfold cat2; split; simp; split; omega; rw [List.length_append]; omega
      refine J.condT rfl rfl ?_
      refine J.skip rfl ?_
      refine J.seq rfl ?_
      refine J.block rfl ?_
      refine J.seq rfl ?_
      refine J.region rfl ?_
      refine JO.pur rfl rfl rfl (Pur.idx rfl rfl rfl (by first | rfl | (simp; done) | omega) rfl (by simp; omega)) ?_
      refine JO.pur rfl rfl rfl (Pur.load rfl (CellIn.el0 rfl hH rfl)) ?_
      refine JO.setv (u' := .slice da dn dc) 30 rfl rfl ?_
      refine JO.pur rfl rfl rfl (Pur.assign rfl) ?_
      refine JO.nil ?_
      refine J.region rfl ?_
      refine JO.pur rfl rfl rfl (Pur.move rfl) ?_
      refine JO.pur rfl rfl rfl (Pur.move rfl) ?_
      refine JO.eff rfl rfl rfl (Eff.append rfl rfl rfl rfl (by first | rfl | omega | (simp; done) | (simp; omega)) (by first | rfl | omega | (simp; done) | (simp; omega)) (by decide) (by omega) (by omega) hnl) ?_
      rintro _ _ ⟨a33, c33, rfl, rfl⟩
      refine JO.pur rfl rfl rfl (Pur.assign rfl) ?_
      refine JO.nil ?_
      refine J.inBlock ?_
      refine J.region rfl ?_
      refine JO.pur rfl rfl rfl (Pur.add rfl rfl (wr64 (by omega))) ?_
      refine JO.pur rfl rfl rfl (Pur.move rfl) ?_
      refine JO.nil ?_
      exact J.weaken (.cons rfl (by dsimp only; rw [hcl]) (.cons rfl (congrArg (Value.int .i64) (by first | rfl | (dsimp only; omega))) (.cons rfl rfl (.cons rfl rfl .nil)))) (fun h s => by dsimp only; rw [hcat]; exact SubC.out h s) (ihj (q + 1, a33, c33) (by dsimp only; omega) (by dsimp only; omega))
    · try simp only [decide_eq_true_eq, decide_eq_false_iff_not, Bool.not_eq_true', Bool.not_eq_false', Bool.and_eq_true, Bool.or_eq_true, Bool.and_eq_false_iff, Bool.or_eq_false_iff, Option.isNone_some, Option.isSome_some, Option.isNone_none, Option.isSome_none, Int.not_lt, Int.not_le, beq_iff_eq, beq_eq_false_iff_ne, bne_iff_ne, ne_eq, Bool.not_not, Decidable.not_not] at h28
      have hqe : q = 2 := by omega
      refine J.condF rfl rfl ?_
      refine J.exit rfl rfl ?_
      refine J.seq rfl ?_
      refine J.region rfl ?_
      refine JO.pur rfl rfl rfl (Pur.move rfl) ?_
      refine JO.pur rfl rfl rfl (Pur.assign rfl) ?_
      refine JO.nil ?_
      refine J.ret rfl rfl ?_
      refine ⟨_, _, ⟨a6, c6, rfl, rfl⟩, by rw [hqe]; rfl, fun h s => ?_⟩
      rw [hqe] at s
      change Sat h (sl hE a6 c6 (hs ++ gs) :: L) at s
      exact SubC.out h s

end Go.Proofs.Ytnhippfllgnngaa

/- The text SpPlainC. -/
set_option linter.unusedVariables false
set_option linter.unusedSimpArgs false
namespace Go.Proofs.Ytnhippfllgnngaa
open Go Go.KK Dm
theorem sub_lift {α β : Type} {f : α → β} {ys : List β} {gs : List α} (h : ys.Sublist (gs.map f)) : ∃ gs2 : List α, gs2.Sublist gs ∧ gs2.map f = ys := by
  obtain ⟨l, h1, h2⟩ := List.sublist_map_iff.1 h
  exact ⟨l, h1, h2.symm⟩
theorem plc_cpt {rs : List Rg} {es ys : List (Int × Hdr)} {xss : List (List Int)} (h : es.map (·.1) = xss.map (atS rs)) (p : ys.Sublist es) : ∃ yss : List (List Int), yss.Sublist xss ∧ ys.map (·.1) = yss.map (atS rs) ∧ ys.length = yss.length ∧ ((ys.map (·.2)).zip yss).Sublist ((es.map (·.2)).zip xss) := by
  have hl : es.length = xss.length := by have := congrArg List.length h; simpa using this
  obtain ⟨e1, e2⟩ := fst_zip hl
  obtain ⟨gs, pg, eg⟩ := sub_lift (ys := ys) (f := fun g : (Int × Hdr) × List Int => g.1) (gs := es.zip xss) (by rw [e1]; exact p)
  refine ⟨gs.map (·.2), by have := pg.map (·.2); rwa [e2] at this, ?_, by rw [← eg]; simp, ?_⟩
  · rw [← eg, List.map_map, List.map_map]
    apply List.map_congr_left
    intro g hg
    exact zip_fst_at h g (pg.subset hg)
  · rw [zip_map_snd, zip_map_snd, ← eg, zip_back]
    exact pg.map _
theorem srt_pw {rs : List Rg} {es : List (Int × Hdr)} {zs : List (List Int)} {r : Int → Int → Prop} (h : es.map (·.1) = zs.map (atS rs)) (hp : es.Pairwise fun x y => r (enK x) (enK y)) : zs.Pairwise fun x y => r (atS rs x) (atS rs y) := by
  have h1 : (es.map (·.1)).Pairwise r := List.pairwise_map.2 hp
  rw [h] at h1
  exact List.pairwise_map.1 h1
/-- What is made of all places of two lists. -/
theorem add_made {rs : List Rg} {ls zss zs : List (List Int)} {es cs : List (Int × Hdr)} (hok : okD rs) (hall : ∀ x ∈ ls, (plD rs x).isSome = true) (hp : zss.Perm ls) (he : es.map (·.1) = zss.map (atS rs)) (hs : srtd enK es) (hc : cs = cptN enK es es.length) (hz : zs.Sublist zss) (hz1 : cs.map (·.1) = zs.map (atS rs)) : madeL rs (ls.map (atS rs)) = zs := by
  have hsome : ∀ y ∈ zs, (plD rs y).isSome = true := fun y hy => hall y (hp.mem_iff.1 (hz.subset hy))
  have hasc : zs.Pairwise fun x y => atS rs x < atS rs y := srt_pw (r := (· < ·)) hz1 (by rw [hc]; exact cptN_asc hs _ (Nat.le_refl _))
  rw [← made_of hok hsome hasc]
  refine made_congr fun t => ?_
  have h1 : (t ∈ ls.map (atS rs)) ↔ t ∈ es.map (·.1) := by rw [he]; exact ((hp.map (atS rs)).mem_iff).symm
  rw [h1, ← hz1]
  constructor
  · intro h
    obtain ⟨e, he1, rfl⟩ := List.mem_map.1 h
    obtain ⟨i, hi, e2⟩ := List.getElem_of_mem he1
    obtain ⟨c, hc1, hc2⟩ := cptN_mem (ky := enK) hs es.length (Nat.le_refl _) i e hi (by rw [List.getElem?_eq_getElem hi, e2])
    rw [← hc] at hc1
    exact List.mem_map.2 ⟨c, hc1, hc2⟩
  · intro h
    obtain ⟨c, hc1, rfl⟩ := List.mem_map.1 h
    rw [hc] at hc1
    have := (cptN_sub (ky := enK) (es := es) es.length (Nat.le_refl _)).subset hc1
    rw [List.take_length] at this
    exact List.mem_map.2 ⟨c, this, rfl⟩
abbrev SpRn := (List Rg × List (List Int)) × Int
/-- All indexes of a list added. -/
def addS (rs : List Rg) (xss yss : List (List Int)) : SpRn := if ¬ okS rs xss then (([], []), 50) else if ¬ ∀ y ∈ yss, (plV rs y).2 = 0 then (([], []), 2) else
  if 400 < (madeL rs ((xss ++ yss).map (atS rs))).length then (([], []), 4) else ((rs, madeL rs ((xss ++ yss).map (atS rs))), 0)
def addN (rs : List Rg) (xss yss : List (List Int)) : Int := if (addS rs xss yss).2 ≠ 0 then 0 else ((addS rs xss yss).1.2.length : Int) - (xss.length : Int)
theorem plc_app {rs : List Rg} {xss yss : List (List Int)} (hs : okS rs xss) : (plcV rs (xss ++ yss)).2 = decide (∀ y ∈ yss, (plV rs y).2 = 0) := by
  by_cases h : ∀ y ∈ yss, (plV rs y).2 = 0
  · rw [plcV_yes (fun x hx => ?_), decide_eq_true h]
    rcases List.mem_append.1 hx with hx | hx
    · exact (plV_ok hs.1 x).1.2 (okS_some hs hx)
    · exact h x hx
  · rw [plcV_no (fun g => h fun y hy => g y (List.mem_append_right _ hy)), decide_eq_false h]
instance RowsR.app {α : Type} {E : Enc α} {L : List Asn} {hs gs : List Hdr} {xss yss : List (List α)} [h1 : RowsR E L hs xss] [h2 : RowsR E L gs yss] : RowsR E L (hs ++ gs) (xss ++ yss) := ⟨fun h s => by
  obtain ⟨a1, b1⟩ := h1.out h s
  obtain ⟨a2, b2⟩ := h2.out h s
  have hl : hs.length = xss.length := rows_len a1
  refine ⟨by rw [List.map_append, List.map_append, a1, a2], fun i hd xs e1 e2 => ?_⟩
  by_cases hi : i < hs.length
  · rw [List.getElem?_append_left hi] at e1
    rw [List.getElem?_append_left (by omega)] at e2
    exact b1 i hd xs e1 e2
  · rw [List.getElem?_append_right (by omega)] at e1
    rw [List.getElem?_append_right (by omega), ← hl] at e2
    exact b2 _ hd xs e1 e2⟩
end Go.Proofs.Ytnhippfllgnngaa
