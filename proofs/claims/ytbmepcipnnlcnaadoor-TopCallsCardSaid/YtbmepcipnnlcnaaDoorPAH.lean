/-
  A part of the proof of the claim that this folder bears.
-/
import Derived.Test.YtbmepcipnnlcnaaDoorPAG
import Derived.Test.YtbmepcipnnlcnaaDoorPAF
/- The text J9. -/
set_option linter.unusedVariables false
set_option linter.unusedSimpArgs false
set_option maxRecDepth 10000
namespace Go.Proofs.YtbmepcipnnlcnaaDoor
open Go Go.KK Sg

theorem resolve_ok {L : List Asn} [hT : Tab L] {la aa : Option Addr} {n cap m capa : Nat} {ls : List Sn} {xss : List (List Fm)} {ac : List Fm} {nm : ByteArray} [SlIn sgE L la ls] [hR : RowsR fmE L (ls.map Sn.h) xss] [SlIn fmE L aa ac] (hn : n = ls.length) (hm : m = ac.length) (hb : ls.length ≤ 40) (ha : ac.length ≤ 20) (hG : Okls ls xss) :
    CallS Tryd.prog 5 [.slice la n cap, .string nm, .slice aa m capa].toArray L (fun v M => ∃ pa pn pc, v = .tuple #[.int .i64 (resolveS (ls.zip xss) nm ac).1, .slice pa pn pc, .int .i64 (resolveS (ls.zip xss) nm ac).2] ∧ M = L) := by
  subst hn
  subst hm
  refine CallS.ent ?_
  refine CallS.enter Tryd.func5 rfl rfl rfl rfl rfl ?_
  refine J.seq rfl ?_
  refine J.region rfl ?_
  refine JO.eff rfl rfl rfl (Eff.box (cs := [_]) rfl rfl) ?_
  rintro _ _ ⟨b3, rfl, rfl⟩
  refine JO.eff rfl rfl rfl (Eff.box (cs := [_]) rfl rfl) ?_
  rintro _ _ ⟨b5, rfl, rfl⟩
  refine JO.pur rfl rfl rfl (Pur.assign rfl) ?_
  refine JO.pur rfl rfl rfl (Pur.assign rfl) ?_
  refine JO.pur rfl rfl rfl (Pur.assign rfl) ?_
  refine JO.nil ?_
  refine J.seq rfl ?_
  refine J.region rfl ?_
  refine JO.pur rfl rfl rfl (Pur.load rfl (CellIn.blk rfl)) ?_
  refine JO.pur rfl rfl rfl (Pur.move rfl) ?_
  refine JO.pur rfl rfl rfl (Pur.load rfl (CellIn.blk rfl)) ?_
  refine JO.eff rfl rfl rfl (Eff.call rfl (cands_ok (ls := ls) (xss := xss) (ac := ac) (nm := nm) rfl rfl hb ha hG)) ?_
  rintro _ _ ⟨ra, rc, rfl, rfl⟩
  refine JO.pur rfl rfl rfl (Pur.move rfl) ?_
  refine JO.pur rfl rfl rfl (Pur.extract rfl rfl) ?_
  refine JO.pur rfl rfl rfl (Pur.extract rfl rfl) ?_
  refine JO.pur rfl rfl rfl (Pur.assign rfl) ?_
  refine JO.pur rfl rfl rfl (Pur.assign rfl) ?_
  refine JO.nil ?_
  refine J.seq rfl ?_
  refine J.block rfl ?_
  refine J.seq rfl ?_
  refine J.region rfl ?_
  refine JO.pur rfl rfl rfl (Pur.move rfl) ?_
  refine JO.pur rfl rfl rfl (Pur.neqI rfl rfl) ?_
  refine JO.pur rfl rfl rfl (Pur.assign rfl) ?_
  refine JO.nil ?_
  refine J.splitB 24 rfl (fun h24 => ?_) (fun h24 => ?_)
  · try simp only [decide_eq_true_eq, decide_eq_false_iff_not, Bool.not_eq_true', Bool.not_eq_false', Bool.and_eq_true, Bool.or_eq_true, Bool.and_eq_false_iff, Bool.or_eq_false_iff, Option.isNone_some, Option.isSome_some, Option.isNone_none, Option.isSome_none, Int.not_lt, Int.not_le, beq_iff_eq, beq_eq_false_iff_ne, bne_iff_ne, ne_eq, Bool.not_not, Decidable.not_not] at h24
    have hok : okC (ls.zip xss) ac = false := by cases hc : okC (ls.zip xss) ac with
      | false => rfl
      | true => exact absurd (by rw [hc]; rfl) h24
    refine J.condT rfl rfl ?_
    refine J.seq rfl ?_
    refine J.region rfl ?_
    refine JO.pur rfl rfl rfl (Pur.move rfl) ?_
    refine JO.pur rfl rfl rfl (Pur.assign rfl) ?_
    refine JO.pur rfl rfl rfl (Pur.assign rfl) ?_
    refine JO.pur rfl rfl rfl (Pur.assign rfl) ?_
    refine JO.nil ?_
    refine J.ret rfl rfl ?_
    first
    | exact ⟨_, _, ⟨none, 0, 0, by rw [res_arg hok, hok]; rfl, rfl⟩, rfl, SubC.out⟩
    | exact ⟨_, _, ⟨none, 0, 0, by rw [res_none hok hfe]; rfl, rfl⟩, rfl, SubC.out⟩
    | exact ⟨_, _, ⟨_, _, _, by rw [hres]; rfl, rfl⟩, rfl, SubC.out⟩
    | exact ⟨_, _, ⟨_, _, _, by rw [res_many hok hne (fun j y hj hy => hno j y (by omega) hy)]; rfl, rfl⟩, rfl, SubC.out⟩
  · try simp only [decide_eq_true_eq, decide_eq_false_iff_not, Bool.not_eq_true', Bool.not_eq_false', Bool.and_eq_true, Bool.or_eq_true, Bool.and_eq_false_iff, Bool.or_eq_false_iff, Option.isNone_some, Option.isSome_some, Option.isNone_none, Option.isSome_none, Int.not_lt, Int.not_le, beq_iff_eq, beq_eq_false_iff_ne, bne_iff_ne, ne_eq, Bool.not_not, Decidable.not_not] at h24
    have hok : okC (ls.zip xss) ac = true := by cases hc : okC (ls.zip xss) ac with
      | true => rfl
      | false => rw [hc] at h24; exact absurd h24 (by decide)
    refine J.condF rfl rfl ?_
    refine J.seq rfl ?_
    refine J.region rfl ?_
    refine JO.pur rfl rfl rfl (Pur.move rfl) ?_
    refine JO.pur rfl rfl rfl (Pur.len rfl) ?_
    refine JO.pur rfl rfl rfl (Pur.eqlI rfl rfl) ?_
    refine JO.pur rfl rfl rfl (Pur.assign rfl) ?_
    refine JO.nil ?_
    refine J.splitB 28 rfl (fun h28 => ?_) (fun h28 => ?_)
    · try simp only [decide_eq_true_eq, decide_eq_false_iff_not, Bool.not_eq_true', Bool.not_eq_false', Bool.and_eq_true, Bool.or_eq_true, Bool.and_eq_false_iff, Bool.or_eq_false_iff, Option.isNone_some, Option.isSome_some, Option.isNone_none, Option.isSome_none, Int.not_lt, Int.not_le, beq_iff_eq, beq_eq_false_iff_ne, bne_iff_ne, ne_eq, Bool.not_not, Decidable.not_not] at h28
      have hfe : (fnd (ls.zip xss) nm ac) = [] := List.length_eq_zero_iff.1 (by have := fd_len (l := (fnd (ls.zip xss) nm ac)); omega)
      refine J.condT rfl rfl ?_
      refine J.seq rfl ?_
      refine J.region rfl ?_
      refine JO.pur rfl rfl rfl (Pur.assign rfl) ?_
      refine JO.pur rfl rfl rfl (Pur.assign rfl) ?_
      refine JO.pur rfl rfl rfl (Pur.assign rfl) ?_
      refine JO.nil ?_
      refine J.ret rfl rfl ?_
      first
      | exact ⟨_, _, ⟨none, 0, 0, by rw [res_arg hok, hok]; rfl, rfl⟩, rfl, SubC.out⟩
      | exact ⟨_, _, ⟨none, 0, 0, by rw [res_none hok hfe]; rfl, rfl⟩, rfl, SubC.out⟩
      | exact ⟨_, _, ⟨_, _, _, by rw [hres]; rfl, rfl⟩, rfl, SubC.out⟩
      | exact ⟨_, _, ⟨_, _, _, by rw [res_many hok hne (fun j y hj hy => hno j y (by omega) hy)]; rfl, rfl⟩, rfl, SubC.out⟩
    · try simp only [decide_eq_true_eq, decide_eq_false_iff_not, Bool.not_eq_true', Bool.not_eq_false', Bool.and_eq_true, Bool.or_eq_true, Bool.and_eq_false_iff, Bool.or_eq_false_iff, Option.isNone_some, Option.isSome_some, Option.isNone_none, Option.isSome_none, Int.not_lt, Int.not_le, beq_iff_eq, beq_eq_false_iff_ne, bne_iff_ne, ne_eq, Bool.not_not, Decidable.not_not] at h28
      have hne : (fnd (ls.zip xss) nm ac) ≠ [] := fun e => h28 (by rw [e]; rfl)
      refine J.condF rfl rfl ?_
      refine J.skip rfl ?_
      refine J.inBlock ?_
      refine J.seq rfl ?_
      refine J.seq rfl ?_
      refine J.region rfl ?_
      refine JO.pur rfl rfl rfl (Pur.move rfl) ?_
      refine JO.pur rfl rfl rfl (Pur.len rfl) ?_
      refine JO.pur rfl rfl rfl (Pur.move rfl) ?_
      refine JO.nil ?_
      refine J.block rfl ?_
      refine J.loopF (ι := Nat) (fun q => q ≤ (fnd (ls.zip xss) nm ac).length ∧ ∀ j y, j < q → (fnd (ls.zip xss) nm ac)[j]? = some y → bestB (ls.zip xss) ac (fnd (ls.zip xss) nm ac) y = false) (fun q => [(7, .slice none 0 0), (34, .int .i64 (q : Int))]) [(3, _), (5, _), (9, _), (32, _), (33, _)] (fun q => sl intE ra rc (fd (fnd (ls.zip xss) nm ac)) :: blk b5 (.cells #[.slice aa ac.length capa] 23 (0, 0)) :: blk b3 (.cells #[.slice la ls.length cap] 22 (0, 0)) :: L) (fun q => (fnd (ls.zip xss) nm ac).length - q) 0 rfl (.cons rfl rfl (.cons rfl rfl (.cons rfl rfl (.cons rfl rfl (.cons rfl rfl .nil))))) (.cons rfl rfl (.cons rfl rfl .nil)) (by first | exact fun _ h => h | exact SubC.out | (dsimp only; exact SubC.out)) ⟨Nat.zero_le _, fun j y hj => absurd hj (Nat.not_lt_zero j)⟩ ?_
      rintro q ⟨hq, hno⟩ ihq
      try dsimp only
      have hfl := fd_len (l := (fnd (ls.zip xss) nm ac))
      have hf40 : (fnd (ls.zip xss) nm ac).length ≤ 40 := by have := fnd_len (ps := (ls.zip xss)) (nm := nm) (ac := ac); rw [hG.zlen] at this; omega
      refine J.seq rfl ?_
      refine J.region rfl ?_
      refine JO.pur rfl rfl rfl (Pur.lss rfl rfl) ?_
      refine JO.nil ?_
      refine J.seq rfl ?_
      refine J.splitB 35 rfl (fun h35 => ?_) (fun h35 => ?_)
      · try simp only [decide_eq_true_eq, decide_eq_false_iff_not, Bool.not_eq_true', Bool.not_eq_false', Bool.and_eq_true, Bool.or_eq_true, Bool.and_eq_false_iff, Bool.or_eq_false_iff, Option.isNone_some, Option.isSome_some, Option.isNone_none, Option.isSome_none, Int.not_lt, Int.not_le, beq_iff_eq, beq_eq_false_iff_ne, bne_iff_ne, ne_eq, Bool.not_not, Decidable.not_not] at h35
        have hql : q < (fnd (ls.zip xss) nm ac).length := by omega
        obtain ⟨i, hI⟩ : ∃ i, (fnd (ls.zip xss) nm ac)[q]? = some i := ⟨_, List.getElem?_eq_getElem hql⟩
        obtain ⟨p, hp, hpf, -⟩ := fnd_mem (List.mem_of_getElem? hI)
        have hil : i < ls.length := by have h1 := (List.getElem?_eq_some_iff.1 hp).1; rw [hG.zlen] at h1; exact h1
        obtain ⟨x, fs, hX, hF, hZ, hxn, hxb, hxm⟩ := hG.get hil
        haveI := hR.row (hd_get hX) hF
        obtain rfl : (x, fs) = p := Option.some.inj (hZ.symm.trans hp)
        dsimp only at hpf
        have hwi := (way_atR hp hpf).symm
        refine J.condT rfl rfl ?_
        refine J.skip rfl ?_
        refine J.seq rfl ?_
        refine J.block rfl ?_
        refine J.seq rfl ?_
        refine J.region rfl ?_
        refine JO.pur rfl rfl rfl (Pur.idx rfl rfl rfl (by first | rfl | (simp; done) | omega) rfl (by omega)) ?_
        refine JO.pur rfl rfl rfl (Pur.load rfl (CellIn.el0 rfl (fd_get hI) rfl)) ?_
        refine JO.setv (u' := .int .i64 (i : Int)) 37 rfl rfl ?_
        refine JO.eff rfl rfl rfl (Eff.alloc (cs := [_]) rfl) ?_
        rintro _ _ ⟨b12, rfl, rfl⟩
        refine JO.effN rfl rfl (Eff.storeB rfl rfl rfl .head) ?_
        rintro _ _ ⟨rfl, rfl⟩
        refine JO.nil ?_
        refine J.seq rfl ?_
        refine J.mask0 (n := 12) [10] rfl Tryd.mixed rfl (by kernel_rfl) ?_
        refine JM.take 0 (fun _ h => h) rfl (by kernel_rfl) rfl rfl rfl (m' := 1) rfl (Pur.load rfl (CellIn.blk rfl)) ?_
        refine JM.take 1 (fun _ h => h) rfl (by kernel_rfl) rfl rfl rfl (m' := 3) rfl (Pur.load rfl (CellIn.blk rfl)) ?_
        refine JM.take 2 (fun _ h => h) rfl (by kernel_rfl) rfl rfl rfl (m' := 7) rfl (Pur.idx rfl rfl rfl (by first | rfl | (simp; done) | omega) rfl hil) ?_
        refine JM.take 3 (fun _ h => h) rfl (by kernel_rfl) rfl rfl rfl (m' := 15) rfl (Pur.loadA rfl rfl rfl (CellsIn.el rfl hX)) ?_
        refine JM.setv (u' := sgV x) 42 rfl rfl ?_
        refine JM.take 4 (fun _ h => h) rfl (by kernel_rfl) rfl rfl rfl (m' := 31) rfl (Pur.load rfl (CellIn.blk rfl)) ?_
        refine JM.many (rs := [5, 9]) (by kernel_rfl) rfl (fun i hi => ?_)
        simp only [List.mem_cons, List.not_mem_nil, or_false] at hi
        rcases hi with rfl | rfl
        · skip
          refine JMi.eff rfl rfl rfl rfl (m' := 63) rfl (Eff.call rfl (waysOf_ok (s := x) (fs := fs) (ac := ac) hxn rfl hxb ha)) ?_
          rintro _ _ ⟨r44, c44, rfl, rfl⟩
          refine ⟨.inr (fun _ h => h.tail), ?_⟩
          refine JM.take 6 (fun _ h => h.tail) rfl (by kernel_rfl) rfl rfl rfl (m' := 127) rfl (Pur.move rfl) ?_
          refine JM.take 7 (fun _ h => h.tail) rfl (by kernel_rfl) rfl rfl rfl (m' := 255) rfl (Pur.extract rfl rfl) ?_
          refine JM.setv (u' := .slice r44 (wayR fs ac).length c44) 45 rfl rfl ?_
          refine JM.takeF 8 (.inr (fun _ h => h.tail)) rfl (by kernel_rfl) rfl rfl rfl (m' := 511) rfl (Pur.extract rfl rfl) ?_
          refine JM.one (i := 9) (by kernel_rfl) ?_
          refine JMi.eff rfl rfl rfl rfl (m' := 1023) rfl (Eff.alloc (cs := [_]) rfl) ?_
          rintro _ _ ⟨b13, rfl, rfl⟩
          refine ⟨.inr (fun _ h => h.tail.tail), ?_⟩
          refine JM.one (i := 10) (by kernel_rfl) ?_
          refine JMi.effN rfl rfl rfl (m' := 2047) rfl (Eff.storeB rfl rfl rfl .head) ?_
          rintro _ _ ⟨rfl, rfl⟩
          refine ⟨.inl (by simp), ?_⟩
          refine JM.takeF 11 (.inl (by kernel_rfl)) rfl (by kernel_rfl) rfl rfl rfl (m' := 4095) rfl (Pur.assign rfl) ?_
          refine JM.done rfl ?_
          refine J.seq rfl ?_
          refine J.seq rfl ?_
          refine J.region rfl ?_
          refine JO.pur rfl rfl rfl (Pur.move rfl) ?_
          refine JO.pur rfl rfl rfl (Pur.makeFunc rfl rfl) ?_
          refine JO.effR rfl rfl rfl (Eff.call rfl (containsI_ok (xs := (fd (fnd (ls.zip xss) nm ac))) rfl (by omega) (p := fun z => !beats (ls.zip xss) ac i z.toNat) (fun x hx => by obtain ⟨k, hkm, rfl⟩ := List.mem_map.1 hx; obtain ⟨p2, hk2, hf2, -⟩ := fnd_mem hkm; exact worse_ok ha hb hG (v := wayR fs ac) (i := i) hwi (by rw [wayR_len, if_pos hpf]) hk2 hf2))) ?_
          refine JO.nil ?_
          refine J.splitB 49 rfl (fun h49 => ?_) (fun h49 => ?_)
          · try simp only [decide_eq_true_eq, decide_eq_false_iff_not, Bool.not_eq_true', Bool.not_eq_false', Bool.and_eq_true, Bool.or_eq_true, Bool.and_eq_false_iff, Bool.or_eq_false_iff, Option.isNone_some, Option.isSome_some, Option.isNone_none, Option.isSome_none, Int.not_lt, Int.not_le, beq_iff_eq, beq_eq_false_iff_ne, bne_iff_ne, ne_eq, Bool.not_not, Decidable.not_not] at h49
            have hbi : bestB (ls.zip xss) ac (fnd (ls.zip xss) nm ac) i = false := by have h := best_all (ps := (ls.zip xss)) (ac := ac) (l := (fnd (ls.zip xss) nm ac)) (i := i); rw [h49] at h; simpa using h.symm
            have hno2 : ∀ j y, j < q + 1 → (fnd (ls.zip xss) nm ac)[j]? = some y → bestB (ls.zip xss) ac (fnd (ls.zip xss) nm ac) y = false := fun j y hj hy => by
              rcases Nat.lt_or_ge j q with h | h
              · exact hno j y h hy
              · obtain rfl : j = q := by omega
                rw [hI] at hy; rw [← Option.some.inj hy]; exact hbi
            refine J.condT rfl rfl ?_
            refine J.exit rfl rfl ?_
            refine J.region rfl ?_
            refine JO.pur rfl rfl rfl (Pur.add rfl rfl (wr64 (by omega))) ?_
            refine JO.pur rfl rfl rfl (Pur.move rfl) ?_
            refine JO.nil ?_
            exact J.weaken (.cons rfl rfl (.cons rfl (congrArg (Value.int .i64) (by first | rfl | (dsimp only; omega))) (.cons rfl rfl (.cons rfl rfl (.cons rfl rfl (.cons rfl rfl (.cons rfl rfl .nil))))))) SubC.out (ihq (q + 1) ⟨by omega, hno2⟩ (by omega))
          · try simp only [decide_eq_true_eq, decide_eq_false_iff_not, Bool.not_eq_true', Bool.not_eq_false', Bool.and_eq_true, Bool.or_eq_true, Bool.and_eq_false_iff, Bool.or_eq_false_iff, Option.isNone_some, Option.isSome_some, Option.isNone_none, Option.isSome_none, Int.not_lt, Int.not_le, beq_iff_eq, beq_eq_false_iff_ne, bne_iff_ne, ne_eq, Bool.not_not, Decidable.not_not] at h49
            have hbi : bestB (ls.zip xss) ac (fnd (ls.zip xss) nm ac) i = true := by have h := best_all (ps := (ls.zip xss)) (ac := ac) (l := (fnd (ls.zip xss) nm ac)) (i := i); rw [h49] at h; simpa using h.symm
            have hres := res_best hok hI hno hbi
            have hwl := wayR_le (fs := fs) (ac := ac)
            refine J.condF rfl rfl ?_
            refine J.skip rfl ?_
            refine J.seq rfl ?_
            refine J.seq rfl ?_
            refine J.region rfl ?_
            refine JO.pur rfl rfl rfl (Pur.load rfl (CellIn.blk rfl)) ?_
            refine JO.pur rfl rfl rfl (Pur.len rfl) ?_
            refine JO.pur rfl rfl rfl (Pur.move rfl) ?_
            refine JO.nil ?_
            refine J.block rfl ?_
            refine J.loopF (ι := Nat × Option Addr × Nat × List Bool) (fun q => q.1 ≤ (wayR fs ac).length ∧ q.2.2.2.length = q.1) (fun q => [(7, .slice q.2.1 q.2.2.2.length q.2.2.1), (52, .int .i64 (q.1 : Int))]) [(12, _), (50, _), (51, _)] (fun q => sl boE q.2.1 q.2.2.1 q.2.2.2 :: blk b13 (.cells #[.slice r44 (wayR fs ac).length c44] 31 (0, 0)) :: sl intE r44 c44 (wayR fs ac) :: blk b12 (.cells #[.int .i64 (i : Int)] 3 (0, 0)) :: L) (fun q => (wayR fs ac).length - q.1) (0, none, 0, []) rfl (.cons rfl rfl (.cons rfl rfl (.cons rfl rfl .nil))) (.cons rfl rfl (.cons rfl rfl .nil)) (fun h s => sl_nil_new (SubC.out h s)) ⟨Nat.zero_le _, rfl⟩ ?_
            rintro ⟨k, a7, c7, bs⟩ ⟨hk, hbs⟩ ihk
            try dsimp only
            dsimp only at hk hbs
            refine J.seq rfl ?_
            refine J.region rfl ?_
            refine JO.pur rfl rfl rfl (Pur.lss rfl rfl) ?_
            refine JO.nil ?_
            refine J.seq rfl ?_
            refine J.splitB 53 rfl (fun h53 => ?_) (fun h53 => ?_)
            · try simp only [decide_eq_true_eq, decide_eq_false_iff_not, Bool.not_eq_true', Bool.not_eq_false', Bool.and_eq_true, Bool.or_eq_true, Bool.and_eq_false_iff, Bool.or_eq_false_iff, Option.isNone_some, Option.isSome_some, Option.isNone_none, Option.isSome_none, Int.not_lt, Int.not_le, beq_iff_eq, beq_eq_false_iff_ne, bne_iff_ne, ne_eq, Bool.not_not, Decidable.not_not] at h53
              have hkl : k < (wayR fs ac).length := by omega
              obtain ⟨y, hY⟩ : ∃ y, (wayR fs ac)[k]? = some y := ⟨_, List.getElem?_eq_getElem hkl⟩
              refine J.condT rfl rfl ?_
              refine J.skip rfl ?_
              refine J.seq rfl ?_
              refine J.block rfl ?_
              refine J.seq rfl ?_
              refine J.region rfl ?_
              refine JO.pur rfl rfl rfl (Pur.idx rfl rfl rfl (by first | rfl | (simp; done) | omega) rfl (by omega)) ?_
              refine JO.pur rfl rfl rfl (Pur.load rfl (CellIn.el0 rfl hY rfl)) ?_
              refine JO.setv (u' := .int .i64 y) 55 rfl rfl ?_
              refine JO.pur rfl rfl rfl (Pur.assign rfl) ?_
              refine JO.nil ?_
              refine J.region rfl ?_
              refine JO.pur rfl rfl rfl (Pur.move rfl) ?_
              refine JO.pur rfl rfl rfl (Pur.move rfl) ?_
              refine JO.pur rfl rfl rfl (Pur.eqlI rfl rfl) ?_
              refine JO.eff rfl rfl rfl (Eff.buildSlice boE [decide (y = 4)] rfl rfl rfl rfl rfl rfl rfl) ?_
              rintro _ _ ⟨b59, rfl, -, rfl⟩
              refine JO.eff rfl rfl rfl (Eff.append rfl rfl rfl rfl (by first | rfl | omega | (simp; done) | (simp; omega)) (by first | rfl | omega | (simp; done) | (simp; omega)) (by decide) (by first | omega | (simp only [List.length_cons, List.length_nil]; omega) | (simp; omega)) (by first | omega | (simp only [List.length_cons, List.length_nil]; omega) | (simp; omega)) (fun h => by cases h)) ?_
              rintro _ _ ⟨a60, c60, rfl, rfl⟩
              refine JO.pur rfl rfl rfl (Pur.assign rfl) ?_
              refine JO.nil ?_
              refine J.inBlock ?_
              refine J.region rfl ?_
              refine JO.pur rfl rfl rfl (Pur.add rfl rfl (wr64 (by omega))) ?_
              refine JO.pur rfl rfl rfl (Pur.move rfl) ?_
              refine JO.nil ?_
              exact J.weaken (.cons rfl (by dsimp only; rw [List.length_append]) (.cons rfl (congrArg (Value.int .i64) (by first | rfl | (dsimp only; omega))) (.cons rfl rfl (.cons rfl rfl (.cons rfl rfl .nil))))) (fun h s => by dsimp only; exact SubC.out h s) (ihk (k + 1, a60, c60, bs ++ [decide (y = 4)]) ⟨by dsimp only; omega, by dsimp only; rw [List.length_append, List.length_singleton]; omega⟩ (by dsimp only; omega))
            · try simp only [decide_eq_true_eq, decide_eq_false_iff_not, Bool.not_eq_true', Bool.not_eq_false', Bool.and_eq_true, Bool.or_eq_true, Bool.and_eq_false_iff, Bool.or_eq_false_iff, Option.isNone_some, Option.isSome_some, Option.isNone_none, Option.isSome_none, Int.not_lt, Int.not_le, beq_iff_eq, beq_eq_false_iff_ne, bne_iff_ne, ne_eq, Bool.not_not, Decidable.not_not] at h53
              refine J.condF rfl rfl ?_
              refine J.exit rfl rfl ?_
              refine J.seq rfl ?_
              refine J.region rfl ?_
              refine JO.pur rfl rfl rfl (Pur.load rfl (CellIn.blk rfl)) ?_
              refine JO.pur rfl rfl rfl (Pur.move rfl) ?_
              refine JO.pur rfl rfl rfl (Pur.assign rfl) ?_
              refine JO.pur rfl rfl rfl (Pur.assign rfl) ?_
              refine JO.pur rfl rfl rfl (Pur.assign rfl) ?_
              refine JO.nil ?_
              refine J.ret rfl rfl ?_
              first
              | exact ⟨_, _, ⟨none, 0, 0, by rw [res_arg hok, hok]; rfl, rfl⟩, rfl, SubC.out⟩
              | exact ⟨_, _, ⟨none, 0, 0, by rw [res_none hok hfe]; rfl, rfl⟩, rfl, SubC.out⟩
              | exact ⟨_, _, ⟨_, _, _, by rw [hres]; rfl, rfl⟩, rfl, SubC.out⟩
              | exact ⟨_, _, ⟨_, _, _, by rw [res_many hok hne (fun j y hj hy => hno j y (by omega) hy)]; rfl, rfl⟩, rfl, SubC.out⟩
        · skip
          refine JMi.eff rfl rfl rfl rfl (m' := 543) rfl (Eff.alloc (cs := [_]) rfl) ?_
          rintro _ _ ⟨b13, rfl, rfl⟩
          refine ⟨.inr (fun _ h => h.tail), ?_⟩
          refine JM.one (i := 5) (by kernel_rfl) ?_
          refine JMi.eff rfl rfl rfl rfl (m' := 575) rfl (Eff.call rfl (waysOf_ok (s := x) (fs := fs) (ac := ac) hxn rfl hxb ha)) ?_
          rintro _ _ ⟨r44, c44, rfl, rfl⟩
          refine ⟨.inr (fun _ h => h.tail.tail), ?_⟩
          refine JM.take 6 (fun _ h => h.tail.tail) rfl (by kernel_rfl) rfl rfl rfl (m' := 639) rfl (Pur.move rfl) ?_
          refine JM.take 7 (fun _ h => h.tail.tail) rfl (by kernel_rfl) rfl rfl rfl (m' := 767) rfl (Pur.extract rfl rfl) ?_
          refine JM.setv (u' := .slice r44 (wayR fs ac).length c44) 45 rfl rfl ?_
          refine JM.takeF 8 (.inr (fun _ h => h.tail.tail)) rfl (by kernel_rfl) rfl rfl rfl (m' := 1023) rfl (Pur.extract rfl rfl) ?_
          refine JM.one (i := 10) (by kernel_rfl) ?_
          refine JMi.effN rfl rfl rfl (m' := 2047) rfl (Eff.storeB rfl rfl rfl .head) ?_
          rintro _ _ ⟨rfl, rfl⟩
          refine ⟨.inl (by simp), ?_⟩
          refine JM.takeF 11 (.inl (by kernel_rfl)) rfl (by kernel_rfl) rfl rfl rfl (m' := 4095) rfl (Pur.assign rfl) ?_
          refine JM.done rfl ?_
          refine J.seq rfl ?_
          refine J.seq rfl ?_
          refine J.region rfl ?_
          refine JO.pur rfl rfl rfl (Pur.move rfl) ?_
          refine JO.pur rfl rfl rfl (Pur.makeFunc rfl rfl) ?_
          refine JO.effR rfl rfl rfl (Eff.call rfl (containsI_ok (xs := (fd (fnd (ls.zip xss) nm ac))) rfl (by omega) (p := fun z => !beats (ls.zip xss) ac i z.toNat) (fun x hx => by obtain ⟨k, hkm, rfl⟩ := List.mem_map.1 hx; obtain ⟨p2, hk2, hf2, -⟩ := fnd_mem hkm; exact worse_ok ha hb hG (v := wayR fs ac) (i := i) hwi (by rw [wayR_len, if_pos hpf]) hk2 hf2))) ?_
          refine JO.nil ?_
          refine J.splitB 49 rfl (fun h49 => ?_) (fun h49 => ?_)
          · try simp only [decide_eq_true_eq, decide_eq_false_iff_not, Bool.not_eq_true', Bool.not_eq_false', Bool.and_eq_true, Bool.or_eq_true, Bool.and_eq_false_iff, Bool.or_eq_false_iff, Option.isNone_some, Option.isSome_some, Option.isNone_none, Option.isSome_none, Int.not_lt, Int.not_le, beq_iff_eq, beq_eq_false_iff_ne, bne_iff_ne, ne_eq, Bool.not_not, Decidable.not_not] at h49
            have hbi : bestB (ls.zip xss) ac (fnd (ls.zip xss) nm ac) i = false := by have h := best_all (ps := (ls.zip xss)) (ac := ac) (l := (fnd (ls.zip xss) nm ac)) (i := i); rw [h49] at h; simpa using h.symm
            have hno2 : ∀ j y, j < q + 1 → (fnd (ls.zip xss) nm ac)[j]? = some y → bestB (ls.zip xss) ac (fnd (ls.zip xss) nm ac) y = false := fun j y hj hy => by
              rcases Nat.lt_or_ge j q with h | h
              · exact hno j y h hy
              · obtain rfl : j = q := by omega
                rw [hI] at hy; rw [← Option.some.inj hy]; exact hbi
            refine J.condT rfl rfl ?_
            refine J.exit rfl rfl ?_
            refine J.region rfl ?_
            refine JO.pur rfl rfl rfl (Pur.add rfl rfl (wr64 (by omega))) ?_
            refine JO.pur rfl rfl rfl (Pur.move rfl) ?_
            refine JO.nil ?_
            exact J.weaken (.cons rfl rfl (.cons rfl (congrArg (Value.int .i64) (by first | rfl | (dsimp only; omega))) (.cons rfl rfl (.cons rfl rfl (.cons rfl rfl (.cons rfl rfl (.cons rfl rfl .nil))))))) SubC.out (ihq (q + 1) ⟨by omega, hno2⟩ (by omega))
          · try simp only [decide_eq_true_eq, decide_eq_false_iff_not, Bool.not_eq_true', Bool.not_eq_false', Bool.and_eq_true, Bool.or_eq_true, Bool.and_eq_false_iff, Bool.or_eq_false_iff, Option.isNone_some, Option.isSome_some, Option.isNone_none, Option.isSome_none, Int.not_lt, Int.not_le, beq_iff_eq, beq_eq_false_iff_ne, bne_iff_ne, ne_eq, Bool.not_not, Decidable.not_not] at h49
            have hbi : bestB (ls.zip xss) ac (fnd (ls.zip xss) nm ac) i = true := by have h := best_all (ps := (ls.zip xss)) (ac := ac) (l := (fnd (ls.zip xss) nm ac)) (i := i); rw [h49] at h; simpa using h.symm
            have hres := res_best hok hI hno hbi
            have hwl := wayR_le (fs := fs) (ac := ac)
            refine J.condF rfl rfl ?_
            refine J.skip rfl ?_
            refine J.seq rfl ?_
            refine J.seq rfl ?_
            refine J.region rfl ?_
            refine JO.pur rfl rfl rfl (Pur.load rfl (CellIn.blk rfl)) ?_
            refine JO.pur rfl rfl rfl (Pur.len rfl) ?_
            refine JO.pur rfl rfl rfl (Pur.move rfl) ?_
            refine JO.nil ?_
            refine J.block rfl ?_
            refine J.loopF (ι := Nat × Option Addr × Nat × List Bool) (fun q => q.1 ≤ (wayR fs ac).length ∧ q.2.2.2.length = q.1) (fun q => [(7, .slice q.2.1 q.2.2.2.length q.2.2.1), (52, .int .i64 (q.1 : Int))]) [(12, _), (50, _), (51, _)] (fun q => sl boE q.2.1 q.2.2.1 q.2.2.2 :: blk b13 (.cells #[.slice r44 (wayR fs ac).length c44] 31 (0, 0)) :: sl intE r44 c44 (wayR fs ac) :: blk b12 (.cells #[.int .i64 (i : Int)] 3 (0, 0)) :: L) (fun q => (wayR fs ac).length - q.1) (0, none, 0, []) rfl (.cons rfl rfl (.cons rfl rfl (.cons rfl rfl .nil))) (.cons rfl rfl (.cons rfl rfl .nil)) (fun h s => sl_nil_new (SubC.out h s)) ⟨Nat.zero_le _, rfl⟩ ?_
            rintro ⟨k, a7, c7, bs⟩ ⟨hk, hbs⟩ ihk
            try dsimp only
            dsimp only at hk hbs
            refine J.seq rfl ?_
            refine J.region rfl ?_
            refine JO.pur rfl rfl rfl (Pur.lss rfl rfl) ?_
            refine JO.nil ?_
            refine J.seq rfl ?_
            refine J.splitB 53 rfl (fun h53 => ?_) (fun h53 => ?_)
            · try simp only [decide_eq_true_eq, decide_eq_false_iff_not, Bool.not_eq_true', Bool.not_eq_false', Bool.and_eq_true, Bool.or_eq_true, Bool.and_eq_false_iff, Bool.or_eq_false_iff, Option.isNone_some, Option.isSome_some, Option.isNone_none, Option.isSome_none, Int.not_lt, Int.not_le, beq_iff_eq, beq_eq_false_iff_ne, bne_iff_ne, ne_eq, Bool.not_not, Decidable.not_not] at h53
              have hkl : k < (wayR fs ac).length := by omega
              obtain ⟨y, hY⟩ : ∃ y, (wayR fs ac)[k]? = some y := ⟨_, List.getElem?_eq_getElem hkl⟩
              refine J.condT rfl rfl ?_
              refine J.skip rfl ?_
              refine J.seq rfl ?_
              refine J.block rfl ?_
              refine J.seq rfl ?_
              refine J.region rfl ?_
              refine JO.pur rfl rfl rfl (Pur.idx rfl rfl rfl (by first | rfl | (simp; done) | omega) rfl (by omega)) ?_
              refine JO.pur rfl rfl rfl (Pur.load rfl (CellIn.el0 rfl hY rfl)) ?_
              refine JO.setv (u' := .int .i64 y) 55 rfl rfl ?_
              refine JO.pur rfl rfl rfl (Pur.assign rfl) ?_
              refine JO.nil ?_
              refine J.region rfl ?_
              refine JO.pur rfl rfl rfl (Pur.move rfl) ?_
              refine JO.pur rfl rfl rfl (Pur.move rfl) ?_
              refine JO.pur rfl rfl rfl (Pur.eqlI rfl rfl) ?_
              refine JO.eff rfl rfl rfl (Eff.buildSlice boE [decide (y = 4)] rfl rfl rfl rfl rfl rfl rfl) ?_
              rintro _ _ ⟨b59, rfl, -, rfl⟩
              refine JO.eff rfl rfl rfl (Eff.append rfl rfl rfl rfl (by first | rfl | omega | (simp; done) | (simp; omega)) (by first | rfl | omega | (simp; done) | (simp; omega)) (by decide) (by first | omega | (simp only [List.length_cons, List.length_nil]; omega) | (simp; omega)) (by first | omega | (simp only [List.length_cons, List.length_nil]; omega) | (simp; omega)) (fun h => by cases h)) ?_
              rintro _ _ ⟨a60, c60, rfl, rfl⟩
              refine JO.pur rfl rfl rfl (Pur.assign rfl) ?_
              refine JO.nil ?_
              refine J.inBlock ?_
              refine J.region rfl ?_
              refine JO.pur rfl rfl rfl (Pur.add rfl rfl (wr64 (by omega))) ?_
              refine JO.pur rfl rfl rfl (Pur.move rfl) ?_
              refine JO.nil ?_
              exact J.weaken (.cons rfl (by dsimp only; rw [List.length_append]) (.cons rfl (congrArg (Value.int .i64) (by first | rfl | (dsimp only; omega))) (.cons rfl rfl (.cons rfl rfl (.cons rfl rfl .nil))))) (fun h s => by dsimp only; exact SubC.out h s) (ihk (k + 1, a60, c60, bs ++ [decide (y = 4)]) ⟨by dsimp only; omega, by dsimp only; rw [List.length_append, List.length_singleton]; omega⟩ (by dsimp only; omega))
            · try simp only [decide_eq_true_eq, decide_eq_false_iff_not, Bool.not_eq_true', Bool.not_eq_false', Bool.and_eq_true, Bool.or_eq_true, Bool.and_eq_false_iff, Bool.or_eq_false_iff, Option.isNone_some, Option.isSome_some, Option.isNone_none, Option.isSome_none, Int.not_lt, Int.not_le, beq_iff_eq, beq_eq_false_iff_ne, bne_iff_ne, ne_eq, Bool.not_not, Decidable.not_not] at h53
              refine J.condF rfl rfl ?_
              refine J.exit rfl rfl ?_
              refine J.seq rfl ?_
              refine J.region rfl ?_
              refine JO.pur rfl rfl rfl (Pur.load rfl (CellIn.blk rfl)) ?_
              refine JO.pur rfl rfl rfl (Pur.move rfl) ?_
              refine JO.pur rfl rfl rfl (Pur.assign rfl) ?_
              refine JO.pur rfl rfl rfl (Pur.assign rfl) ?_
              refine JO.pur rfl rfl rfl (Pur.assign rfl) ?_
              refine JO.nil ?_
              refine J.ret rfl rfl ?_
              first
              | exact ⟨_, _, ⟨none, 0, 0, by rw [res_arg hok, hok]; rfl, rfl⟩, rfl, SubC.out⟩
              | exact ⟨_, _, ⟨none, 0, 0, by rw [res_none hok hfe]; rfl, rfl⟩, rfl, SubC.out⟩
              | exact ⟨_, _, ⟨_, _, _, by rw [hres]; rfl, rfl⟩, rfl, SubC.out⟩
              | exact ⟨_, _, ⟨_, _, _, by rw [res_many hok hne (fun j y hj hy => hno j y (by omega) hy)]; rfl, rfl⟩, rfl, SubC.out⟩
      · try simp only [decide_eq_true_eq, decide_eq_false_iff_not, Bool.not_eq_true', Bool.not_eq_false', Bool.and_eq_true, Bool.or_eq_true, Bool.and_eq_false_iff, Bool.or_eq_false_iff, Option.isNone_some, Option.isSome_some, Option.isNone_none, Option.isSome_none, Int.not_lt, Int.not_le, beq_iff_eq, beq_eq_false_iff_ne, bne_iff_ne, ne_eq, Bool.not_not, Decidable.not_not] at h35
        have hqe : q = (fnd (ls.zip xss) nm ac).length := by omega
        subst hqe
        refine J.condF rfl rfl ?_
        refine J.exit rfl rfl ?_
        refine J.seq rfl ?_
        refine J.region rfl ?_
        refine JO.pur rfl rfl rfl (Pur.assign rfl) ?_
        refine JO.pur rfl rfl rfl (Pur.assign rfl) ?_
        refine JO.pur rfl rfl rfl (Pur.assign rfl) ?_
        refine JO.nil ?_
        refine J.ret rfl rfl ?_
        first
        | exact ⟨_, _, ⟨none, 0, 0, by rw [res_arg hok, hok]; rfl, rfl⟩, rfl, SubC.out⟩
        | exact ⟨_, _, ⟨none, 0, 0, by rw [res_none hok hfe]; rfl, rfl⟩, rfl, SubC.out⟩
        | exact ⟨_, _, ⟨_, _, _, by rw [hres]; rfl, rfl⟩, rfl, SubC.out⟩
        | exact ⟨_, _, ⟨_, _, _, by rw [res_many hok hne (fun j y hj hy => hno j y (by omega) hy)]; rfl, rfl⟩, rfl, SubC.out⟩

end Go.Proofs.YtbmepcipnnlcnaaDoor

/- The text JPlain5. -/
/-! A candidate more. -/
set_option linter.unusedVariables false
set_option linter.unusedSimpArgs false
namespace Sg
open Go.KK
theorem bet_anti {v w : List Int} (h1 : betB v w = true) (h2 : betB w v = true) : False := by
  unfold betB at h1 h2
  simp only [Bool.and_eq_true, List.any_eq_true, List.all_eq_true, decide_eq_true_eq] at h1 h2
  obtain ⟨⟨a, b⟩, hm, hlt⟩ := h1.2
  obtain ⟨j, hj, e⟩ := List.getElem_of_mem hm
  have hj' : j < (w.zip v).length := by simp only [List.length_zip] at hj ⊢; omega
  have h3 := h2.1 _ (List.getElem_mem hj')
  rw [List.getElem_zip] at h3 e
  simp only [Prod.mk.injEq] at e
  rw [e.1, e.2] at h3
  dsimp only at h3 hlt
  omega
theorem best_mem {ps : List (Sn × List Fm)} {ac : List Fm} {l : List Nat} {i k : Nat} (h : bestB ps ac l i = true) (hk : k ∈ l) : k = i ∨ betB (wayAt ps ac i) (wayAt ps ac k) = true := by
  have := List.all_eq_true.1 h k hk
  unfold beats at this
  simpa using this
theorem best_uniq {ps : List (Sn × List Fm)} {ac : List Fm} {l : List Nat} {i k : Nat} (h1 : bestB ps ac l i = true) (h2 : bestB ps ac l k = true) (hi : i ∈ l) (hk : k ∈ l) : i = k := by
  rcases best_mem h1 hk with e | b1
  · exact e.symm
  · rcases best_mem h2 hi with e | b2
    · exact e
    · exact (bet_anti b1 b2).elim
section
variable {ps : List (Sn × List Fm)} {nm : ByteArray} {ac : List Fm} {q : Sn × List Fm}
theorem okC_snoc : okC (ps ++ [q]) ac = (okC ps ac && valB q.1 q.2) := by
  unfold okC
  rw [List.all_append, List.all_cons, List.all_nil, Bool.and_true]
  cases ps.all (fun p => valB p.1 p.2) <;> cases valB q.1 q.2 <;> cases actB ac <;> rfl
theorem way_old {i : Nat} (h : i < ps.length) : wayAt (ps ++ [q]) ac i = wayAt ps ac i := by
  unfold wayAt; rw [List.getElem?_append_left h]
theorem way_new : wayAt (ps ++ [q]) ac ps.length = wayL q.2 ac := by
  unfold wayAt; rw [List.getElem?_append_right (Nat.le_refl _), Nat.sub_self]; rfl
theorem cands_lt {i : Nat} (h : i ∈ cands nm ac 0 ps) : i < ps.length := by
  obtain ⟨p, _, h2, _⟩ := (cands_mem nm ac ps 0 i).1 h
  exact (List.getElem?_eq_some_iff.1 h2).1
theorem best_old {l : List Nat} (hl : ∀ k ∈ l, k < ps.length) {i : Nat} (hi : i < ps.length) : bestB (ps ++ [q]) ac l i = bestB ps ac l i := by
  have : ∀ l' : List Nat, (∀ k ∈ l', k < ps.length) → l'.all (fun k => beats (ps ++ [q]) ac i k) = l'.all (fun k => beats ps ac i k) := by
    intro l'
    induction l' with
    | nil => intro _; rfl
    | cons k l' ih =>
      intro h
      rw [List.all_cons, List.all_cons, ih (fun x hx => h x (List.mem_cons_of_mem _ hx))]
      have hk := h k (List.mem_cons_self)
      unfold beats
      rw [way_old hi, way_old hk]
  exact this l hl
theorem find_congr {α : Type} {p p' : α → Bool} : ∀ {l : List α}, (∀ x ∈ l, p x = p' x) → l.find? p = l.find? p'
  | [], _ => rfl
  | x :: l, h => by
    rw [List.find?_cons, List.find?_cons, h x List.mem_cons_self, find_congr fun y hy => h y (List.mem_cons_of_mem _ hy)]
/-- What a resolution is. -/
theorem res_cases (ps : List (Sn × List Fm)) (nm : ByteArray) (ac : List Fm) : (okC ps ac = false ∧ resolveS ps nm ac = (0, 2)) ∨ (okC ps ac = true ∧ cands nm ac 0 ps = [] ∧ resolveS ps nm ac = (0, 90)) ∨
    (okC ps ac = true ∧ cands nm ac 0 ps ≠ [] ∧ ∃ i, (cands nm ac 0 ps).find? (bestB ps ac (cands nm ac 0 ps)) = some i ∧ resolveS ps nm ac = ((i : Int), 0)) ∨
    (okC ps ac = true ∧ cands nm ac 0 ps ≠ [] ∧ (cands nm ac 0 ps).find? (bestB ps ac (cands nm ac 0 ps)) = none ∧ resolveS ps nm ac = (0, 91)) := by
  cases h : okC ps ac with
  | false => exact .inl ⟨rfl, res_arg h⟩
  | true =>
    have e : fnd ps nm ac = cands nm ac 0 ps := by unfold fnd; rw [if_pos h]
    by_cases hf : cands nm ac 0 ps = []
    · exact .inr (.inl ⟨rfl, hf, res_none h (e.trans hf)⟩)
    · have hs := res_some h (nm := nm) (by rw [e]; exact hf)
      rw [e] at hs
      cases hq : (cands nm ac 0 ps).find? (bestB ps ac (cands nm ac 0 ps)) with
      | some i => rw [hq] at hs; exact .inr (.inr (.inl ⟨rfl, hf, i, rfl, hs⟩))
      | none => rw [hq] at hs; exact .inr (.inr (.inr ⟨rfl, hf, rfl, hs⟩))
theorem res_two (h : (resolveS ps nm ac).2 = 2) : okC ps ac = false := by
  rcases res_cases ps nm ac with ⟨h1, _⟩ | ⟨_, _, h2⟩ | ⟨_, _, i, _, h2⟩ | ⟨_, _, _, h2⟩
  · exact h1
  all_goals (rw [h2] at h; revert h; simp)
theorem top_arg (h : (resolveS ps nm ac).2 = 2 ∨ (resolveS (ps ++ [q]) nm ac).2 = 2) : (resolveS (ps ++ [q]) nm ac).2 = 2 := by
  rcases h with h | h
  · rw [res_arg (by rw [okC_snoc, res_two h]; rfl)]
  · exact h
theorem top_ok (h : ¬ (resolveS (ps ++ [q]) nm ac).2 = 2) : okC ps ac = true ∧ valB q.1 q.2 = true ∧ actB ac = true := by
  have h1 : okC (ps ++ [q]) ac = true := by
    cases hc : okC (ps ++ [q]) ac with
    | true => rfl
    | false => exact absurd (by rw [res_arg hc]) h
  rw [okC_snoc, Bool.and_eq_true] at h1
  refine ⟨h1.1, h1.2, ?_⟩
  have := h1.1; unfold okC at this; rw [Bool.and_eq_true] at this; exact this.2
theorem cands_more : cands nm ac 0 (ps ++ [q]) = cands nm ac 0 ps ++ (if candB nm ac q then [ps.length] else []) := by rw [cands_snoc, Nat.zero_add]
theorem top_unfit (hv : valB q.1 q.2 = true) (hf : fitsB q.2 ac = false) : resolveS (ps ++ [q]) nm ac = resolveS ps nm ac := by
  have hc : candB nm ac q = false := by unfold candB; rw [hf]; rfl
  have e1 : cands nm ac 0 (ps ++ [q]) = cands nm ac 0 ps := by rw [cands_more, if_neg (by rw [hc]; decide), List.append_nil]
  have e2 : okC (ps ++ [q]) ac = okC ps ac := by rw [okC_snoc, hv, Bool.and_true]
  have e3 : (cands nm ac 0 ps).find? (bestB (ps ++ [q]) ac (cands nm ac 0 ps)) = (cands nm ac 0 ps).find? (bestB ps ac (cands nm ac 0 ps)) :=
    find_congr fun i hi => best_old (fun k hk => cands_lt hk) (cands_lt hi)
  have ha := e2; unfold okC at ha
  unfold resolveS
  rw [ha, e1, e3]
theorem cand_q (hf : fitsB q.2 ac = true) : candB q.1.nm ac q = true := by unfold candB; rw [hf, decide_eq_true rfl]; rfl
theorem cands_q (hf : fitsB q.2 ac = true) : cands q.1.nm ac 0 (ps ++ [q]) = cands q.1.nm ac 0 ps ++ [ps.length] := by rw [cands_more, if_pos (cand_q hf)]
theorem best_less {l : List Nat} {i : Nat} (hl : ∀ k ∈ l, k < ps.length) (hi : i < ps.length) (h : bestB (ps ++ [q]) ac (l ++ [ps.length]) i = true) : bestB ps ac l i = true := by
  rw [← best_old (q := q) hl hi]
  unfold bestB at h ⊢
  rw [List.all_append, Bool.and_eq_true] at h
  exact h.1
/-- Who was the best one still is the only one. -/
theorem top_old (hf : fitsB q.2 ac = true) (h0 : (resolveS (ps ++ [q]) q.1.nm ac).2 = 0) (hn : ¬ (resolveS (ps ++ [q]) q.1.nm ac).1 = (ps.length : Int)) :
    (resolveS ps q.1.nm ac).2 = 0 ∧ (resolveS ps q.1.nm ac).1 = (resolveS (ps ++ [q]) q.1.nm ac).1 := by
  rcases res_cases (ps ++ [q]) q.1.nm ac with ⟨_, h2⟩ | ⟨_, _, h2⟩ | ⟨hok, _, m, hm, h2⟩ | ⟨_, _, _, h2⟩
  · rw [h2] at h0; exact absurd h0 (by decide)
  · rw [h2] at h0; exact absurd h0 (by decide)
  · rw [h2] at hn ⊢
    rw [cands_q hf] at hm
    have hmem := List.mem_of_find?_eq_some hm
    have hb := List.find?_some hm
    have hmN : m ≠ ps.length := fun e => hn (by rw [e])
    have hmc : m ∈ cands q.1.nm ac 0 ps := by
      rcases List.mem_append.1 hmem with h | h
      · exact h
      · exact absurd (List.mem_singleton.1 h) hmN
    have hml := cands_lt hmc
    have hb2 := best_less (fun k hk => cands_lt hk) hml hb
    rcases res_cases ps q.1.nm ac with ⟨g1, _⟩ | ⟨_, g1, _⟩ | ⟨_, _, i, hi, g2⟩ | ⟨_, _, g1, _⟩
    · rw [okC_snoc, g1] at hok; cases hok
    · rw [g1] at hmc; cases hmc
    · have := best_uniq (List.find?_some hi) hb2 (List.mem_of_find?_eq_some hi) hmc
      subst this
      rw [g2]; exact ⟨rfl, rfl⟩
    · rw [List.find?_eq_none] at g1; exact absurd hb2 (g1 m hmc)
  · rw [h2] at h0; exact absurd h0 (by decide)
/-- Who is better than all is better than the former best one. -/
theorem top_new (hf : fitsB q.2 ac = true) (h0 : (resolveS (ps ++ [q]) q.1.nm ac).2 = 0) (hn : (resolveS (ps ++ [q]) q.1.nm ac).1 = (ps.length : Int)) (h1 : (resolveS ps q.1.nm ac).2 = 0) :
    ∃ (i : Nat) (p : Sn × List Fm), (resolveS ps q.1.nm ac).1 = (i : Int) ∧ ps[i]? = some p ∧ valB p.1 p.2 = true ∧ fitsB p.2 ac = true ∧ betB (wayR q.2 ac) (wayR p.2 ac) = true := by
  rcases res_cases ps q.1.nm ac with ⟨_, g2⟩ | ⟨_, _, g2⟩ | ⟨hok, _, i, hi, g2⟩ | ⟨_, _, _, g2⟩
  · rw [g2] at h1; exact absurd h1 (by decide)
  · rw [g2] at h1; exact absurd h1 (by decide)
  · have hic := List.mem_of_find?_eq_some hi
    obtain ⟨p, _, hp, hc⟩ := (cands_mem _ _ _ _ _).1 hic
    rw [Nat.sub_zero] at hp
    have hil := cands_lt hic
    have hpf : fitsB p.2 ac = true := by unfold candB at hc; rw [Bool.and_eq_true] at hc; exact hc.1
    have hpv : valB p.1 p.2 = true := by
      unfold okC at hok; rw [Bool.and_eq_true, List.all_eq_true] at hok
      exact hok.1 p (List.mem_of_getElem? hp)
    refine ⟨i, p, by rw [g2], hp, hpv, hpf, ?_⟩
    rcases res_cases (ps ++ [q]) q.1.nm ac with ⟨_, h2⟩ | ⟨_, _, h2⟩ | ⟨_, _, m, hm, h2⟩ | ⟨_, _, _, h2⟩
    · rw [h2] at h0; exact absurd h0 (by decide)
    · rw [h2] at h0; exact absurd h0 (by decide)
    · rw [h2] at hn
      have hmN : m = ps.length := by have : (m : Int) = (ps.length : Int) := hn; omega
      subst hmN
      rw [cands_q hf] at hm
      rcases best_mem (List.find?_some hm) (List.mem_append_left _ hic) with e | b
      · omega
      · rw [way_new, way_old hil, way_at hp] at b
        unfold wayR
        rw [if_pos hf, if_pos hpf]; exact b
    · rw [h2] at h0; exact absurd h0 (by decide)
  · rw [g2] at h1; exact absurd h1 (by decide)
theorem top_end (hf : fitsB q.2 ac = true) (h2' : ¬ (resolveS (ps ++ [q]) q.1.nm ac).2 = 2) : (resolveS (ps ++ [q]) q.1.nm ac).2 = 0 ∨ (resolveS (ps ++ [q]) q.1.nm ac).2 = 91 := by
  rcases res_cases (ps ++ [q]) q.1.nm ac with ⟨_, h2⟩ | ⟨_, h1, h2⟩ | ⟨_, _, m, hm, h2⟩ | ⟨_, _, _, h2⟩
  · rw [h2] at h2'; exact absurd rfl h2'
  · rw [cands_q hf] at h1; simp at h1
  · rw [h2]; exact .inl rfl
  · rw [h2]; exact .inr rfl
end
end Sg

/- The text J10. -/
set_option linter.unusedVariables false
set_option linter.unusedSimpArgs false
set_option maxRecDepth 10000
namespace Go.Proofs.YtbmepcipnnlcnaaDoor
open Go Go.KK Sg

theorem rows2 {L : List Asn} {b1 b2 : Nat} {s1 s2 : Sn} {xs1 xs2 : List Fm} (e1 : s1.h = ⟨some ⟨b1, 0, none⟩, 1, 1⟩) (e2 : s2.h = ⟨some ⟨b2, 0, none⟩, 1, 1⟩) (n1 : xs1.length = 1) (n2 : xs2.length = 1)
    (h1 : SlIn fmE L (some ⟨b1, 0, none⟩) xs1) (h2 : SlIn fmE L (some ⟨b2, 0, none⟩) xs2) : RowsR fmE L ([s1, s2].map Sn.h) [xs1, xs2] := ⟨fun h hs => by
  refine ⟨by simp [e1, e2, n1, n2], fun i hd xs g1 g2 => ?_⟩
  match i with
  | 0 => simp at g1 g2; subst g2; rw [e1] at g1; subst g1; exact ⟨h1.out h hs, (fun e => by cases e), Nat.le_refl _⟩
  | 1 => simp at g1 g2; subst g2; rw [e2] at g1; subst g1; exact ⟨h2.out h hs, (fun e => by cases e), Nat.le_refl _⟩
  | k + 2 => simp at g1⟩
def sF : ByteArray := ⟨#[102]⟩
theorem firstRes (h1 h2 : Hdr) : resolveS ([(⟨sF, h1, sInt⟩, [(sInt, 0)]), (⟨sF, h2, sInt⟩, [(sAny, 0)])] : List (Sn × List Fm)) sF [(sArr, 1)] = (1, 0) := by kernel_rfl
theorem rowsSnoc {L : List Asn} {ls : List Sn} {xss : List (List Fm)} {s : Sn} {fs : List Fm} (hR : RowsR fmE L (ls.map Sn.h) xss) (hl : ls.length = xss.length) (hs : SlIn fmE L s.h.a fs) (hn : s.h.n = fs.length) (h0 : s.h.a = none → s.h.n = 0 ∧ s.h.cap = 0) (hc : s.h.n ≤ s.h.cap) :
    RowsR fmE L ((ls ++ [s]).map Sn.h) (xss ++ [fs]) := ⟨fun h hh => by
  obtain ⟨e, g⟩ := hR.out h hh
  refine ⟨by rw [List.map_append, List.map_append, List.map_append, e]; simp [hn], fun i hd xs g1 g2 => ?_⟩
  rw [List.map_append] at g1
  by_cases hi : i < ls.length
  · rw [List.getElem?_append_left (by simpa using hi)] at g1
    rw [List.getElem?_append_left (by omega)] at g2
    exact g i hd xs g1 g2
  · rw [List.getElem?_append_right (by simp; omega)] at g1
    rw [List.getElem?_append_right (by omega)] at g2
    have h1 : i - (ls.map Sn.h).length = 0 := by
      have := (List.getElem?_eq_some_iff.1 g1).1; simpa using this
    have h2 : i - xss.length = 0 := by
      have := (List.getElem?_eq_some_iff.1 g2).1; simpa using this
    rw [h1] at g1; rw [h2] at g2
    simp at g1 g2; subst g1; subst g2
    exact ⟨hs.out h hh, h0, hc⟩⟩
theorem okls_snoc {ls : List Sn} {xss : List (List Fm)} {s : Sn} {fs : List Fm} (h : Okls ls xss) (hn : s.h.n = fs.length) (hb : fs.length ≤ 9223372036854775807) (hm : s.nm.size ≤ 9223372036854775807) : Okls (ls ++ [s]) (xss ++ [fs]) := by
  refine ⟨by simp [h.1], fun i t gs g1 g2 => ?_⟩
  by_cases hi : i < ls.length
  · rw [List.getElem?_append_left hi] at g1
    rw [List.getElem?_append_left (by have := h.1; omega)] at g2
    exact h.2 i t gs g1 g2
  · rw [List.getElem?_append_right (by omega)] at g1
    rw [List.getElem?_append_right (by have := h.1; omega)] at g2
    have h1 : i - ls.length = 0 := by have := (List.getElem?_eq_some_iff.1 g1).1; simpa using this
    have h2 : i - xss.length = 0 := by have := (List.getElem?_eq_some_iff.1 g2).1; simpa using this
    rw [h1] at g1; rw [h2] at g2
    simp at g1 g2; subst g1; subst g2
    exact ⟨hn, hb, hm⟩
theorem okFirst {h1 h2 : Hdr} {x y : Fm} (e1 : h1.n = 1 := by rfl) (e2 : h2.n = 1 := by rfl) : Okls [⟨sF, h1, sInt⟩, ⟨sF, h2, sInt⟩] [[x], [y]] := by
  refine ⟨rfl, fun i s fs g1 g2 => ?_⟩
  match i with
  | 0 => simp at g1 g2; subst g1; subst g2; exact ⟨e1, by simp, by simp [sF, ByteArray.size]⟩
  | 1 => simp at g1 g2; subst g1; subst g2; exact ⟨e2, by simp, by simp [sF, ByteArray.size]⟩
  | k + 2 => simp at g1
theorem lawFirst_ok {L : List Asn} [hT : Tab L] :
    CallS Tryd.prog 4 [].toArray L (fun v M => v = .bool true ∧ M = L) := by
  refine CallS.ent ?_
  refine CallS.enter Tryd.func4 rfl rfl rfl rfl rfl ?_
  refine J.seq rfl ?_
  refine J.region rfl ?_
  refine JO.pur rfl rfl rfl (Pur.assign rfl) ?_
  refine JO.nil ?_
  refine J.seq rfl ?_
  refine J.region rfl ?_
  refine JO.pur rfl rfl rfl (Pur.build (cs := [_, _]) rfl rfl) ?_
  refine JO.eff rfl rfl rfl (Eff.buildSlice fmE [(sInt, 0)] rfl rfl rfl rfl rfl rfl rfl) ?_
  rintro _ _ ⟨b6, rfl, -, rfl⟩
  refine JO.pur rfl rfl rfl (Pur.build (cs := [_, _, _]) rfl rfl) ?_
  refine JO.pur rfl rfl rfl (Pur.build (cs := [_, _]) rfl rfl) ?_
  refine JO.eff rfl rfl rfl (Eff.buildSlice fmE [(sAny, 0)] rfl rfl rfl rfl rfl rfl rfl) ?_
  rintro _ _ ⟨b9, rfl, -, rfl⟩
  refine JO.pur rfl rfl rfl (Pur.build (cs := [_, _, _]) rfl rfl) ?_
  refine JO.eff rfl rfl rfl (Eff.buildSlice sgE [⟨sF, ⟨some ⟨b6, 0, none⟩, 1, 1⟩, sInt⟩, ⟨sF, ⟨some ⟨b9, 0, none⟩, 1, 1⟩, sInt⟩] rfl rfl rfl rfl rfl rfl rfl) ?_
  rintro _ _ ⟨b11, rfl, -, rfl⟩
  refine JO.pur rfl rfl rfl (Pur.assign rfl) ?_
  refine JO.nil ?_
  refine J.seq rfl ?_
  refine J.region rfl ?_
  refine JO.pur rfl rfl rfl (Pur.move rfl) ?_
  refine JO.pur rfl rfl rfl (Pur.build (cs := [_, _]) rfl rfl) ?_
  refine JO.eff rfl rfl rfl (Eff.buildSlice fmE [(sArr, 1)] rfl rfl rfl rfl rfl rfl rfl) ?_
  rintro _ _ ⟨b15, rfl, -, rfl⟩
  refine JO.eff rfl rfl rfl (Eff.call rfl (resolve_ok (hR := rows2 (b1 := b6) (b2 := b9) rfl rfl rfl rfl inferInstance inferInstance) (ls := [⟨sF, ⟨some ⟨b6, 0, none⟩, 1, 1⟩, sInt⟩, ⟨sF, ⟨some ⟨b9, 0, none⟩, 1, 1⟩, sInt⟩]) (xss := [[(sInt, 0)], [(sAny, 0)]]) (ac := [(sArr, 1)]) (nm := sF) rfl rfl (by simp) (by simp) okFirst)) ?_
  rintro _ _ ⟨pa, pn, pc, rfl, rfl⟩
  refine JO.pur rfl rfl rfl (Pur.move rfl) ?_
  refine JO.pur rfl rfl rfl (Pur.extract rfl rfl) ?_
  refine JO.setv (u' := .int .i64 1) 17 rfl (congrArg (Value.int .i64) (congrArg Prod.fst (firstRes _ _))) ?_
  refine JO.pur rfl rfl rfl (Pur.extract rfl rfl) ?_
  refine JO.pur rfl rfl rfl (Pur.extract rfl rfl) ?_
  refine JO.setv (u' := .int .i64 0) 19 rfl (congrArg (Value.int .i64) (congrArg Prod.snd (firstRes _ _))) ?_
  refine JO.pur rfl rfl rfl (Pur.assign rfl) ?_
  refine JO.pur rfl rfl rfl (Pur.assign rfl) ?_
  refine JO.pur rfl rfl rfl (Pur.assign rfl) ?_
  refine JO.nil ?_
  refine J.seq rfl ?_
  refine J.region rfl ?_
  refine JO.pur rfl rfl rfl (Pur.move rfl) ?_
  refine JO.pur rfl rfl rfl (Pur.eqlI rfl rfl) ?_
  refine JO.pur rfl rfl rfl (Pur.move rfl) ?_
  refine JO.splitB 22 rfl (fun h22 => ?_) (fun h22 => ?_)
  · try simp only [decide_eq_true_eq, decide_eq_false_iff_not, Bool.not_eq_true', Bool.not_eq_false', Bool.and_eq_true, Bool.or_eq_true, Bool.and_eq_false_iff, Bool.or_eq_false_iff, Option.isNone_some, Option.isSome_some, Option.isNone_none, Option.isSome_none, Int.not_lt, Int.not_le, beq_iff_eq, beq_eq_false_iff_ne, bne_iff_ne, ne_eq, Bool.not_not, Decidable.not_not] at h22
    refine JO.pur rfl rfl rfl (Pur.move rfl) ?_
    refine JO.pur rfl rfl rfl (Pur.eqlI rfl rfl) ?_
    refine JO.pur rfl rfl rfl (Pur.pickT rfl rfl) ?_
    refine JO.pur rfl rfl rfl (Pur.assign rfl) ?_
    refine JO.nil ?_
    refine J.ret rfl rfl ?_
    first
    | exact ⟨_, _, ⟨rfl, rfl⟩, rfl, SubC.out⟩
    | (exfalso; revert h22; decide)
  · try simp only [decide_eq_true_eq, decide_eq_false_iff_not, Bool.not_eq_true', Bool.not_eq_false', Bool.and_eq_true, Bool.or_eq_true, Bool.and_eq_false_iff, Bool.or_eq_false_iff, Option.isNone_some, Option.isSome_some, Option.isNone_none, Option.isSome_none, Int.not_lt, Int.not_le, beq_iff_eq, beq_eq_false_iff_ne, bne_iff_ne, ne_eq, Bool.not_not, Decidable.not_not] at h22
    refine JO.no rfl rfl rfl ?_
    refine JO.no rfl rfl rfl ?_
    refine JO.pur rfl rfl rfl (Pur.pickF rfl rfl) ?_
    refine JO.pur rfl rfl rfl (Pur.assign rfl) ?_
    refine JO.nil ?_
    refine J.ret rfl rfl ?_
    first
    | exact ⟨_, _, ⟨rfl, rfl⟩, rfl, SubC.out⟩
    | (exfalso; revert h22; decide)

end Go.Proofs.YtbmepcipnnlcnaaDoor
