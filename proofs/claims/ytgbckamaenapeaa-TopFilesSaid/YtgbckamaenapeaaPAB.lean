/-
  A part of the proof of the claim that this folder bears.
-/
import Derived.Test.YtgbckamaenapeaaPAA
/- The text HRep. -/
/-!
  How a file lies in memory: the program's (a map of pointers) and the document's (a slice of records).
-/
set_option linter.unusedVariables false
set_option linter.unusedSimpArgs false
namespace Go.Proofs.Ytgbckamaenapeaa
open Go Go.KK Hf
def byE : Enc UInt8 := ⟨5, 1, fun b => [.int .u8 (b.toNat : Int)], fun _ => rfl, fun s v h => by
  simp only [List.mem_cons, List.not_mem_nil, or_false] at h; rcases h with rfl; rfl⟩
def intE : Enc Int := ⟨3, 1, fun s => [.int .i64 s], fun _ => rfl, fun s v h => by
  simp only [List.mem_cons, List.not_mem_nil, or_false] at h; rcases h with rfl; rfl⟩
/-- Where a channel lies. -/
structure Cr where
  b : Nat
  ap : Option Addr
  cp : Nat
  am : Option Addr
  cm : Nat
  deriving Inhabited
def chC (r : Cr) (c : Ch) : List Value := [.int .i64 c.fr, .int .i64 c.to, .int .i64 c.at', .bool c.wr, .slice r.ap c.pend.length r.cp, .int .i64 c.st, .slice r.am c.marks.length r.cm]
def chA (r : Cr) (c : Ch) : Asn := star [blk r.b (.cells (chC r c).toArray 77), sl byE r.ap r.cp c.pend, sl intE r.am r.cm c.marks]
def chL (rs : List Cr) (cs : List Ch) : List Asn := List.zipWith chA rs cs
def ent (r : Cr) (c : Ch) : Int × Value := (c.num, .pointer (some ⟨r.b, 0, none⟩))
def entsC (rs : List Cr) (cs : List Ch) : List (Int × Value) := List.zipWith ent rs cs
structure Fr' where
  ab : Option Addr
  cb : Nat
  mb : Nat
  rs : List Cr
def flC (q : Fr') (F : Fl) : List Value := [.bool true, .slice q.ab F.bytes.length q.cb, .int .i64 F.next, .map (some q.mb)]
def FA (p : Nat) (F : Fl) : Asn := fun h => ∃ q : Fr', q.rs.length = F.opens.length ∧ star [blk p (.cells (flC q F).toArray 62), sl byE q.ab q.cb F.bytes, mp intK q.mb (entsC q.rs F.opens), star (chL q.rs F.opens)] h
theorem FA_mk {p : Nat} {F : Fl} {ab : Option Addr} {cb mb : Nat} {rs : List Cr} {L : List Asn} {h : Hp} (hr : rs.length = F.opens.length)
    (s : Sat h (blk p (.cells #[.bool true, .slice ab F.bytes.length cb, .int .i64 F.next, .map (some mb)] 62) :: sl byE ab cb F.bytes :: mp intK mb (entsC rs F.opens) :: star (chL rs F.opens) :: L)) : Sat h (FA p F :: L) := by
  have h1 := (Sat.star (M := [blk p (.cells (flC ⟨ab, cb, mb, rs⟩ F).toArray 62), sl byE ab cb F.bytes, mp intK mb (entsC rs F.opens), star (chL rs F.opens)]) (L := L)).2 s
  exact h1.cons_imp (fun k hk => ⟨⟨ab, cb, mb, rs⟩, hr, hk⟩) (fun _ h => h)
theorem FA_open {p : Nat} {F : Fl} {L : List Asn} {c : Cx} {G : Fr} {k : List Item}
    (h : ∀ (ab : Option Addr) (cb mb : Nat) (rs : List Cr), rs.length = F.opens.length → J c G (blk p (.cells #[.bool true, .slice ab F.bytes.length cb, .int .i64 F.next, .map (some mb)] 62) :: sl byE ab cb F.bytes :: mp intK mb (entsC rs F.opens) :: star (chL rs F.opens) :: L) k) : J c G (FA p F :: L) k := by
  refine J.ex (A := fun q : Fr' => fun h => q.rs.length = F.opens.length ∧ star [blk p (.cells (flC q F).toArray 62), sl byE q.ab q.cb F.bytes, mp intK q.mb (entsC q.rs F.opens), star (chL q.rs F.opens)] h) fun q => ?_
  refine J.prop fun hr => ?_
  refine J.star ?_
  exact h q.ab q.cb q.mb q.rs hr

theorem chL_get {rs : List Cr} {cs : List Ch} {i : Nat} {r : Cr} {c : Ch} (h1 : rs[i]? = some r) (h2 : cs[i]? = some c) : (chL rs cs)[i]? = some (chA r c) := by
  unfold chL; rw [List.getElem?_zipWith, h1, h2]
theorem chL_set {rs : List Cr} {cs : List Ch} {i : Nat} {r' : Cr} {c' : Ch} : (chL rs cs).set i (chA r' c') = chL (rs.set i r') (cs.set i c') := by
  apply List.ext_getElem?
  intro j
  unfold chL
  rw [List.getElem?_set, List.getElem?_zipWith, List.getElem?_zipWith, List.getElem?_set, List.getElem?_set, List.length_zipWith]
  by_cases hij : i = j
  · subst hij
    rw [if_pos rfl, if_pos rfl, if_pos rfl]
    by_cases h1 : i < rs.length
    · by_cases h2 : i < cs.length
      · rw [if_pos (by omega), if_pos h1, if_pos h2]
      · rw [if_neg (by omega), if_pos h1, if_neg h2]
    · rw [if_neg (by omega), if_neg h1]
  · rw [if_neg hij, if_neg hij, if_neg hij]
theorem entsC_set {rs : List Cr} {cs : List Ch} {i : Nat} {r r' : Cr} {c c' : Ch} (h1 : rs[i]? = some r) (h2 : cs[i]? = some c) (hb : r'.b = r.b) (hn : c'.num = c.num) : entsC (rs.set i r') (cs.set i c') = entsC rs cs := by
  apply List.ext_getElem?
  intro j
  unfold entsC
  rw [List.getElem?_zipWith, List.getElem?_zipWith, List.getElem?_set, List.getElem?_set]
  by_cases hij : i = j
  · subst hij
    rw [if_pos rfl, if_pos rfl, if_pos (List.getElem?_eq_some_iff.1 h1).1, if_pos (List.getElem?_eq_some_iff.1 h2).1, h1, h2]
    simp [ent, hb, hn]
  · rw [if_neg hij, if_neg hij]
theorem entsC_len {rs : List Cr} {cs : List Ch} (h : rs.length = cs.length) : (entsC rs cs).length = cs.length := by simp [entsC, h]
theorem entsC_snoc {rs : List Cr} {cs : List Ch} (h : rs.length = cs.length) (r : Cr) (c : Ch) : entsC (rs ++ [r]) (cs ++ [c]) = entsC rs cs ++ [ent r c] := by
  unfold entsC; rw [List.zipWith_append h]; rfl
theorem chL_snoc {rs : List Cr} {cs : List Ch} (h : rs.length = cs.length) (r : Cr) (c : Ch) : chL (rs ++ [r]) (cs ++ [c]) = chL rs cs ++ [chA r c] := by
  unfold chL; rw [List.zipWith_append h]; rfl
theorem entsC_find {n : Int} : ∀ {rs : List Cr} {cs : List Ch}, rs.length = cs.length → (entsC rs cs).findIdx? (fun p => decide (n = p.1)) = cs.findIdx? (fun c => decide (n = c.num))
  | [], [], _ => rfl
  | [], _ :: _, h => by simp at h
  | _ :: _, [], h => by simp at h
  | r :: rs, c :: cs, h => by
    unfold entsC
    rw [List.zipWith_cons_cons, List.findIdx?_cons, List.findIdx?_cons]
    have ih := entsC_find (n := n) (rs := rs) (cs := cs) (by simpa using h)
    unfold entsC at ih
    rw [ih]; rfl
theorem entsC_get {rs : List Cr} {cs : List Ch} {i : Nat} {r : Cr} {c : Ch} (h1 : rs[i]? = some r) (h2 : cs[i]? = some c) : (entsC rs cs)[i]? = some (c.num, .pointer (some ⟨r.b, 0, none⟩)) := by
  unfold entsC; rw [List.getElem?_zipWith, h1, h2]; rfl
theorem look_yes {F : Fl} {n : Int} {i : Nat} {rs : List Cr} {r : Cr} (hr : rs.length = F.opens.length) (h : ix F n = some i) (h1 : rs[i]? = some r) : alook (entsC rs F.opens) n = some (.pointer (some ⟨r.b, 0, none⟩)) := by
  rw [← find_bind, entsC_find hr]
  unfold ix at h
  rw [h, Option.bind_some, entsC_get h1 (ix_some (F := F) (n := n) h).2.1]; rfl
theorem look_no {F : Fl} {n : Int} {rs : List Cr} (hr : rs.length = F.opens.length) (h : ix F n = none) : alook (entsC rs F.opens) n = none := by
  rw [← find_bind, entsC_find hr]
  unfold ix at h
  rw [h]; rfl
theorem del_yes {F : Fl} {n : Int} {i : Nat} {rs : List Cr} (hr : rs.length = F.opens.length) (h : ix F n = some i) : adel (entsC rs F.opens) n = entsC (rs.eraseIdx i) (F.opens.eraseIdx i) := by
  unfold adel
  rw [entsC_find hr]
  unfold ix at h
  rw [h]
  unfold entsC
  clear h
  have : ∀ (rs : List Cr) (cs : List Ch) (i : Nat), rs.length = cs.length → (List.zipWith ent rs cs).eraseIdx i = List.zipWith ent (rs.eraseIdx i) (cs.eraseIdx i) := by
    intro rs
    induction rs with
    | nil => intro cs i h; simp
    | cons r rs ih =>
      intro cs i h
      cases cs with
      | nil => simp at h
      | cons c cs =>
        cases i with
        | zero => simp
        | succ i => simp only [List.zipWith_cons_cons, List.eraseIdx_cons_succ]; rw [ih cs i (by simpa using h)]
  exact this rs F.opens i hr
theorem chL_erase {rs : List Cr} {cs : List Ch} {i : Nat} (h : rs.length = cs.length) : (chL rs cs).eraseIdx i = chL (rs.eraseIdx i) (cs.eraseIdx i) := by
  unfold chL
  revert cs i
  induction rs with
  | nil => intro cs i h; simp
  | cons r rs ih =>
    intro cs i h
    cases cs with
    | nil => simp at h
    | cons c cs =>
      cases i with
      | zero => simp
      | succ i => simp only [List.zipWith_cons_cons, List.eraseIdx_cons_succ]; rw [ih (cs := cs) (i := i) (by simpa using h)]

/-- A channel is taken out of the list. -/
theorem ch_take {rs : List Cr} {cs : List Ch} {i : Nat} {r : Cr} {c : Ch} {L R : List Asn} [p : StarP (chL rs cs) L R] {h : Hp} (h1 : rs[i]? = some r) (h2 : cs[i]? = some c) (s : Sat h L) :
    Sat h (blk r.b (.cells #[.int .i64 c.fr, .int .i64 c.to, .int .i64 c.at', .bool c.wr, .slice r.ap c.pend.length r.cp, .int .i64 c.st, .slice r.am c.marks.length r.cm] 77) :: sl byE r.ap r.cp c.pend :: sl intE r.am r.cm c.marks :: star ((chL rs cs).eraseIdx i) :: R) :=
  Sat.star.1 (star_open (chL_get h1 h2) (s.perm p.out))
/-- A channel is put back, turned. -/
theorem ch_put {rs : List Cr} {cs : List Ch} {i : Nat} {r : Cr} {c c' : Ch} {b : Nat} {ap am : Option Addr} {cp cm : Nat} {L : List Asn} {h : Hp} (h1 : rs[i]? = some r) (h2 : cs[i]? = some c)
    (s : Sat h (blk b (.cells #[.int .i64 c'.fr, .int .i64 c'.to, .int .i64 c'.at', .bool c'.wr, .slice ap c'.pend.length cp, .int .i64 c'.st, .slice am c'.marks.length cm] 77) :: sl byE ap cp c'.pend :: sl intE am cm c'.marks :: star ((chL rs cs).eraseIdx i) :: L)) :
    Sat h (star (chL (rs.set i ⟨b, ap, cp, am, cm⟩) (cs.set i c')) :: L) := by
  rw [← chL_set]
  refine star_shut (chL_get h1 h2) ?_
  exact (Sat.star (M := [blk b (.cells (chC ⟨b, ap, cp, am, cm⟩ c').toArray 77), sl byE ap cp c'.pend, sl intE am cm c'.marks])).2 s
/-- The whole file, with a channel turned. -/
theorem FA_shut {p : Nat} {F : Fl} {bs : List UInt8} {nx : Int} {ab : Option Addr} {cb mb : Nat} {rs : List Cr} {i : Nat} {r : Cr} {c' : Ch} {ap am : Option Addr} {cp cm : Nat} {L : List Asn} {h : Hp} (hr : rs.length = F.opens.length) (h1 : rs[i]? = some r) (h2 : F.opens[i]? = some (ch F i)) (hn : c'.num = (ch F i).num)
    (s : Sat h (blk r.b (.cells #[.int .i64 c'.fr, .int .i64 c'.to, .int .i64 c'.at', .bool c'.wr, .slice ap c'.pend.length cp, .int .i64 c'.st, .slice am c'.marks.length cm] 77) :: sl byE ap cp c'.pend :: sl intE am cm c'.marks :: star ((chL rs F.opens).eraseIdx i) ::
      blk p (.cells #[.bool true, .slice ab bs.length cb, .int .i64 nx, .map (some mb)] 62) :: sl byE ab cb bs :: mp intK mb (entsC rs F.opens) :: L)) : Sat h (FA p ⟨bs, nx, F.opens.set i c'⟩ :: L) := by
  have s2 := ch_put (c' := c') h1 h2 s
  refine FA_mk (F := ⟨bs, nx, F.opens.set i c'⟩) (ab := ab) (cb := cb) (mb := mb) (rs := rs.set i ⟨r.b, ap, cp, am, cm⟩) (by simp [hr]) ?_
  rw [show entsC (rs.set i ⟨r.b, ap, cp, am, cm⟩) (F.opens.set i c') = entsC rs F.opens from entsC_set h1 h2 rfl hn]
  exact SubC.out h s2
theorem upd_same {F : Fl} {n : Int} {i : Nat} (h : ix F n = some i) : F.opens.set i (ch F i) = F.opens := set_same (ix_some h).2.1
end Go.Proofs.Ytgbckamaenapeaa

/- The text HFn1. -/
set_option linter.unusedVariables false
set_option linter.unusedSimpArgs false
set_option maxRecDepth 10000
namespace Go.Proofs.Ytgbckamaenapeaa
open Go Go.KK Hf

theorem cloneB {L : List Asn} {a : Option Addr} {n cap : Nat} {xs : List UInt8} [SlIn byE L a xs] (hn : n = xs.length) (hb : xs.length ≤ 1000000) (hnil : a = none → n = 0 ∧ cap = 0) :
    CallS Try.prog 37 [.slice a n cap].toArray L (fun v M => ∃ a' cap', (v = .slice a' n cap' ∧ (a = none → a' = none)) ∧ M = sl byE a' cap' xs :: L) := by
  subst hn
  refine CallS.ent ?_
  refine CallS.enter Try.func37 rfl rfl rfl rfl rfl ?_
  refine J.seq rfl ?_
  refine J.region rfl ?_
  refine JO.pur rfl rfl rfl (Pur.assign rfl) ?_
  refine JO.nil ?_
  refine J.seq rfl ?_
  refine J.seq rfl ?_
  refine J.region rfl ?_
  refine JO.pur rfl rfl rfl (Pur.move rfl) ?_
  refine JO.pur rfl rfl rfl (Pur.eqlSlNil rfl) ?_
  refine JO.nil ?_
  refine J.splitB 4 rfl (fun h4 => ?_) (fun h4 => ?_)
  · try simp only [decide_eq_true_eq, decide_eq_false_iff_not, Bool.not_eq_true', Bool.not_eq_false', Bool.and_eq_true, Bool.or_eq_true, Bool.and_eq_false_iff, Bool.or_eq_false_iff, Option.isNone_some, Option.isSome_some, Option.isNone_none, Option.isSome_none, Int.not_lt, Int.not_le, beq_iff_eq, beq_eq_false_iff_ne, bne_iff_ne, ne_eq, Bool.not_not, Decidable.not_not] at h4
    have ha : a = none := by cases a with | none => rfl | some p => simp at h4
    subst ha
    obtain ⟨e1, e2⟩ := hnil rfl
    have e3 : xs = [] := List.eq_nil_of_length_eq_zero (by omega)
    subst e2; subst e3
    refine J.condT rfl rfl ?_
    refine J.seq rfl ?_
    refine J.region rfl ?_
    refine JO.pur rfl rfl rfl (Pur.assign rfl) ?_
    refine JO.nil ?_
    refine J.ret rfl rfl ?_
    exact ⟨_, _, ⟨none, 0, ⟨rfl, fun _ => rfl⟩, rfl⟩, rfl, fun h hs => sl_nil_new hs⟩
  · try simp only [decide_eq_true_eq, decide_eq_false_iff_not, Bool.not_eq_true', Bool.not_eq_false', Bool.and_eq_true, Bool.or_eq_true, Bool.and_eq_false_iff, Bool.or_eq_false_iff, Option.isNone_some, Option.isSome_some, Option.isNone_none, Option.isSome_none, Int.not_lt, Int.not_le, beq_iff_eq, beq_eq_false_iff_ne, bne_iff_ne, ne_eq, Bool.not_not, Decidable.not_not] at h4
    refine J.condF rfl rfl ?_
    refine J.skip rfl ?_
    refine J.seq rfl ?_
    refine J.region rfl ?_
    refine JO.eff rfl rfl rfl (Eff.buildSlice byE [] rfl rfl rfl rfl rfl rfl rfl) ?_
    rintro _ _ ⟨b5, rfl, -, rfl⟩
    refine JO.pur rfl rfl rfl (Pur.move rfl) ?_
    refine JO.eff rfl rfl rfl (Eff.append rfl rfl rfl rfl (by first | rfl | omega | (simp; done) | (simp; omega)) (by first | rfl | omega | (simp; done) | (simp; omega)) (by decide) (by simp; omega) (by simp; omega) hnil) ?_
    rintro _ _ ⟨a7, c7, rfl, rfl⟩
    refine JO.pur rfl rfl rfl (Pur.assign rfl) ?_
    refine JO.nil ?_
    refine J.ret rfl rfl ?_
    refine ⟨_, _, ⟨a7, c7, ⟨rfl, fun e => ?_⟩, rfl⟩, ?_, fun h hs => ?_⟩
    · rw [e] at h4; simp at h4
    · show Value.slice _ _ _ = Value.slice _ _ _
      simp
    · simpa using hs

theorem cloneI {L : List Asn} {a : Option Addr} {n cap : Nat} {xs : List Int} [SlIn intE L a xs] (hn : n = xs.length) (hb : xs.length ≤ 1000000) (hnil : a = none → n = 0 ∧ cap = 0) :
    CallS Try.prog 42 [.slice a n cap].toArray L (fun v M => ∃ a' cap', (v = .slice a' n cap' ∧ (a = none → a' = none)) ∧ M = sl intE a' cap' xs :: L) := by
  subst hn
  refine CallS.ent ?_
  refine CallS.enter Try.func42 rfl rfl rfl rfl rfl ?_
  refine J.seq rfl ?_
  refine J.region rfl ?_
  refine JO.pur rfl rfl rfl (Pur.assign rfl) ?_
  refine JO.nil ?_
  refine J.seq rfl ?_
  refine J.seq rfl ?_
  refine J.region rfl ?_
  refine JO.pur rfl rfl rfl (Pur.move rfl) ?_
  refine JO.pur rfl rfl rfl (Pur.eqlSlNil rfl) ?_
  refine JO.nil ?_
  refine J.splitB 4 rfl (fun h4 => ?_) (fun h4 => ?_)
  · try simp only [decide_eq_true_eq, decide_eq_false_iff_not, Bool.not_eq_true', Bool.not_eq_false', Bool.and_eq_true, Bool.or_eq_true, Bool.and_eq_false_iff, Bool.or_eq_false_iff, Option.isNone_some, Option.isSome_some, Option.isNone_none, Option.isSome_none, Int.not_lt, Int.not_le, beq_iff_eq, beq_eq_false_iff_ne, bne_iff_ne, ne_eq, Bool.not_not, Decidable.not_not] at h4
    have ha : a = none := by cases a with | none => rfl | some p => simp at h4
    subst ha
    obtain ⟨e1, e2⟩ := hnil rfl
    have e3 : xs = [] := List.eq_nil_of_length_eq_zero (by omega)
    subst e2; subst e3
    refine J.condT rfl rfl ?_
    refine J.seq rfl ?_
    refine J.region rfl ?_
    refine JO.pur rfl rfl rfl (Pur.assign rfl) ?_
    refine JO.nil ?_
    refine J.ret rfl rfl ?_
    exact ⟨_, _, ⟨none, 0, ⟨rfl, fun _ => rfl⟩, rfl⟩, rfl, fun h hs => sl_nil_new hs⟩
  · try simp only [decide_eq_true_eq, decide_eq_false_iff_not, Bool.not_eq_true', Bool.not_eq_false', Bool.and_eq_true, Bool.or_eq_true, Bool.and_eq_false_iff, Bool.or_eq_false_iff, Option.isNone_some, Option.isSome_some, Option.isNone_none, Option.isSome_none, Int.not_lt, Int.not_le, beq_iff_eq, beq_eq_false_iff_ne, bne_iff_ne, ne_eq, Bool.not_not, Decidable.not_not] at h4
    refine J.condF rfl rfl ?_
    refine J.skip rfl ?_
    refine J.seq rfl ?_
    refine J.region rfl ?_
    refine JO.eff rfl rfl rfl (Eff.buildSlice intE [] rfl rfl rfl rfl rfl rfl rfl) ?_
    rintro _ _ ⟨b5, rfl, -, rfl⟩
    refine JO.pur rfl rfl rfl (Pur.move rfl) ?_
    refine JO.eff rfl rfl rfl (Eff.append rfl rfl rfl rfl (by first | rfl | omega | (simp; done) | (simp; omega)) (by first | rfl | omega | (simp; done) | (simp; omega)) (by decide) (by simp; omega) (by simp; omega) hnil) ?_
    rintro _ _ ⟨a7, c7, rfl, rfl⟩
    refine JO.pur rfl rfl rfl (Pur.assign rfl) ?_
    refine JO.nil ?_
    refine J.ret rfl rfl ?_
    refine ⟨_, _, ⟨a7, c7, ⟨rfl, fun e => ?_⟩, rfl⟩, ?_, fun h hs => ?_⟩
    · rw [e] at h4; simp at h4
    · show Value.slice _ _ _ = Value.slice _ _ _
      simp
    · simpa using hs

theorem sameInts_ok {L : List Asn} {a b : Option Addr} {n m cap cap2 : Nat} {xs ys : List Int} [SlIn intE L a xs] [SlIn intE L b ys] (hn : n = xs.length) (hm : m = ys.length) (hb : xs.length ≤ 1000000) :
    CallS Try.prog 57 [.slice a n cap, .slice b m cap2].toArray L (fun v M => v = .bool (decide (xs = ys)) ∧ M = L) := by
  subst hn
  subst hm
  refine CallS.enter Try.func57 rfl rfl rfl rfl rfl ?_
  refine J.seq rfl ?_
  refine J.region rfl ?_
  refine JO.pur rfl rfl rfl (Pur.assign rfl) ?_
  refine JO.nil ?_
  refine J.seq rfl ?_
  refine J.seq rfl ?_
  refine J.region rfl ?_
  refine JO.pur rfl rfl rfl (Pur.move rfl) ?_
  refine JO.pur rfl rfl rfl (Pur.len rfl) ?_
  refine JO.pur rfl rfl rfl (Pur.move rfl) ?_
  refine JO.pur rfl rfl rfl (Pur.len rfl) ?_
  refine JO.pur rfl rfl rfl (Pur.neqI rfl rfl) ?_
  refine JO.nil ?_
  refine J.splitB 10 rfl (fun h10 => ?_) (fun h10 => ?_)
  · try simp only [decide_eq_true_eq, decide_eq_false_iff_not, Bool.not_eq_true', Bool.not_eq_false', Bool.and_eq_true, Bool.or_eq_true, Bool.and_eq_false_iff, Bool.or_eq_false_iff, Option.isNone_some, Option.isSome_some, Option.isNone_none, Option.isSome_none, Int.not_lt, Int.not_le, beq_iff_eq, beq_eq_false_iff_ne, bne_iff_ne, ne_eq, Bool.not_not, Decidable.not_not] at h10
    refine J.condT rfl rfl ?_
    refine J.seq rfl ?_
    refine J.region rfl ?_
    refine JO.pur rfl rfl rfl (Pur.assign rfl) ?_
    refine JO.nil ?_
    refine J.ret rfl rfl ?_
    exact ⟨congrArg Value.bool (decide_eq_false (fun e => by rw [e] at h10; omega)).symm, rfl⟩
  · try simp only [decide_eq_true_eq, decide_eq_false_iff_not, Bool.not_eq_true', Bool.not_eq_false', Bool.and_eq_true, Bool.or_eq_true, Bool.and_eq_false_iff, Bool.or_eq_false_iff, Option.isNone_some, Option.isSome_some, Option.isNone_none, Option.isSome_none, Int.not_lt, Int.not_le, beq_iff_eq, beq_eq_false_iff_ne, bne_iff_ne, ne_eq, Bool.not_not, Decidable.not_not] at h10
    refine J.condF rfl rfl ?_
    refine J.skip rfl ?_
    refine J.seq rfl ?_
    refine J.seq rfl ?_
    refine J.region rfl ?_
    refine JO.pur rfl rfl rfl (Pur.assign rfl) ?_
    refine JO.nil ?_
    refine J.block rfl ?_
    refine J.loopF (ι := Nat) (fun i => i ≤ xs.length ∧ xs.take i = ys.take i) (fun i => [(5, .int .i64 (i : Int))]) [(0, _), (1, _)] (fun i => L) (fun i => xs.length - i) 0 rfl (.cons rfl rfl (.cons rfl rfl .nil)) (.cons rfl rfl .nil) (by first | exact fun _ h => h | exact SubC.out | (dsimp only; exact SubC.out)) ⟨Nat.zero_le _, rfl⟩ ?_
    rintro i ⟨hi1, hi2⟩ ih0
    try dsimp only
    refine J.seq rfl ?_
    refine J.seq rfl ?_
    refine J.region rfl ?_
    refine JO.pur rfl rfl rfl (Pur.move rfl) ?_
    refine JO.pur rfl rfl rfl (Pur.move rfl) ?_
    refine JO.pur rfl rfl rfl (Pur.len rfl) ?_
    refine JO.pur rfl rfl rfl (Pur.lss rfl rfl) ?_
    refine JO.nil ?_
    refine J.splitB 14 rfl (fun h14 => ?_) (fun h14 => ?_)
    · try simp only [decide_eq_true_eq, decide_eq_false_iff_not, Bool.not_eq_true', Bool.not_eq_false', Bool.and_eq_true, Bool.or_eq_true, Bool.and_eq_false_iff, Bool.or_eq_false_iff, Option.isNone_some, Option.isSome_some, Option.isNone_none, Option.isSome_none, Int.not_lt, Int.not_le, beq_iff_eq, beq_eq_false_iff_ne, bne_iff_ne, ne_eq, Bool.not_not, Decidable.not_not] at h14
      refine J.condT rfl rfl ?_
      refine J.skip rfl ?_
      refine J.seq rfl ?_
      refine J.block rfl ?_
      refine J.seq rfl ?_
      refine J.quiet rfl Try.mixed (by kernel_rfl) ?_
      refine JQ.pur rfl rfl rfl (Pur.move rfl) ?_
      refine JQ.pur rfl rfl rfl (Pur.move rfl) ?_
      refine JQ.pur rfl rfl rfl (Pur.idx rfl rfl rfl (by first | rfl | (simp; done) | omega) rfl (by omega)) ?_
      refine JQ.pur rfl rfl rfl (Pur.load rfl (CellIn.el0 rfl (List.getElem?_eq_getElem (by omega)) rfl)) ?_
      refine JQ.pur rfl rfl rfl (Pur.move rfl) ?_
      refine JQ.pur rfl rfl rfl (Pur.move rfl) ?_
      refine JQ.pur rfl rfl rfl (Pur.idx rfl rfl rfl (by first | rfl | (simp; done) | omega) rfl (by omega)) ?_
      refine JQ.pur rfl rfl rfl (Pur.load rfl (CellIn.el0 rfl (List.getElem?_eq_getElem (by omega)) rfl)) ?_
      refine JQ.pur rfl rfl rfl (Pur.neqI rfl rfl) ?_
      refine JQ.nil ?_
      refine J.splitB 25 rfl (fun h25 => ?_) (fun h25 => ?_)
      · try simp only [decide_eq_true_eq, decide_eq_false_iff_not, Bool.not_eq_true', Bool.not_eq_false', Bool.and_eq_true, Bool.or_eq_true, Bool.and_eq_false_iff, Bool.or_eq_false_iff, Option.isNone_some, Option.isSome_some, Option.isNone_none, Option.isSome_none, Int.not_lt, Int.not_le, beq_iff_eq, beq_eq_false_iff_ne, bne_iff_ne, ne_eq, Bool.not_not, Decidable.not_not] at h25
        refine J.condT rfl rfl ?_
        refine J.seq rfl ?_
        refine J.region rfl ?_
        refine JO.pur rfl rfl rfl (Pur.assign rfl) ?_
        refine JO.nil ?_
        refine J.ret rfl rfl ?_
        exact ⟨congrArg Value.bool (decide_eq_false (fun e => h25 (by simp [e]))).symm, rfl⟩
      · try simp only [decide_eq_true_eq, decide_eq_false_iff_not, Bool.not_eq_true', Bool.not_eq_false', Bool.and_eq_true, Bool.or_eq_true, Bool.and_eq_false_iff, Bool.or_eq_false_iff, Option.isNone_some, Option.isSome_some, Option.isNone_none, Option.isSome_none, Int.not_lt, Int.not_le, beq_iff_eq, beq_eq_false_iff_ne, bne_iff_ne, ne_eq, Bool.not_not, Decidable.not_not] at h25
        refine J.condF rfl rfl ?_
        refine J.skip rfl ?_
        refine J.inBlock ?_
        refine J.region rfl ?_
        refine JO.pur rfl rfl rfl (Pur.move rfl) ?_
        refine JO.pur rfl rfl rfl (Pur.add rfl rfl (wr64 (by omega))) ?_
        refine JO.pur rfl rfl rfl (Pur.assign rfl) ?_
        refine JO.nil ?_
        exact J.weaken (.cons rfl (congrArg (Value.int .i64) (by omega)) (.cons rfl rfl (.cons rfl rfl .nil))) (by first | exact fun _ h => h | exact SubC.out | (dsimp only; exact SubC.out)) (ih0 (i + 1) ⟨by omega, take_succ_eq hi2 (by omega) (by omega) h25⟩ (by omega))
    · try simp only [decide_eq_true_eq, decide_eq_false_iff_not, Bool.not_eq_true', Bool.not_eq_false', Bool.and_eq_true, Bool.or_eq_true, Bool.and_eq_false_iff, Bool.or_eq_false_iff, Option.isNone_some, Option.isSome_some, Option.isNone_none, Option.isSome_none, Int.not_lt, Int.not_le, beq_iff_eq, beq_eq_false_iff_ne, bne_iff_ne, ne_eq, Bool.not_not, Decidable.not_not] at h14
      refine J.condF rfl rfl ?_
      refine J.exit rfl rfl ?_
      refine J.seq rfl ?_
      refine J.region rfl ?_
      refine JO.pur rfl rfl rfl (Pur.assign rfl) ?_
      refine JO.nil ?_
      refine J.ret rfl rfl ?_
      exact ⟨congrArg Value.bool (decide_eq_true (take_all_eq hi2 (by omega) (by omega))).symm, rfl⟩

theorem same_ok {L : List Asn} {a b : Option Addr} {n cp m cq : Nat} {xs ys : List UInt8} [SlIn byE L a xs] [SlIn byE L b ys] (hn : n = xs.length) (hm : m = ys.length) :
    CallS Try.prog 16 [.slice a n cp, .slice b m cq].toArray L (fun v M => v = .bool (decide (xs = ys)) ∧ M = L) := by
  refine CallS.enter Try.func16 rfl rfl rfl rfl rfl ?_
  refine J.seq rfl ?_
  refine J.region rfl ?_
  refine JO.pur rfl rfl rfl (Pur.assign rfl) ?_
  refine JO.nil ?_
  refine J.seq rfl ?_
  refine J.region rfl ?_
  refine JO.pur rfl rfl rfl (Pur.move rfl) ?_
  refine JO.pur rfl rfl rfl (Pur.convBS (E := byE) (e := 5) (by kernel_rfl) (by kernel_rfl) (by kernel_rfl) rfl hn rfl (fun _ => rfl)) ?_
  refine JO.pur rfl rfl rfl (Pur.move rfl) ?_
  refine JO.pur rfl rfl rfl (Pur.convBS (E := byE) (e := 5) (by kernel_rfl) (by kernel_rfl) (by kernel_rfl) rfl hm rfl (fun _ => rfl)) ?_
  refine JO.pur rfl rfl rfl (Pur.eqlT rfl rfl) ?_
  refine JO.pur rfl rfl rfl (Pur.assign rfl) ?_
  refine JO.nil ?_
  refine J.ret rfl rfl ?_
  exact ⟨congrArg Value.bool (decide_eq_decide.2 strB_inj), rfl⟩

theorem none_ok {L : List Asn} {p : Nat} {v1 v2 v3 : Value} [hb : BlkIn L p (.cells #[.bool true, v1, v2, v3] 62)] :
    CallS Try.prog 41 [.pointer (some ⟨p, 0, none⟩)].toArray L (fun v M => v = .bool false ∧ M = L) := by
  refine CallS.enter Try.func41 rfl rfl rfl rfl rfl ?_
  refine J.seq rfl ?_
  refine J.region rfl ?_
  refine JO.pur rfl rfl rfl (Pur.assign rfl) ?_
  refine JO.nil ?_
  refine J.seq rfl ?_
  refine J.region rfl ?_
  refine JO.pur rfl rfl rfl (Pur.move rfl) ?_
  refine JO.pur rfl rfl rfl (Pur.eqlPtrNil rfl) ?_
  refine JO.setv (u' := .bool false) 4 rfl (congrArg Value.bool (rfl)) ?_
  refine JO.pur rfl rfl rfl (Pur.move rfl) ?_
  refine JO.pur rfl rfl rfl (Pur.move rfl) ?_
  refine JO.pur rfl rfl rfl (Pur.nilCheck rfl) ?_
  refine JO.pur rfl rfl rfl (Pur.fieldAddr rfl) ?_
  refine JO.pur rfl rfl rfl (Pur.load rfl (CellIn.blk rfl)) ?_
  refine JO.pur rfl rfl rfl (Pur.not rfl) ?_
  refine JO.setv (u' := .bool false) 10 rfl (congrArg Value.bool (rfl)) ?_
  refine JO.pur rfl rfl rfl (Pur.pickF rfl rfl) ?_
  refine JO.pur rfl rfl rfl (Pur.assign rfl) ?_
  refine JO.nil ?_
  refine J.ret rfl rfl ?_
  exact ⟨rfl, rfl⟩

theorem find_no {L : List Asn} {p mb : Nat} {v1 v2 : Value} {F : Fl} {rs : List Cr} {f : Asn → List Asn} [hb : BlkIn L p (.cells #[.bool true, v1, v2, .map (some mb)] 62)] [hmp : MpIn intK L mb (entsC rs F.opens) f] (hr : rs.length = F.opens.length) {n : Int} (hx : ix F n = none) :
    CallS Try.prog 39 [.pointer (some ⟨p, 0, none⟩), .int .i64 n].toArray L (fun v M => v = .tuple #[.pointer none, .int .i64 5] ∧ M = L) := by
  refine CallS.enter Try.func39 rfl rfl rfl rfl rfl ?_
  refine J.seq rfl ?_
  refine J.region rfl ?_
  refine JO.pur rfl rfl rfl (Pur.assign rfl) ?_
  refine JO.pur rfl rfl rfl (Pur.assign rfl) ?_
  refine JO.nil ?_
  refine J.seq rfl ?_
  refine J.seq rfl ?_
  refine J.region rfl ?_
  refine JO.pur rfl rfl rfl (Pur.move rfl) ?_
  refine JO.effR rfl rfl rfl (Eff.call rfl (none_ok)) ?_
  refine JO.setv (u' := .bool false) 8 rfl (congrArg Value.bool (rfl)) ?_
  refine JO.nil ?_
  refine J.condF rfl rfl ?_
  refine J.skip rfl ?_
  refine J.seq rfl ?_
  refine J.region rfl ?_
  refine JO.pur rfl rfl rfl (Pur.move rfl) ?_
  refine JO.pur rfl rfl rfl (Pur.nilCheck rfl) ?_
  refine JO.pur rfl rfl rfl (Pur.fieldAddr rfl) ?_
  refine JO.pur rfl rfl rfl (Pur.load rfl (CellIn.blk rfl)) ?_
  refine JO.pur rfl rfl rfl (Pur.move rfl) ?_
  refine JO.pur rfl rfl rfl (Pur.lookup (K := intK) (k := n) rfl rfl) ?_
  refine JO.setv (u' := .pointer none) 14 rfl (by rw [look_no hr hx]; rfl) ?_
  refine JO.pur rfl rfl rfl (Pur.assign rfl) ?_
  refine JO.nil ?_
  refine J.seq rfl ?_
  refine J.seq rfl ?_
  refine J.region rfl ?_
  refine JO.pur rfl rfl rfl (Pur.move rfl) ?_
  refine JO.pur rfl rfl rfl (Pur.eqlPtrNil rfl) ?_
  refine JO.setv (u' := .bool true) 16 rfl (congrArg Value.bool (rfl)) ?_
  refine JO.nil ?_
  refine J.condT rfl rfl ?_
  refine J.seq rfl ?_
  refine J.region rfl ?_
  refine JO.pur rfl rfl rfl (Pur.assign rfl) ?_
  refine JO.pur rfl rfl rfl (Pur.assign rfl) ?_
  refine JO.nil ?_
  refine J.ret rfl rfl ?_
  exact ⟨rfl, rfl⟩

theorem find_yes {L : List Asn} {p mb : Nat} {v1 v2 : Value} {F : Fl} {rs : List Cr} {f : Asn → List Asn} [hb : BlkIn L p (.cells #[.bool true, v1, v2, .map (some mb)] 62)] [hmp : MpIn intK L mb (entsC rs F.opens) f] (hr : rs.length = F.opens.length) {n : Int} {i : Nat} {r : Cr} (hx : ix F n = some i) (hrg : rs[i]? = some r) :
    CallS Try.prog 39 [.pointer (some ⟨p, 0, none⟩), .int .i64 n].toArray L (fun v M => v = .tuple #[.pointer (some ⟨r.b, 0, none⟩), .int .i64 0] ∧ M = L) := by
  refine CallS.enter Try.func39 rfl rfl rfl rfl rfl ?_
  refine J.seq rfl ?_
  refine J.region rfl ?_
  refine JO.pur rfl rfl rfl (Pur.assign rfl) ?_
  refine JO.pur rfl rfl rfl (Pur.assign rfl) ?_
  refine JO.nil ?_
  refine J.seq rfl ?_
  refine J.seq rfl ?_
  refine J.region rfl ?_
  refine JO.pur rfl rfl rfl (Pur.move rfl) ?_
  refine JO.effR rfl rfl rfl (Eff.call rfl (none_ok)) ?_
  refine JO.setv (u' := .bool false) 8 rfl (congrArg Value.bool (rfl)) ?_
  refine JO.nil ?_
  refine J.condF rfl rfl ?_
  refine J.skip rfl ?_
  refine J.seq rfl ?_
  refine J.region rfl ?_
  refine JO.pur rfl rfl rfl (Pur.move rfl) ?_
  refine JO.pur rfl rfl rfl (Pur.nilCheck rfl) ?_
  refine JO.pur rfl rfl rfl (Pur.fieldAddr rfl) ?_
  refine JO.pur rfl rfl rfl (Pur.load rfl (CellIn.blk rfl)) ?_
  refine JO.pur rfl rfl rfl (Pur.move rfl) ?_
  refine JO.pur rfl rfl rfl (Pur.lookup (K := intK) (k := n) rfl rfl) ?_
  refine JO.setv (u' := .pointer (some ⟨r.b, 0, none⟩)) 14 rfl (by rw [look_yes hr hx hrg]; rfl) ?_
  refine JO.pur rfl rfl rfl (Pur.assign rfl) ?_
  refine JO.nil ?_
  refine J.seq rfl ?_
  refine J.seq rfl ?_
  refine J.region rfl ?_
  refine JO.pur rfl rfl rfl (Pur.move rfl) ?_
  refine JO.pur rfl rfl rfl (Pur.eqlPtrNil rfl) ?_
  refine JO.setv (u' := .bool false) 16 rfl (congrArg Value.bool (rfl)) ?_
  refine JO.nil ?_
  refine J.condF rfl rfl ?_
  refine J.skip rfl ?_
  refine J.seq rfl ?_
  refine J.region rfl ?_
  refine JO.pur rfl rfl rfl (Pur.move rfl) ?_
  refine JO.pur rfl rfl rfl (Pur.assign rfl) ?_
  refine JO.pur rfl rfl rfl (Pur.assign rfl) ?_
  refine JO.nil ?_
  refine J.ret rfl rfl ?_
  exact ⟨rfl, rfl⟩

end Go.Proofs.Ytgbckamaenapeaa

/- The text HFn2. -/
set_option linter.unusedVariables false
set_option linter.unusedSimpArgs false
set_option maxRecDepth 10000
namespace Go.Proofs.Ytgbckamaenapeaa
open Go Go.KK Hf

theorem Place_no {L : List Asn} {p : Nat} {F : Fl} {n : Int} (hx : ix F n = none) :
    CallS Try.prog 29 [.pointer (some ⟨p, 0, none⟩), .int .i64 n].toArray (FA p F :: L) (fun v M => v = .tuple #[.int .i64 (placeF F n).1, .int .i64 (placeF F n).2] ∧ M = FA p F :: L) := by
  refine CallS.ent ?_
  refine CallS.enter Try.func29 rfl rfl rfl rfl rfl ?_
  refine J.seq rfl ?_
  refine FA_open fun ab cb mb rs hr => ?_
  refine J.region rfl ?_
  refine JO.pur rfl rfl rfl (Pur.assign rfl) ?_
  refine JO.pur rfl rfl rfl (Pur.assign rfl) ?_
  refine JO.nil ?_
  refine J.seq rfl ?_
  refine J.region rfl ?_
  refine JO.pur rfl rfl rfl (Pur.move rfl) ?_
  refine JO.pur rfl rfl rfl (Pur.move rfl) ?_
  refine JO.eff rfl rfl rfl (Eff.call rfl (find_no hr hx)) ?_
  rintro _ _ ⟨rfl, rfl⟩
  refine JO.pur rfl rfl rfl (Pur.move rfl) ?_
  refine JO.pur rfl rfl rfl (Pur.extract rfl rfl) ?_
  refine JO.pur rfl rfl rfl (Pur.extract rfl rfl) ?_
  refine JO.pur rfl rfl rfl (Pur.assign rfl) ?_
  refine JO.pur rfl rfl rfl (Pur.assign rfl) ?_
  refine JO.nil ?_
  refine J.seq rfl ?_
  refine J.seq rfl ?_
  refine J.region rfl ?_
  refine JO.pur rfl rfl rfl (Pur.move rfl) ?_
  refine JO.pur rfl rfl rfl (Pur.neqI rfl rfl) ?_
  refine JO.setv (u' := .bool true) 15 rfl (congrArg Value.bool (rfl)) ?_
  refine JO.nil ?_
  refine J.condT rfl rfl ?_
  refine J.seq rfl ?_
  refine J.region rfl ?_
  refine JO.pur rfl rfl rfl (Pur.move rfl) ?_
  refine JO.pur rfl rfl rfl (Pur.assign rfl) ?_
  refine JO.pur rfl rfl rfl (Pur.assign rfl) ?_
  refine JO.nil ?_
  refine J.ret rfl rfl ?_
  have hv : placeF F n = (0, 5) := by unfold placeF; rw [hx]
  refine ⟨_, _, ⟨rfl, rfl⟩, by rw [hv]; rfl, fun h s => ?_⟩
  skip
  exact FA_mk (ab := ab) (cb := cb) (mb := mb) hr (SubC.out h s)

theorem Place_yes {L : List Asn} {p : Nat} {F : Fl} {n : Int} {i : Nat} {k : Nat} (g : Hf.Good F k) (hk : k ≤ 100000) (hx : ix F n = some i) :
    CallS Try.prog 29 [.pointer (some ⟨p, 0, none⟩), .int .i64 n].toArray (FA p F :: L) (fun v M => v = .tuple #[.int .i64 (placeF F n).1, .int .i64 (placeF F n).2] ∧ M = FA p F :: L) := by
  refine CallS.ent ?_
  refine CallS.enter Try.func29 rfl rfl rfl rfl rfl ?_
  refine J.seq rfl ?_
  refine FA_open fun ab cb mb rs hr => ?_
  obtain ⟨hil, hch, hnum⟩ := ix_some hx
  obtain ⟨r, hrg⟩ : ∃ r, rs[i]? = some r := ⟨_, List.getElem?_eq_getElem (by omega)⟩
  have gc := g.gc _ (ch_mem hx)
  have gmk := g.mks _ (ch_mem hx)
  have gb := g.b4
  have gf0 := gc.f0
  have gft := gc.ft
  have gt4 := gc.t4
  have gfa := gc.fa
  have ga4 := gc.at4
  refine J.region rfl ?_
  refine JO.pur rfl rfl rfl (Pur.assign rfl) ?_
  refine JO.pur rfl rfl rfl (Pur.assign rfl) ?_
  refine JO.nil ?_
  refine J.seq rfl ?_
  refine J.region rfl ?_
  refine JO.pur rfl rfl rfl (Pur.move rfl) ?_
  refine JO.pur rfl rfl rfl (Pur.move rfl) ?_
  refine JO.eff rfl rfl rfl (Eff.call rfl (find_yes hr hx hrg)) ?_
  rintro _ _ ⟨rfl, rfl⟩
  refine JO.pur rfl rfl rfl (Pur.move rfl) ?_
  refine JO.pur rfl rfl rfl (Pur.extract rfl rfl) ?_
  refine JO.pur rfl rfl rfl (Pur.extract rfl rfl) ?_
  refine JO.pur rfl rfl rfl (Pur.assign rfl) ?_
  refine JO.pur rfl rfl rfl (Pur.assign rfl) ?_
  refine JO.nil ?_
  refine J.seq rfl ?_
  refine J.seq rfl ?_
  refine J.region rfl ?_
  refine JO.pur rfl rfl rfl (Pur.move rfl) ?_
  refine JO.pur rfl rfl rfl (Pur.neqI rfl rfl) ?_
  refine JO.setv (u' := .bool false) 15 rfl (congrArg Value.bool (rfl)) ?_
  refine JO.nil ?_
  refine J.condF rfl rfl ?_
  refine J.skip rfl ?_
  refine J.seq rfl ?_
  refine J.imp (fun h s => ch_take (rs := rs) (cs := F.opens) (i := i) hrg hch s) ?_
  refine J.region rfl ?_
  refine JO.pur rfl rfl rfl (Pur.move rfl) ?_
  refine JO.pur rfl rfl rfl (Pur.nilCheck rfl) ?_
  refine JO.pur rfl rfl rfl (Pur.fieldAddr rfl) ?_
  refine JO.pur rfl rfl rfl (Pur.load rfl (CellIn.blk rfl)) ?_
  refine JO.pur rfl rfl rfl (Pur.assign rfl) ?_
  refine JO.pur rfl rfl rfl (Pur.assign rfl) ?_
  refine JO.nil ?_
  refine J.ret rfl rfl ?_
  have hv : placeF F n = ((ch F i).at', 0) := by unfold placeF; rw [hx]
  refine ⟨_, _, ⟨rfl, rfl⟩, by rw [hv]; rfl, fun h s => ?_⟩
  have s2 := FA_shut (L := L) (p := p) (bs := F.bytes) (nx := F.next) (F := F) (c' := ch F i) (ab := ab) (cb := cb) (mb := mb) (ap := r.ap) (cp := r.cp) (am := r.am) (cm := r.cm) hr hrg hch rfl (SubC.out h s)
  rw [upd_same hx] at s2
  exact s2

theorem Place_ok {L : List Asn} {p : Nat} {F : Fl} {n : Int} {k : Nat} (g : Hf.Good F k) (hk : k ≤ 100000) : CallS Try.prog 29 [.pointer (some ⟨p, 0, none⟩), .int .i64 n].toArray (FA p F :: L) (fun v M => v = .tuple #[.int .i64 (placeF F n).1, .int .i64 (placeF F n).2] ∧ M = FA p F :: L) := by
  cases hx : ix F n with
  | none => exact Place_no  hx
  | some i => exact Place_yes  g hk hx
theorem Left_no {L : List Asn} {p : Nat} {F : Fl} {n : Int} (hx : ix F n = none) :
    CallS Try.prog 34 [.pointer (some ⟨p, 0, none⟩), .int .i64 n].toArray (FA p F :: L) (fun v M => v = .tuple #[.int .i64 (leftF F n).1, .int .i64 (leftF F n).2] ∧ M = FA p F :: L) := by
  refine CallS.ent ?_
  refine CallS.enter Try.func34 rfl rfl rfl rfl rfl ?_
  refine J.seq rfl ?_
  refine FA_open fun ab cb mb rs hr => ?_
  refine J.region rfl ?_
  refine JO.pur rfl rfl rfl (Pur.assign rfl) ?_
  refine JO.pur rfl rfl rfl (Pur.assign rfl) ?_
  refine JO.nil ?_
  refine J.seq rfl ?_
  refine J.region rfl ?_
  refine JO.pur rfl rfl rfl (Pur.move rfl) ?_
  refine JO.pur rfl rfl rfl (Pur.move rfl) ?_
  refine JO.eff rfl rfl rfl (Eff.call rfl (find_no hr hx)) ?_
  rintro _ _ ⟨rfl, rfl⟩
  refine JO.pur rfl rfl rfl (Pur.move rfl) ?_
  refine JO.pur rfl rfl rfl (Pur.extract rfl rfl) ?_
  refine JO.pur rfl rfl rfl (Pur.extract rfl rfl) ?_
  refine JO.pur rfl rfl rfl (Pur.assign rfl) ?_
  refine JO.pur rfl rfl rfl (Pur.assign rfl) ?_
  refine JO.nil ?_
  refine J.seq rfl ?_
  refine J.seq rfl ?_
  refine J.region rfl ?_
  refine JO.pur rfl rfl rfl (Pur.move rfl) ?_
  refine JO.pur rfl rfl rfl (Pur.neqI rfl rfl) ?_
  refine JO.setv (u' := .bool true) 15 rfl (congrArg Value.bool (rfl)) ?_
  refine JO.nil ?_
  refine J.condT rfl rfl ?_
  refine J.seq rfl ?_
  refine J.region rfl ?_
  refine JO.pur rfl rfl rfl (Pur.move rfl) ?_
  refine JO.pur rfl rfl rfl (Pur.assign rfl) ?_
  refine JO.pur rfl rfl rfl (Pur.assign rfl) ?_
  refine JO.nil ?_
  refine J.ret rfl rfl ?_
  have hv : leftF F n = (0, 5) := by unfold leftF; rw [hx]
  refine ⟨_, _, ⟨rfl, rfl⟩, by rw [hv]; rfl, fun h s => ?_⟩
  skip
  exact FA_mk (ab := ab) (cb := cb) (mb := mb) hr (SubC.out h s)

theorem Left_yes {L : List Asn} {p : Nat} {F : Fl} {n : Int} {i : Nat} {k : Nat} (g : Hf.Good F k) (hk : k ≤ 100000) (hx : ix F n = some i) :
    CallS Try.prog 34 [.pointer (some ⟨p, 0, none⟩), .int .i64 n].toArray (FA p F :: L) (fun v M => v = .tuple #[.int .i64 (leftF F n).1, .int .i64 (leftF F n).2] ∧ M = FA p F :: L) := by
  refine CallS.ent ?_
  refine CallS.enter Try.func34 rfl rfl rfl rfl rfl ?_
  refine J.seq rfl ?_
  refine FA_open fun ab cb mb rs hr => ?_
  obtain ⟨hil, hch, hnum⟩ := ix_some hx
  obtain ⟨r, hrg⟩ : ∃ r, rs[i]? = some r := ⟨_, List.getElem?_eq_getElem (by omega)⟩
  have gc := g.gc _ (ch_mem hx)
  have gmk := g.mks _ (ch_mem hx)
  have gb := g.b4
  have gf0 := gc.f0
  have gft := gc.ft
  have gt4 := gc.t4
  have gfa := gc.fa
  have ga4 := gc.at4
  refine J.region rfl ?_
  refine JO.pur rfl rfl rfl (Pur.assign rfl) ?_
  refine JO.pur rfl rfl rfl (Pur.assign rfl) ?_
  refine JO.nil ?_
  refine J.seq rfl ?_
  refine J.region rfl ?_
  refine JO.pur rfl rfl rfl (Pur.move rfl) ?_
  refine JO.pur rfl rfl rfl (Pur.move rfl) ?_
  refine JO.eff rfl rfl rfl (Eff.call rfl (find_yes hr hx hrg)) ?_
  rintro _ _ ⟨rfl, rfl⟩
  refine JO.pur rfl rfl rfl (Pur.move rfl) ?_
  refine JO.pur rfl rfl rfl (Pur.extract rfl rfl) ?_
  refine JO.pur rfl rfl rfl (Pur.extract rfl rfl) ?_
  refine JO.pur rfl rfl rfl (Pur.assign rfl) ?_
  refine JO.pur rfl rfl rfl (Pur.assign rfl) ?_
  refine JO.nil ?_
  refine J.seq rfl ?_
  refine J.seq rfl ?_
  refine J.region rfl ?_
  refine JO.pur rfl rfl rfl (Pur.move rfl) ?_
  refine JO.pur rfl rfl rfl (Pur.neqI rfl rfl) ?_
  refine JO.setv (u' := .bool false) 15 rfl (congrArg Value.bool (rfl)) ?_
  refine JO.nil ?_
  refine J.condF rfl rfl ?_
  refine J.skip rfl ?_
  refine J.seq rfl ?_
  refine J.imp (fun h s => ch_take (rs := rs) (cs := F.opens) (i := i) hrg hch s) ?_
  refine J.quiet rfl Try.mixed (by kernel_rfl) ?_
  refine JQ.pur rfl rfl rfl (Pur.move rfl) ?_
  refine JQ.pur rfl rfl rfl (Pur.nilCheck rfl) ?_
  refine JQ.pur rfl rfl rfl (Pur.fieldAddr rfl) ?_
  refine JQ.pur rfl rfl rfl (Pur.load rfl (CellIn.blk rfl)) ?_
  refine JQ.pur rfl rfl rfl (Pur.move rfl) ?_
  refine JQ.pur rfl rfl rfl (Pur.nilCheck rfl) ?_
  refine JQ.pur rfl rfl rfl (Pur.fieldAddr rfl) ?_
  refine JQ.pur rfl rfl rfl (Pur.load rfl (CellIn.blk rfl)) ?_
  refine JQ.pur rfl rfl rfl (Pur.sub rfl rfl (wr64 (by omega))) ?_
  refine JQ.pur rfl rfl rfl (Pur.assign rfl) ?_
  refine JQ.pur rfl rfl rfl (Pur.assign rfl) ?_
  refine JQ.nil ?_
  refine J.ret rfl rfl ?_
  have hv : leftF F n = ((ch F i).to - (ch F i).at', 0) := by unfold leftF; rw [hx]
  refine ⟨_, _, ⟨rfl, rfl⟩, by rw [hv]; rfl, fun h s => ?_⟩
  have s2 := FA_shut (L := L) (p := p) (bs := F.bytes) (nx := F.next) (F := F) (c' := ch F i) (ab := ab) (cb := cb) (mb := mb) (ap := r.ap) (cp := r.cp) (am := r.am) (cm := r.cm) hr hrg hch rfl (SubC.out h s)
  rw [upd_same hx] at s2
  exact s2

theorem Left_ok {L : List Asn} {p : Nat} {F : Fl} {n : Int} {k : Nat} (g : Hf.Good F k) (hk : k ≤ 100000) : CallS Try.prog 34 [.pointer (some ⟨p, 0, none⟩), .int .i64 n].toArray (FA p F :: L) (fun v M => v = .tuple #[.int .i64 (leftF F n).1, .int .i64 (leftF F n).2] ∧ M = FA p F :: L) := by
  cases hx : ix F n with
  | none => exact Left_no  hx
  | some i => exact Left_yes  g hk hx
theorem Mark_no {L : List Asn} {p : Nat} {F : Fl} {n : Int} (hx : ix F n = none) :
    CallS Try.prog 26 [.pointer (some ⟨p, 0, none⟩), .int .i64 n].toArray (FA p F :: L) (fun v M => v = .int .i64 (markF F n).2 ∧ M = FA p (markF F n).1 :: L) := by
  refine CallS.ent ?_
  refine CallS.enter Try.func26 rfl rfl rfl rfl rfl ?_
  refine J.seq rfl ?_
  refine FA_open fun ab cb mb rs hr => ?_
  refine J.region rfl ?_
  refine JO.pur rfl rfl rfl (Pur.assign rfl) ?_
  refine JO.nil ?_
  refine J.seq rfl ?_
  refine J.region rfl ?_
  refine JO.pur rfl rfl rfl (Pur.move rfl) ?_
  refine JO.pur rfl rfl rfl (Pur.move rfl) ?_
  refine JO.eff rfl rfl rfl (Eff.call rfl (find_no hr hx)) ?_
  rintro _ _ ⟨rfl, rfl⟩
  refine JO.pur rfl rfl rfl (Pur.move rfl) ?_
  refine JO.pur rfl rfl rfl (Pur.extract rfl rfl) ?_
  refine JO.pur rfl rfl rfl (Pur.extract rfl rfl) ?_
  refine JO.pur rfl rfl rfl (Pur.assign rfl) ?_
  refine JO.pur rfl rfl rfl (Pur.assign rfl) ?_
  refine JO.nil ?_
  refine J.seq rfl ?_
  refine J.seq rfl ?_
  refine J.region rfl ?_
  refine JO.pur rfl rfl rfl (Pur.move rfl) ?_
  refine JO.pur rfl rfl rfl (Pur.neqI rfl rfl) ?_
  refine JO.setv (u' := .bool true) 14 rfl (congrArg Value.bool (rfl)) ?_
  refine JO.nil ?_
  refine J.condT rfl rfl ?_
  refine J.seq rfl ?_
  refine J.region rfl ?_
  refine JO.pur rfl rfl rfl (Pur.move rfl) ?_
  refine JO.pur rfl rfl rfl (Pur.assign rfl) ?_
  refine JO.nil ?_
  refine J.ret rfl rfl ?_
  have hv : markF F n = (F, 5) := by unfold markF; rw [hx]
  refine ⟨_, _, ⟨rfl, rfl⟩, by rw [hv]; rfl, fun h s => ?_⟩
  rw [hv]
  exact FA_mk (ab := ab) (cb := cb) (mb := mb) hr (SubC.out h s)

theorem Mark_yes {L : List Asn} {p : Nat} {F : Fl} {n : Int} {i : Nat} {k : Nat} (g : Hf.Good F k) (hk : k ≤ 100000) (hx : ix F n = some i) :
    CallS Try.prog 26 [.pointer (some ⟨p, 0, none⟩), .int .i64 n].toArray (FA p F :: L) (fun v M => v = .int .i64 (markF F n).2 ∧ M = FA p (markF F n).1 :: L) := by
  refine CallS.ent ?_
  refine CallS.enter Try.func26 rfl rfl rfl rfl rfl ?_
  refine J.seq rfl ?_
  refine FA_open fun ab cb mb rs hr => ?_
  obtain ⟨hil, hch, hnum⟩ := ix_some hx
  obtain ⟨r, hrg⟩ : ∃ r, rs[i]? = some r := ⟨_, List.getElem?_eq_getElem (by omega)⟩
  have gc := g.gc _ (ch_mem hx)
  have gmk := g.mks _ (ch_mem hx)
  have gb := g.b4
  have gf0 := gc.f0
  have gft := gc.ft
  have gt4 := gc.t4
  have gfa := gc.fa
  have ga4 := gc.at4
  refine J.region rfl ?_
  refine JO.pur rfl rfl rfl (Pur.assign rfl) ?_
  refine JO.nil ?_
  refine J.seq rfl ?_
  refine J.region rfl ?_
  refine JO.pur rfl rfl rfl (Pur.move rfl) ?_
  refine JO.pur rfl rfl rfl (Pur.move rfl) ?_
  refine JO.eff rfl rfl rfl (Eff.call rfl (find_yes hr hx hrg)) ?_
  rintro _ _ ⟨rfl, rfl⟩
  refine JO.pur rfl rfl rfl (Pur.move rfl) ?_
  refine JO.pur rfl rfl rfl (Pur.extract rfl rfl) ?_
  refine JO.pur rfl rfl rfl (Pur.extract rfl rfl) ?_
  refine JO.pur rfl rfl rfl (Pur.assign rfl) ?_
  refine JO.pur rfl rfl rfl (Pur.assign rfl) ?_
  refine JO.nil ?_
  refine J.seq rfl ?_
  refine J.seq rfl ?_
  refine J.region rfl ?_
  refine JO.pur rfl rfl rfl (Pur.move rfl) ?_
  refine JO.pur rfl rfl rfl (Pur.neqI rfl rfl) ?_
  refine JO.setv (u' := .bool false) 14 rfl (congrArg Value.bool (rfl)) ?_
  refine JO.nil ?_
  refine J.condF rfl rfl ?_
  refine J.skip rfl ?_
  refine J.seq rfl ?_
  refine J.imp (fun h s => ch_take (rs := rs) (cs := F.opens) (i := i) hrg hch s) ?_
  refine J.pullC (A := sl intE r.am r.cm (ch F i).marks) inferInstance ?_
  refine J.mask1 (n := 14) [13] rfl Try.mixed rfl (by kernel_rfl) ?_
  refine JM.take 0 (fun _ h => h.tail) rfl (by kernel_rfl) rfl rfl rfl (m' := 1) rfl (Pur.move rfl) ?_
  refine JM.take 1 (fun _ h => h.tail) rfl (by kernel_rfl) rfl rfl rfl (m' := 3) rfl (Pur.move rfl) ?_
  refine JM.take 2 (fun _ h => h.tail) rfl (by kernel_rfl) rfl rfl rfl (m' := 7) rfl (Pur.nilCheck rfl) ?_
  refine JM.take 3 (fun _ h => h.tail) rfl (by kernel_rfl) rfl rfl rfl (m' := 15) rfl (Pur.fieldAddr rfl) ?_
  refine JM.take 4 (fun _ h => h.tail) rfl (by kernel_rfl) rfl rfl rfl (m' := 31) rfl (Pur.load rfl (CellIn.blk rfl)) ?_
  refine JM.take 5 (fun _ h => h.tail) rfl (by kernel_rfl) rfl rfl rfl (m' := 63) rfl (Pur.move rfl) ?_
  refine JM.take 6 (fun _ h => h.tail) rfl (by kernel_rfl) rfl rfl rfl (m' := 127) rfl (Pur.nilCheck rfl) ?_
  refine JM.take 7 (fun _ h => h.tail) rfl (by kernel_rfl) rfl rfl rfl (m' := 255) rfl (Pur.fieldAddr rfl) ?_
  refine JM.take 8 (fun _ h => h.tail) rfl (by kernel_rfl) rfl rfl rfl (m' := 511) rfl (Pur.load rfl (CellIn.blk rfl)) ?_
  refine JM.one (i := 9) (by kernel_rfl) ?_
  refine JMi.eff rfl rfl rfl rfl (m' := 1023) rfl (Eff.buildSlice intE [(ch F i).at'] rfl rfl rfl rfl rfl rfl rfl) ?_
  rintro _ _ ⟨b25, rfl, -, rfl⟩
  refine ⟨.inr (fun _ h => h.tail.tail), ?_⟩
  refine JM.one (i := 10) (by kernel_rfl) ?_
  refine JMi.eff rfl rfl rfl rfl (m' := 2047) rfl (Eff.append rfl rfl rfl rfl (by first | rfl | omega | (simp; done) | (simp; omega)) (by first | rfl | omega | (simp; done) | (simp; omega)) (by decide) (by first | omega | (simp only [List.length_cons, List.length_nil]; omega) | (simp; omega)) (by first | omega | (simp only [List.length_cons, List.length_nil]; omega) | (simp; omega)) (fun h => by cases h)) ?_
  rintro _ _ ⟨a26, c26, rfl, rfl⟩
  refine ⟨.inr (fun _ h => h.tail.tail), ?_⟩
  refine JM.take 11 (fun _ h => h.tail.tail) rfl (by kernel_rfl) rfl rfl rfl (m' := 4095) rfl (Pur.nilCheck rfl) ?_
  refine JM.take 12 (fun _ h => h.tail.tail) rfl (by kernel_rfl) rfl rfl rfl (m' := 8191) rfl (Pur.fieldAddr rfl) ?_
  refine JM.one (i := 13) (by kernel_rfl) ?_
  refine JMi.effN rfl rfl rfl (m' := 16383) rfl (Eff.storeB rfl rfl rfl (.tail (.tail (.tail (.tail (.tail (.tail .head))))))) ?_
  rintro _ _ ⟨rfl, rfl⟩
  refine ⟨.inl (by simp), ?_⟩
  refine JM.done rfl ?_
  refine J.seq rfl ?_
  refine J.region rfl ?_
  refine JO.pur rfl rfl rfl (Pur.assign rfl) ?_
  refine JO.nil ?_
  refine J.ret rfl rfl ?_
  have hv : markF F n = (upd F i { ch F i with marks := (ch F i).marks ++ [(ch F i).at'] }, 0) := by unfold markF; rw [hx]
  refine ⟨_, _, ⟨rfl, rfl⟩, by rw [hv]; rfl, fun h s => ?_⟩
  rw [hv]
  refine FA_shut (L := L) (p := p) (bs := F.bytes) (nx := F.next) (F := F) (c' := { ch F i with marks := (ch F i).marks ++ [(ch F i).at'] }) (ab := ab) (cb := cb) (mb := mb) (ap := r.ap) (cp := r.cp) (am := a26) (cm := c26) hr hrg hch rfl ?_
  dsimp only
  simp only [List.length_append]
  exact SubC.out h s

theorem Mark_ok {L : List Asn} {p : Nat} {F : Fl} {n : Int} {k : Nat} (g : Hf.Good F k) (hk : k ≤ 100000) : CallS Try.prog 26 [.pointer (some ⟨p, 0, none⟩), .int .i64 n].toArray (FA p F :: L) (fun v M => v = .int .i64 (markF F n).2 ∧ M = FA p (markF F n).1 :: L) := by
  cases hx : ix F n with
  | none => exact Mark_no  hx
  | some i => exact Mark_yes  g hk hx
end Go.Proofs.Ytgbckamaenapeaa

/- The text HFn3. -/
set_option linter.unusedVariables false
set_option linter.unusedSimpArgs false
set_option maxRecDepth 10000
namespace Go.Proofs.Ytgbckamaenapeaa
open Go Go.KK Hf

theorem Write_no {L : List Asn} {p : Nat} {F : Fl} {n : Int} {b : Option Addr} {m cq : Nat} {ys : List UInt8} [SlIn byE L b ys] (hm : m = ys.length) (hys : ys.length ≤ 9223372036854775807) (hnil : b = none → m = 0 ∧ cq = 0) (hx : ix F n = none) :
    CallS Try.prog 19 [.pointer (some ⟨p, 0, none⟩), .int .i64 n, .slice b m cq].toArray (FA p F :: L) (fun v M => v = .int .i64 (writeF F n ys).2 ∧ M = FA p (writeF F n ys).1 :: L) := by
  subst hm
  refine CallS.ent ?_
  refine CallS.enter Try.func19 rfl rfl rfl rfl rfl ?_
  refine J.seq rfl ?_
  refine FA_open fun ab cb mb rs hr => ?_
  refine J.region rfl ?_
  refine JO.pur rfl rfl rfl (Pur.assign rfl) ?_
  refine JO.nil ?_
  refine J.seq rfl ?_
  refine J.region rfl ?_
  refine JO.pur rfl rfl rfl (Pur.move rfl) ?_
  refine JO.pur rfl rfl rfl (Pur.move rfl) ?_
  refine JO.eff rfl rfl rfl (Eff.call rfl (find_no hr hx)) ?_
  rintro _ _ ⟨rfl, rfl⟩
  refine JO.pur rfl rfl rfl (Pur.move rfl) ?_
  refine JO.pur rfl rfl rfl (Pur.extract rfl rfl) ?_
  refine JO.pur rfl rfl rfl (Pur.extract rfl rfl) ?_
  refine JO.pur rfl rfl rfl (Pur.assign rfl) ?_
  refine JO.pur rfl rfl rfl (Pur.assign rfl) ?_
  refine JO.nil ?_
  refine J.seq rfl ?_
  refine J.block rfl ?_
  refine J.seq rfl ?_
  refine J.region rfl ?_
  refine JO.pur rfl rfl rfl (Pur.move rfl) ?_
  refine JO.pur rfl rfl rfl (Pur.neqI rfl rfl) ?_
  refine JO.setv (u' := .bool true) 17 rfl (congrArg Value.bool (rfl)) ?_
  refine JO.pur rfl rfl rfl (Pur.assign rfl) ?_
  refine JO.nil ?_
  refine J.condT rfl rfl ?_
  refine J.seq rfl ?_
  refine J.region rfl ?_
  refine JO.pur rfl rfl rfl (Pur.move rfl) ?_
  refine JO.pur rfl rfl rfl (Pur.assign rfl) ?_
  refine JO.nil ?_
  refine J.ret rfl rfl ?_
  have hv : writeF F n ys = (F, 5) := by unfold writeF; rw [hx]
  refine ⟨_, _, ⟨rfl, rfl⟩, by rw [hv]; rfl, fun h s => ?_⟩
  rw [hv]
  exact FA_mk (ab := ab) (cb := cb) (mb := mb) hr (SubC.out h s)

theorem Write_yes {L : List Asn} {p : Nat} {F : Fl} {n : Int} {b : Option Addr} {m cq : Nat} {ys : List UInt8} [SlIn byE L b ys] (hm : m = ys.length) (hys : ys.length ≤ 9223372036854775807) (hnil : b = none → m = 0 ∧ cq = 0) {i : Nat} {k : Nat} (g : Hf.Good F k) (hk : k ≤ 100000) (hx : ix F n = some i) :
    CallS Try.prog 19 [.pointer (some ⟨p, 0, none⟩), .int .i64 n, .slice b m cq].toArray (FA p F :: L) (fun v M => v = .int .i64 (writeF F n ys).2 ∧ M = FA p (writeF F n ys).1 :: L) := by
  subst hm
  refine CallS.ent ?_
  refine CallS.enter Try.func19 rfl rfl rfl rfl rfl ?_
  refine J.seq rfl ?_
  refine FA_open fun ab cb mb rs hr => ?_
  obtain ⟨hil, hch, hnum⟩ := ix_some hx
  obtain ⟨r, hrg⟩ : ∃ r, rs[i]? = some r := ⟨_, List.getElem?_eq_getElem (by omega)⟩
  have gc := g.gc _ (ch_mem hx)
  have gmk := g.mks _ (ch_mem hx)
  have gb := g.b4
  have gf0 := gc.f0
  have gft := gc.ft
  have gt4 := gc.t4
  have gfa := gc.fa
  have ga4 := gc.at4
  refine J.region rfl ?_
  refine JO.pur rfl rfl rfl (Pur.assign rfl) ?_
  refine JO.nil ?_
  refine J.seq rfl ?_
  refine J.region rfl ?_
  refine JO.pur rfl rfl rfl (Pur.move rfl) ?_
  refine JO.pur rfl rfl rfl (Pur.move rfl) ?_
  refine JO.eff rfl rfl rfl (Eff.call rfl (find_yes hr hx hrg)) ?_
  rintro _ _ ⟨rfl, rfl⟩
  refine JO.pur rfl rfl rfl (Pur.move rfl) ?_
  refine JO.pur rfl rfl rfl (Pur.extract rfl rfl) ?_
  refine JO.pur rfl rfl rfl (Pur.extract rfl rfl) ?_
  refine JO.pur rfl rfl rfl (Pur.assign rfl) ?_
  refine JO.pur rfl rfl rfl (Pur.assign rfl) ?_
  refine JO.nil ?_
  refine J.seq rfl ?_
  refine J.block rfl ?_
  refine J.seq rfl ?_
  refine J.region rfl ?_
  refine JO.pur rfl rfl rfl (Pur.move rfl) ?_
  refine JO.pur rfl rfl rfl (Pur.neqI rfl rfl) ?_
  refine JO.setv (u' := .bool false) 17 rfl (congrArg Value.bool (rfl)) ?_
  refine JO.pur rfl rfl rfl (Pur.assign rfl) ?_
  refine JO.nil ?_
  refine J.condF rfl rfl ?_
  refine J.seq rfl ?_
  refine J.imp (fun h s => ch_take (rs := rs) (cs := F.opens) (i := i) hrg hch s) ?_
  refine J.quiet rfl Try.mixed (by kernel_rfl) ?_
  refine JQ.pur rfl rfl rfl (Pur.move rfl) ?_
  refine JQ.pur rfl rfl rfl (Pur.nilCheck rfl) ?_
  refine JQ.pur rfl rfl rfl (Pur.fieldAddr rfl) ?_
  refine JQ.pur rfl rfl rfl (Pur.load rfl (CellIn.blk rfl)) ?_
  refine JQ.pur rfl rfl rfl (Pur.not rfl) ?_
  refine JQ.pur rfl rfl rfl (Pur.move rfl) ?_
  refine JQ.splitB 25 rfl (fun h25 => ?_) (fun h25 => ?_)
  · try simp only [decide_eq_true_eq, decide_eq_false_iff_not, Bool.not_eq_true', Bool.not_eq_false', Bool.and_eq_true, Bool.or_eq_true, Bool.and_eq_false_iff, Bool.or_eq_false_iff, Option.isNone_some, Option.isSome_some, Option.isNone_none, Option.isSome_none, Int.not_lt, Int.not_le, beq_iff_eq, beq_eq_false_iff_ne, bne_iff_ne, ne_eq, Bool.not_not, Decidable.not_not] at h25
    have hw : (ch F i).wr = false := by simpa using h25
    refine JQ.no rfl rfl rfl ?_
    refine JQ.no rfl rfl rfl ?_
    refine JQ.no rfl rfl rfl ?_
    refine JQ.no rfl rfl rfl ?_
    refine JQ.no rfl rfl rfl ?_
    refine JQ.no rfl rfl rfl ?_
    refine JQ.no rfl rfl rfl ?_
    refine JQ.no rfl rfl rfl ?_
    refine JQ.no rfl rfl rfl ?_
    refine JQ.no rfl rfl rfl ?_
    refine JQ.no rfl rfl rfl ?_
    refine JQ.no rfl rfl rfl ?_
    refine JQ.pur rfl rfl rfl (Pur.pickT rfl rfl) ?_
    refine JQ.pur rfl rfl rfl (Pur.assign rfl) ?_
    refine JQ.nil ?_
    refine J.condT rfl rfl ?_
    refine J.seq rfl ?_
    refine J.region rfl ?_
    refine JO.pur rfl rfl rfl (Pur.assign rfl) ?_
    refine JO.nil ?_
    refine J.ret rfl rfl ?_
    have hv : writeF F n ys = (F, 230) := by unfold writeF; rw [hx]; dsimp only; rw [if_pos (.inl hw)]
    refine ⟨_, _, ⟨rfl, rfl⟩, by rw [hv]; rfl, fun h s => ?_⟩
    rw [hv]
    have s2 := FA_shut (L := L) (p := p) (bs := F.bytes) (nx := F.next) (F := F) (c' := ch F i) (ab := ab) (cb := cb) (mb := mb) (ap := r.ap) (cp := r.cp) (am := r.am) (cm := r.cm) hr hrg hch rfl (SubC.out h s)
    rw [upd_same hx] at s2
    exact s2
  · try simp only [decide_eq_true_eq, decide_eq_false_iff_not, Bool.not_eq_true', Bool.not_eq_false', Bool.and_eq_true, Bool.or_eq_true, Bool.and_eq_false_iff, Bool.or_eq_false_iff, Option.isNone_some, Option.isSome_some, Option.isNone_none, Option.isSome_none, Int.not_lt, Int.not_le, beq_iff_eq, beq_eq_false_iff_ne, bne_iff_ne, ne_eq, Bool.not_not, Decidable.not_not] at h25
    have hw : (ch F i).wr = true := by simpa using h25
    have hw1 := gc.w1 hw
    refine JQ.pur rfl rfl rfl (Pur.move rfl) ?_
    refine JQ.pur rfl rfl rfl (Pur.len rfl) ?_
    refine JQ.pur rfl rfl rfl (Pur.move rfl) ?_
    refine JQ.pur rfl rfl rfl (Pur.nilCheck rfl) ?_
    refine JQ.pur rfl rfl rfl (Pur.fieldAddr rfl) ?_
    refine JQ.pur rfl rfl rfl (Pur.load rfl (CellIn.blk rfl)) ?_
    refine JQ.pur rfl rfl rfl (Pur.move rfl) ?_
    refine JQ.pur rfl rfl rfl (Pur.nilCheck rfl) ?_
    refine JQ.pur rfl rfl rfl (Pur.fieldAddr rfl) ?_
    refine JQ.pur rfl rfl rfl (Pur.load rfl (CellIn.blk rfl)) ?_
    refine JQ.pur rfl rfl rfl (Pur.sub rfl rfl (wr64 (by omega))) ?_
    refine JQ.pur rfl rfl rfl (Pur.gtr rfl rfl) ?_
    refine JQ.pur rfl rfl rfl (Pur.pickF rfl rfl) ?_
    refine JQ.pur rfl rfl rfl (Pur.assign rfl) ?_
    refine JQ.nil ?_
    refine J.splitB 19 rfl (fun h19 => ?_) (fun h19 => ?_)
    · try simp only [decide_eq_true_eq, decide_eq_false_iff_not, Bool.not_eq_true', Bool.not_eq_false', Bool.and_eq_true, Bool.or_eq_true, Bool.and_eq_false_iff, Bool.or_eq_false_iff, Option.isNone_some, Option.isSome_some, Option.isNone_none, Option.isSome_none, Int.not_lt, Int.not_le, beq_iff_eq, beq_eq_false_iff_ne, bne_iff_ne, ne_eq, Bool.not_not, Decidable.not_not] at h19
      refine J.condT rfl rfl ?_
      refine J.seq rfl ?_
      refine J.region rfl ?_
      refine JO.pur rfl rfl rfl (Pur.assign rfl) ?_
      refine JO.nil ?_
      refine J.ret rfl rfl ?_
      have hv : writeF F n ys = (F, 230) := by unfold writeF; rw [hx]; dsimp only; rw [if_pos (.inr (by omega))]
      refine ⟨_, _, ⟨rfl, rfl⟩, by rw [hv]; rfl, fun h s => ?_⟩
      rw [hv]
      have s2 := FA_shut (L := L) (p := p) (bs := F.bytes) (nx := F.next) (F := F) (c' := ch F i) (ab := ab) (cb := cb) (mb := mb) (ap := r.ap) (cp := r.cp) (am := r.am) (cm := r.cm) hr hrg hch rfl (SubC.out h s)
      rw [upd_same hx] at s2
      exact s2
    · try simp only [decide_eq_true_eq, decide_eq_false_iff_not, Bool.not_eq_true', Bool.not_eq_false', Bool.and_eq_true, Bool.or_eq_true, Bool.and_eq_false_iff, Bool.or_eq_false_iff, Option.isNone_some, Option.isSome_some, Option.isNone_none, Option.isSome_none, Int.not_lt, Int.not_le, beq_iff_eq, beq_eq_false_iff_ne, bne_iff_ne, ne_eq, Bool.not_not, Decidable.not_not] at h19
      refine J.condF rfl rfl ?_
      refine J.skip rfl ?_
      refine J.inBlock ?_
      refine J.seq rfl ?_
      refine J.region rfl ?_
      refine JO.pur rfl rfl rfl (Pur.move rfl) ?_
      refine JO.pur rfl rfl rfl (Pur.move rfl) ?_
      refine JO.pur rfl rfl rfl (Pur.nilCheck rfl) ?_
      refine JO.pur rfl rfl rfl (Pur.fieldAddr rfl) ?_
      refine JO.pur rfl rfl rfl (Pur.load rfl (CellIn.blk rfl)) ?_
      refine JO.pur rfl rfl rfl (Pur.move rfl) ?_
      refine JO.eff rfl rfl rfl (Eff.append rfl rfl rfl rfl (by first | rfl | omega | (simp; done) | (simp; omega)) (by first | rfl | omega | (simp; done) | (simp; omega)) (by decide) (by omega) (by omega) (fun e => hnil e)) ?_
      rintro _ _ ⟨a45, c45, rfl, rfl⟩
      refine JO.pur rfl rfl rfl (Pur.nilCheck rfl) ?_
      refine JO.pur rfl rfl rfl (Pur.fieldAddr rfl) ?_
      refine JO.effN rfl rfl (Eff.storeB rfl rfl rfl (.tail (.tail (.tail (.tail .head))))) ?_
      rintro _ _ ⟨rfl, rfl⟩
      refine JO.nil ?_
      refine J.seq rfl ?_
      refine J.region rfl ?_
      refine JO.pur rfl rfl rfl (Pur.move rfl) ?_
      refine JO.pur rfl rfl rfl (Pur.nilCheck rfl) ?_
      refine JO.pur rfl rfl rfl (Pur.fieldAddr rfl) ?_
      refine JO.pur rfl rfl rfl (Pur.load rfl (CellIn.blk rfl)) ?_
      refine JO.pur rfl rfl rfl (Pur.move rfl) ?_
      refine JO.pur rfl rfl rfl (Pur.len rfl) ?_
      refine JO.pur rfl rfl rfl (Pur.add rfl rfl (wr64 (by omega))) ?_
      refine JO.pur rfl rfl rfl (Pur.nilCheck rfl) ?_
      refine JO.pur rfl rfl rfl (Pur.fieldAddr rfl) ?_
      refine JO.effN rfl rfl (Eff.storeB rfl rfl rfl (.tail (.tail .head))) ?_
      rintro _ _ ⟨rfl, rfl⟩
      refine JO.nil ?_
      refine J.seq rfl ?_
      refine J.region rfl ?_
      refine JO.pur rfl rfl rfl (Pur.assign rfl) ?_
      refine JO.nil ?_
      refine J.ret rfl rfl ?_
      have hv : writeF F n ys = (upd F i { ch F i with pend := (ch F i).pend ++ ys, at' := (ch F i).at' + ys.length }, 0) := by unfold writeF; rw [hx]; dsimp only; rw [if_neg (by rintro (h | h); rw [hw] at h; cases h; omega)]
      refine ⟨_, _, ⟨rfl, rfl⟩, by rw [hv]; rfl, fun h s => ?_⟩
      rw [hv]
      refine FA_shut (L := L) (p := p) (bs := F.bytes) (nx := F.next) (F := F) (c' := { ch F i with pend := (ch F i).pend ++ ys, at' := (ch F i).at' + ys.length }) (ab := ab) (cb := cb) (mb := mb) (ap := a45) (cp := c45) (am := r.am) (cm := r.cm) hr hrg hch rfl ?_
      dsimp only
      simp only [List.length_append]
      exact SubC.out h s

theorem Write_ok {L : List Asn} {p : Nat} {F : Fl} {n : Int} {b : Option Addr} {m cq : Nat} {ys : List UInt8} [SlIn byE L b ys] (hm : m = ys.length) (hys : ys.length ≤ 9223372036854775807) (hnil : b = none → m = 0 ∧ cq = 0) {k : Nat} (g : Hf.Good F k) (hk : k ≤ 100000) : CallS Try.prog 19 [.pointer (some ⟨p, 0, none⟩), .int .i64 n, .slice b m cq].toArray (FA p F :: L) (fun v M => v = .int .i64 (writeF F n ys).2 ∧ M = FA p (writeF F n ys).1 :: L) := by
  cases hx : ix F n with
  | none => exact Write_no hm hys hnil hx
  | some i => exact Write_yes hm hys hnil g hk hx
end Go.Proofs.Ytgbckamaenapeaa
