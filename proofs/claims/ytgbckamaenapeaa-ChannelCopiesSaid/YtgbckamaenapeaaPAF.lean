/-
  A part of the proof of the claim that this folder bears.
-/
import Derived.Test.YtgbckamaenapeaaPAB
import Derived.Test.YtgbckamaenapeaaPAE
import Derived.Test.YtgbckamaenapeaaKD
/- The text HKeys. -/
/-! The numbers of a file's open channels: the keys of a map, collected in any order, and sorted. -/
set_option linter.unusedVariables false
set_option linter.unusedSimpArgs false
set_option maxRecDepth 10000
namespace Go.Proofs.Ytgbckamaenapeaa
open Go Go.KK Hf
def seenN (i : Nat) (w : World) : Nat := match w.heap[i]? with
  | some (.mapIter _ _ seen _) => seen.size
  | _ => 0
theorem seen_it {w : World} {mb i : Nat} {m : List (Int × Value)} {S : List Nat} {h : Hp} (hl : Hp.le h (hp w)) (hs : mpIt intK mb i m S h) : seenN i w = S.length := by
  obtain ⟨es, clock, seen, _, h2, _, _, h5, _⟩ := mpIt_iff.1 hs
  have h3 : w.heap[i]? = _ := hl _ _ h2
  unfold seenN; rw [h3]
  have := congrArg List.length h5
  simpa using this
theorem keys_it {l bx mb : Nat} {m : List (Int × Value)} {w0 : World} (A B : Asn) (T : List Nat → List Asn)
    (hy : ∀ i S j k v, m[j]? = some (k, v) → ¬ j ∈ S → (∀ x ∈ S, x < m.length) → S.Nodup → ∀ w, Sat (hp w) (A :: B :: blk bx (.cells #[.map (some mb)] 60) :: mpIt intK mb i m (j :: S) :: T S) → env w = env w0 → YieldAt Fence.wide 0 Try.prog l #[.int .i64 k] w (fun e w' => env w' = env w0 ∧ e = .returned (.bool true) ∧ Sat (hp w') (A :: B :: blk bx (.cells #[.map (some mb)] 60) :: mpIt intK mb i m (j :: S) :: T (j :: S)))) :
    ∀ w, Sat (hp w) (A :: B :: blk bx (.cells #[.map (some mb)] 60) :: mp intK mb m :: T []) → env w = env w0 → CallsIn Fence.wide 0 Try.prog 70 (#[.func (.yield l) #[] #[]] ++ #[.pointer (some ⟨bx, 0, none⟩)]) w (fun e w' => (∃ v, e = .returned v) ∧ env w' = env w0 ∧
      ∃ i S, S.Nodup ∧ (∀ j, j < m.length → j ∈ S) ∧ (∀ j ∈ S, j < m.length) ∧ Sat (hp w') (A :: B :: blk bx (.cells #[.map (some mb)] 60) :: mpIt intK mb i m S :: T S)) := by
  intro w hs he
  have e0 : (#[Value.func (.yield l) #[] #[]] ++ #[Value.pointer (some ⟨bx, 0, none⟩)]) = [Value.func (.yield l) #[] #[], Value.pointer (some ⟨bx, 0, none⟩)].toArray := by simp
  rw [e0]
  refine CallsIn.mono (JR.calls (w0 := w0) (n := 14) (X := fun M => ∃ i S, S.Nodup ∧ (∀ j, j < m.length → j ∈ S) ∧ (∀ j ∈ S, j < m.length) ∧ M = A :: B :: blk bx (.cells #[.map (some mb)] 60) :: mpIt intK mb i m S :: T S) Try.func70 rfl rfl rfl rfl rfl ?_ hs he) ?_
  · refine JR.seq ?_
    refine JR.region rfl ?_
    refine RO.pur rfl rfl rfl rfl (Pur.load rfl (CellIn.blk rfl)) ?_
    refine RO.eff rfl rfl rfl rfl (Eff.range rfl) ?_
    rintro _ _ ⟨i, rfl, rfl⟩
    refine RO.nil ?_
    refine JR.block ?_
    refine JR.loopW (ι := List Nat) (fun S => S.Nodup ∧ ∀ j ∈ S, j < m.length) (fun S => [(0, .func (.yield l) #[] #[]), (5, .pointer (some ⟨i, 0, none⟩))]) (fun S => A :: B :: blk bx (.cells #[.map (some mb)] 60) :: mpIt intK mb i m S :: T S) (fun S => m.length - S.length)
      (fun w => m.length - seenN i w) (fun S w h => by obtain ⟨h1, l1, a1⟩ := h.tail.tail.tail.head; rw [seen_it l1 a1]) [] (.cons rfl rfl (.cons rfl rfl .nil)) (fun h s => s) ⟨List.nodup_nil, by simp⟩ ?_
    rintro S ⟨hn, hlt⟩
    refine JR.seq ?_
    refine JR.region rfl ?_
    refine RO.eff rfl rfl rfl rfl (Eff.next rfl) ?_
    rintro _ _ (⟨j, kk, vv, hmj, hjS, rfl, rfl⟩ | ⟨hall, rfl, rfl⟩)
    · refine RO.pur rfl rfl rfl rfl (Pur.extract rfl rfl) ?_
      refine RO.nil ?_
      refine JR.seq ?_
      refine JR.cond rfl (fun _ => ?_) (fun h => by cases h)
      refine JR.skip ?_
      refine JR.block ?_
      refine JR.seq ?_
      refine JR.region rfl ?_
      refine RO.pur rfl rfl rfl rfl (Pur.entry rfl hmj) ?_
      refine RO.pur rfl rfl rfl rfl (Pur.extract rfl rfl) ?_
      refine RO.pur rfl rfl rfl rfl (Pur.assign rfl) ?_
      refine RO.nil ?_
      refine JR.seq ?_
      refine JR.region rfl ?_
      refine RO.pur rfl rfl rfl rfl (Pur.move rfl) ?_
      refine RO.pur rfl rfl rfl rfl (Pur.move rfl) ?_
      refine RO.yield (Q := fun v M => v = .bool true ∧ M = A :: B :: blk bx (.cells #[.map (some mb)] 60) :: mpIt intK mb i m (j :: S) :: T (j :: S)) rfl rfl rfl rfl (fun w hs he => ?_) ?_
      · have h1 := hy i S j kk vv hmj hjS hlt hn w hs he
        obtain ⟨fn, tmps, assign, body, h2, h3⟩ := h1
        refine ⟨fn, tmps, assign, body, h2, h3.mono ?_⟩
        rintro e w' ⟨he', e2, hs'⟩
        exact ⟨_, _, e2, ⟨rfl, rfl⟩, hs', he'⟩
      rintro _ M ⟨rfl, rfl⟩
      refine RO.pur rfl rfl rfl rfl (Pur.not rfl) ?_
      refine RO.nil ?_
      refine JR.cond rfl (fun h => by cases h) (fun _ => ?_)
      refine JR.skip ?_
      have hjl : j < m.length := (List.getElem?_eq_some_iff.1 hmj).1
      have hnd : (j :: S).Nodup := List.nodup_cons.2 ⟨hjS, hn⟩
      have hlt2 : ∀ x ∈ j :: S, x < m.length := fun x hx => by rcases List.mem_cons.1 hx with rfl | hx; exact hjl; exact hlt x hx
      have hle := nodup_le _ _ hnd hlt2
      simp only [List.length_cons] at hle
      exact ⟨rfl, j :: S, ⟨hnd, hlt2⟩, by simp only [List.length_cons]; omega, .cons rfl rfl (.cons rfl rfl .nil), fun h s => s⟩
    · refine RO.pur rfl rfl rfl rfl (Pur.extract rfl rfl) ?_
      refine RO.nil ?_
      refine JR.seq ?_
      refine JR.cond rfl (fun h => by cases h) (fun _ => ?_)
      refine JR.exit ?_
      exact ⟨.inr rfl, rfl, i, S, hn, hall, hlt, rfl⟩
  · rintro e w' ⟨hv, he', M, ⟨i, S, h1, h2, h3, rfl⟩, hs'⟩
    exact ⟨hv, he', i, S, h1, h2, h3, hs'⟩
end Go.Proofs.Ytgbckamaenapeaa

/- The text HFirst. -/
set_option linter.unusedVariables false
set_option linter.unusedSimpArgs false
set_option maxRecDepth 10000
namespace Go.Proofs.Ytgbckamaenapeaa
open Go Go.KK Hf

theorem Reader_ok {L : List Asn} {p : Nat} {F : Fl} {fr to : Int} {k : Nat} (g : Hf.Good F k) (hk : k ≤ 100000) :
    CallS Try.prog 22 [.pointer (some ⟨p, 0, none⟩), .int .i64 fr, .int .i64 to].toArray (FA p F :: L) (fun v M => v = .tuple #[.int .i64 (beginF F fr to false).2.1, .int .i64 (beginF F fr to false).2.2] ∧ M = FA p (beginF F fr to false).1 :: L) := by
  refine CallS.enter Try.func22 rfl rfl rfl rfl rfl ?_
  refine J.seq rfl ?_
  refine J.region rfl ?_
  refine JO.pur rfl rfl rfl (Pur.assign rfl) ?_
  refine JO.pur rfl rfl rfl (Pur.assign rfl) ?_
  refine JO.nil ?_
  refine J.seq rfl ?_
  refine J.region rfl ?_
  refine JO.pur rfl rfl rfl (Pur.move rfl) ?_
  refine JO.pur rfl rfl rfl (Pur.move rfl) ?_
  refine JO.pur rfl rfl rfl (Pur.move rfl) ?_
  refine JO.eff rfl rfl rfl (Eff.call rfl (channel_ok g hk)) ?_
  rintro _ _ ⟨rfl, rfl⟩
  refine JO.pur rfl rfl rfl (Pur.extract rfl rfl) ?_
  refine JO.pur rfl rfl rfl (Pur.extract rfl rfl) ?_
  refine JO.pur rfl rfl rfl (Pur.assign rfl) ?_
  refine JO.pur rfl rfl rfl (Pur.assign rfl) ?_
  refine JO.nil ?_
  refine J.ret rfl rfl ?_
  exact ⟨rfl, rfl⟩

theorem Writer_ok {L : List Asn} {p : Nat} {F : Fl} {fr to : Int} {k : Nat} (g : Hf.Good F k) (hk : k ≤ 100000) :
    CallS Try.prog 18 [.pointer (some ⟨p, 0, none⟩), .int .i64 fr, .int .i64 to].toArray (FA p F :: L) (fun v M => v = .tuple #[.int .i64 (beginF F fr to true).2.1, .int .i64 (beginF F fr to true).2.2] ∧ M = FA p (beginF F fr to true).1 :: L) := by
  refine CallS.enter Try.func18 rfl rfl rfl rfl rfl ?_
  refine J.seq rfl ?_
  refine J.region rfl ?_
  refine JO.pur rfl rfl rfl (Pur.assign rfl) ?_
  refine JO.pur rfl rfl rfl (Pur.assign rfl) ?_
  refine JO.nil ?_
  refine J.seq rfl ?_
  refine J.region rfl ?_
  refine JO.pur rfl rfl rfl (Pur.move rfl) ?_
  refine JO.pur rfl rfl rfl (Pur.move rfl) ?_
  refine JO.pur rfl rfl rfl (Pur.move rfl) ?_
  refine JO.eff rfl rfl rfl (Eff.call rfl (channel_ok g hk)) ?_
  rintro _ _ ⟨rfl, rfl⟩
  refine JO.pur rfl rfl rfl (Pur.extract rfl rfl) ?_
  refine JO.pur rfl rfl rfl (Pur.extract rfl rfl) ?_
  refine JO.pur rfl rfl rfl (Pur.assign rfl) ?_
  refine JO.pur rfl rfl rfl (Pur.assign rfl) ?_
  refine JO.nil ?_
  refine J.ret rfl rfl ?_
  exact ⟨rfl, rfl⟩

def F1 : Fl := ⟨[], 2, [⟨1, 2, 5, 2, true, 2, [], []⟩]⟩
def F2 : Fl := ⟨[], 2, [⟨1, 2, 5, 4, true, 2, [97, 98], []⟩]⟩
def F3 : Fl := ⟨[0, 0, 97, 98], 2, []⟩
theorem f1 : beginF (newF []) 2 5 true = (F1, 1, 0) := by kernel_rfl
theorem f2 : writeF F1 1 [97, 98] = (F2, 0) := by kernel_rfl
theorem f3 : closeF F2 1 = (F3, 0) := by kernel_rfl
theorem g1 : Hf.Good F1 1 := by have h := good_begin (good_new (bs := []) (by decide)) 2 5 true; rw [f1] at h; exact h
theorem g2 : Hf.Good F2 1 := by have h := good_write g1 1 [97, 98]; rw [f2] at h; exact h
theorem first_ok {L : List Asn} :
    CallS Try.prog 11 [].toArray L (fun v M => v = .bool true ∧ M = L) := by
  refine CallS.ent ?_
  refine CallS.enter Try.func11 rfl rfl rfl rfl rfl ?_
  refine J.seq rfl ?_
  refine J.region rfl ?_
  refine JO.pur rfl rfl rfl (Pur.assign rfl) ?_
  refine JO.nil ?_
  refine J.seq rfl ?_
  refine J.region rfl ?_
  refine JO.eff rfl rfl rfl (Eff.call rfl (@New_ok _ none 0 0 [] SlIn.nil rfl (by decide) (fun _ => ⟨rfl, rfl⟩))) ?_
  rintro _ _ ⟨p, rfl, rfl⟩
  refine JO.pur rfl rfl rfl (Pur.move rfl) ?_
  refine JO.pur rfl rfl rfl (Pur.extract rfl rfl) ?_
  refine JO.pur rfl rfl rfl (Pur.extract rfl rfl) ?_
  refine JO.pur rfl rfl rfl (Pur.assign rfl) ?_
  refine JO.pur rfl rfl rfl (Pur.assign rfl) ?_
  refine JO.nil ?_
  refine J.seq rfl ?_
  refine J.seq rfl ?_
  refine J.region rfl ?_
  refine JO.pur rfl rfl rfl (Pur.move rfl) ?_
  refine JO.pur rfl rfl rfl (Pur.neqI rfl rfl) ?_
  refine JO.setv (u' := .bool false) 9 rfl (congrArg Value.bool (rfl)) ?_
  refine JO.pur rfl rfl rfl (Pur.move rfl) ?_
  refine JO.pur rfl rfl rfl (Pur.move rfl) ?_
  refine JO.pur rfl rfl rfl (Pur.eqlPtrNil rfl) ?_
  refine JO.setv (u' := .bool false) 12 rfl (congrArg Value.bool (rfl)) ?_
  refine JO.pur rfl rfl rfl (Pur.pickF rfl rfl) ?_
  refine JO.nil ?_
  refine J.condF rfl rfl ?_
  refine J.skip rfl ?_
  refine J.seq rfl ?_
  refine J.region rfl ?_
  refine JO.pur rfl rfl rfl (Pur.move rfl) ?_
  refine JO.eff rfl rfl rfl (Eff.call rfl (Writer_ok (F := newF []) (fr := 2) (to := 5) (good_new (by decide)) (by decide))) ?_
  rintro _ _ ⟨rfl, rfl⟩
  rw [f1]
  refine JO.pur rfl rfl rfl (Pur.move rfl) ?_
  refine JO.pur rfl rfl rfl (Pur.extract rfl rfl) ?_
  refine JO.pur rfl rfl rfl (Pur.extract rfl rfl) ?_
  refine JO.pur rfl rfl rfl (Pur.assign rfl) ?_
  refine JO.pur rfl rfl rfl (Pur.assign rfl) ?_
  refine JO.nil ?_
  refine J.seq rfl ?_
  refine J.seq rfl ?_
  refine J.region rfl ?_
  refine JO.pur rfl rfl rfl (Pur.move rfl) ?_
  refine JO.pur rfl rfl rfl (Pur.neqI rfl rfl) ?_
  refine JO.setv (u' := .bool false) 20 rfl (congrArg Value.bool (rfl)) ?_
  refine JO.pur rfl rfl rfl (Pur.move rfl) ?_
  refine JO.pur rfl rfl rfl (Pur.move rfl) ?_
  refine JO.pur rfl rfl rfl (Pur.move rfl) ?_
  refine JO.eff rfl rfl rfl (Eff.buildSlice byE [97, 98] rfl rfl rfl rfl rfl rfl rfl) ?_
  rintro _ _ ⟨b24, rfl, -, rfl⟩
  refine JO.eff rfl rfl rfl (Eff.convBB (E := byE) (e := 5) (by kernel_rfl) (by kernel_rfl) rfl) ?_
  rintro _ _ ⟨rfl, rfl⟩
  refine JO.imp (M := FA p F1 :: rd byE (some ⟨b24, 0, none⟩) [97, 98] :: L) (fun h s => SubC.out h s) ?_
  refine JO.eff rfl rfl rfl (Eff.call rfl (Write_ok (F := F1) (n := 1) (ys := [97, 98]) rfl (by decide) (fun e => by cases e) g1 (by decide))) ?_
  rintro _ _ ⟨rfl, rfl⟩
  rw [f2]
  refine JO.pur rfl rfl rfl (Pur.neqI rfl rfl) ?_
  refine JO.setv (u' := .bool false) 27 rfl (congrArg Value.bool (rfl)) ?_
  refine JO.pur rfl rfl rfl (Pur.pickF rfl rfl) ?_
  refine JO.pur rfl rfl rfl (Pur.move rfl) ?_
  refine JO.pur rfl rfl rfl (Pur.move rfl) ?_
  refine JO.pur rfl rfl rfl (Pur.move rfl) ?_
  refine JO.eff rfl rfl rfl (Eff.call rfl (Close_ok (F := F2) (n := 1) g2 (by decide))) ?_
  rintro _ _ ⟨rfl, rfl⟩
  rw [f3]
  refine JO.pur rfl rfl rfl (Pur.neqI rfl rfl) ?_
  refine JO.setv (u' := .bool false) 33 rfl (congrArg Value.bool (rfl)) ?_
  refine JO.pur rfl rfl rfl (Pur.pickF rfl rfl) ?_
  refine JO.nil ?_
  refine J.condF rfl rfl ?_
  refine J.skip rfl ?_
  refine J.seq rfl ?_
  refine J.region rfl ?_
  refine JO.pur rfl rfl rfl (Pur.move rfl) ?_
  refine JO.eff rfl rfl rfl (Eff.call rfl (Bytes_ok (F := F3) (by decide))) ?_
  rintro _ _ ⟨a36, c36, rfl, rfl⟩
  refine JO.eff rfl rfl rfl (Eff.buildSlice byE [0, 0, 97, 98] rfl rfl rfl rfl rfl rfl rfl) ?_
  rintro _ _ ⟨b37, rfl, -, rfl⟩
  refine JO.effR rfl rfl rfl (Eff.call rfl (same_ok (xs := F3.bytes) (ys := [0, 0, 97, 98]) rfl rfl)) ?_
  refine JO.setv (u' := .bool true) 38 rfl (congrArg Value.bool (rfl)) ?_
  refine JO.pur rfl rfl rfl (Pur.assign rfl) ?_
  refine JO.nil ?_
  refine J.ret rfl rfl ?_
  exact ⟨_, _, ⟨rfl, rfl⟩, rfl, SubC.out⟩

end Go.Proofs.Ytgbckamaenapeaa

/- The text HRR. -/
/-!
  How the document's file lies in memory: a slice of records.
-/
set_option linter.unusedVariables false
set_option linter.unusedSimpArgs false
namespace Go.Proofs.Ytgbckamaenapeaa
open Go Go.KK Hf
structure Rc where
  num : Int
  fr : Int
  to : Int
  at' : Int
  wr : Bool
  st : Int
  ap : Option Addr
  np : Nat
  cp : Nat
  am : Option Addr
  nm : Nat
  cm : Nat
  deriving Inhabited
def rcE : Enc Rc := ⟨96, 8, fun r => [.int .i64 r.num, .int .i64 r.fr, .int .i64 r.to, .int .i64 r.at', .bool r.wr, .int .i64 r.st, .slice r.ap r.np r.cp, .slice r.am r.nm r.cm], fun _ => rfl, fun s v h => by
  simp only [List.mem_cons, List.not_mem_nil, or_false] at h; rcases h with rfl | rfl | rfl | rfl | rfl | rfl | rfl | rfl <;> rfl⟩
/-- A record of a channel whose bytes and marks lie where r says. -/
def rcOf (r : Cr) (c : Ch) : Rc := ⟨c.num, c.fr, c.to, c.at', c.wr, c.st, r.ap, c.pend.length, r.cp, r.am, c.marks.length, r.cm⟩
def rcL (rs : List Cr) (cs : List Ch) : List Rc := List.zipWith rcOf rs cs
def rmA (r : Cr) (c : Ch) : Asn := star [sl byE r.ap r.cp c.pend, sl intE r.am r.cm c.marks]
def rmL (rs : List Cr) (cs : List Ch) : List Asn := List.zipWith rmA rs cs
structure Rr where
  ab : Option Addr
  cb : Nat
  ao : Option Addr
  co : Nat
  rs : List Cr
def rfC (q : Rr) (F : Fl) : List Value := [.slice q.ab F.bytes.length q.cb, .slice q.ao F.opens.length q.co, .int .i64 F.next]
def RA (p : Nat) (F : Fl) : Asn := fun h => ∃ q : Rr, q.rs.length = F.opens.length ∧ star [blk p (.cells (rfC q F).toArray 93), sl byE q.ab q.cb F.bytes, sl rcE q.ao q.co (rcL q.rs F.opens), star (rmL q.rs F.opens)] h
theorem RA_mk {p : Nat} {F : Fl} {ab ao : Option Addr} {cb co : Nat} {rs : List Cr} {L : List Asn} {h : Hp} (hr : rs.length = F.opens.length)
    (s : Sat h (blk p (.cells #[.slice ab F.bytes.length cb, .slice ao F.opens.length co, .int .i64 F.next] 93) :: sl byE ab cb F.bytes :: sl rcE ao co (rcL rs F.opens) :: star (rmL rs F.opens) :: L)) : Sat h (RA p F :: L) := by
  have h1 := (Sat.star (M := [blk p (.cells (rfC ⟨ab, cb, ao, co, rs⟩ F).toArray 93), sl byE ab cb F.bytes, sl rcE ao co (rcL rs F.opens), star (rmL rs F.opens)]) (L := L)).2 s
  exact h1.cons_imp (fun k hk => ⟨⟨ab, cb, ao, co, rs⟩, hr, hk⟩) (fun _ h => h)
theorem RA_open {p : Nat} {F : Fl} {L : List Asn} {c : Cx} {G : Fr} {k : List Item}
    (h : ∀ (ab : Option Addr) (cb : Nat) (ao : Option Addr) (co : Nat) (rs : List Cr), rs.length = F.opens.length → J c G (blk p (.cells #[.slice ab F.bytes.length cb, .slice ao F.opens.length co, .int .i64 F.next] 93) :: sl byE ab cb F.bytes :: sl rcE ao co (rcL rs F.opens) :: star (rmL rs F.opens) :: L) k) : J c G (RA p F :: L) k := by
  refine J.ex (A := fun q : Rr => fun h => q.rs.length = F.opens.length ∧ star [blk p (.cells (rfC q F).toArray 93), sl byE q.ab q.cb F.bytes, sl rcE q.ao q.co (rcL q.rs F.opens), star (rmL q.rs F.opens)] h) fun q => ?_
  refine J.prop fun hr => ?_
  refine J.star ?_
  exact h q.ab q.cb q.ao q.co q.rs hr
theorem zip_set {α β γ : Type} {f : α → β → γ} {rs : List α} {cs : List β} {i : Nat} {r' : α} {c' : β} : (List.zipWith f rs cs).set i (f r' c') = List.zipWith f (rs.set i r') (cs.set i c') := by
  apply List.ext_getElem?
  intro j
  rw [List.getElem?_set, List.getElem?_zipWith, List.getElem?_zipWith, List.getElem?_set, List.getElem?_set, List.length_zipWith]
  by_cases hij : i = j
  · subst hij
    rw [if_pos rfl, if_pos rfl, if_pos rfl]
    by_cases h1 : i < rs.length
    · by_cases h2 : i < cs.length
      · rw [if_pos (by omega), if_pos h1, if_pos h2]
      · rw [if_neg (by omega), if_pos h1, if_neg h2]
    · rw [if_neg (by omega), if_neg h1]
  · rw [if_neg hij, if_neg hij, if_neg hij]
theorem rcL_set {rs : List Cr} {cs : List Ch} {i : Nat} {r' : Cr} {c' : Ch} : (rcL rs cs).set i (rcOf r' c') = rcL (rs.set i r') (cs.set i c') := zip_set
theorem rcL_len {rs : List Cr} {cs : List Ch} (h : rs.length = cs.length) : (rcL rs cs).length = cs.length := by simp [rcL, h]
theorem rcL_get {rs : List Cr} {cs : List Ch} {i : Nat} {r : Cr} {c : Ch} (h1 : rs[i]? = some r) (h2 : cs[i]? = some c) : (rcL rs cs)[i]? = some (rcOf r c) := by
  unfold rcL; rw [List.getElem?_zipWith, h1, h2]
theorem rmL_get {rs : List Cr} {cs : List Ch} {i : Nat} {r : Cr} {c : Ch} (h1 : rs[i]? = some r) (h2 : cs[i]? = some c) : (rmL rs cs)[i]? = some (rmA r c) := by
  unfold rmL; rw [List.getElem?_zipWith, h1, h2]
theorem rcL_snoc {rs : List Cr} {cs : List Ch} (h : rs.length = cs.length) (r : Cr) (c : Ch) : rcL (rs ++ [r]) (cs ++ [c]) = rcL rs cs ++ [rcOf r c] := by
  unfold rcL; rw [List.zipWith_append h]; rfl
theorem rmL_snoc {rs : List Cr} {cs : List Ch} (h : rs.length = cs.length) (r : Cr) (c : Ch) : rmL (rs ++ [r]) (cs ++ [c]) = rmL rs cs ++ [rmA r c] := by
  unfold rmL; rw [List.zipWith_append h]; rfl
theorem zip_erase {α β γ : Type} {f : α → β → γ} : ∀ {rs : List α} {cs : List β} {i : Nat}, rs.length = cs.length → (List.zipWith f rs cs).eraseIdx i = List.zipWith f (rs.eraseIdx i) (cs.eraseIdx i)
  | [], [], _, _ => by simp
  | [], _ :: _, _, h => by simp at h
  | _ :: _, [], _, h => by simp at h
  | r :: rs, c :: cs, 0, _ => by simp
  | r :: rs, c :: cs, i + 1, h => by simp only [List.zipWith_cons_cons, List.eraseIdx_cons_succ]; rw [zip_erase (by simpa using h)]
/-- What a channel has is taken out of the list. -/
theorem rm_take {rs : List Cr} {cs : List Ch} {i : Nat} {r : Cr} {c : Ch} {L R : List Asn} [p : StarP (rmL rs cs) L R] {h : Hp} (h1 : rs[i]? = some r) (h2 : cs[i]? = some c) (s : Sat h L) :
    Sat h (sl byE r.ap r.cp c.pend :: sl intE r.am r.cm c.marks :: star ((rmL rs cs).eraseIdx i) :: R) :=
  Sat.star.1 (star_open (rmL_get h1 h2) (s.perm p.out))
/-- And put back, turned. -/
theorem rm_put {rs : List Cr} {cs : List Ch} {i : Nat} {r : Cr} {c c' : Ch} {b : Nat} {ap am : Option Addr} {cp cm : Nat} {L : List Asn} {h : Hp} (h1 : rs[i]? = some r) (h2 : cs[i]? = some c)
    (s : Sat h (sl byE ap cp c'.pend :: sl intE am cm c'.marks :: star ((rmL rs cs).eraseIdx i) :: L)) :
    Sat h (star (rmL (rs.set i ⟨b, ap, cp, am, cm⟩) (cs.set i c')) :: L) := by
  have e : (rmL rs cs).set i (rmA ⟨b, ap, cp, am, cm⟩ c') = rmL (rs.set i ⟨b, ap, cp, am, cm⟩) (cs.set i c') := zip_set
  rw [← e]
  refine star_shut (rmL_get h1 h2) ?_
  exact (Sat.star (M := [sl byE ap cp c'.pend, sl intE am cm c'.marks])).2 s
/-- The whole file, with a channel turned. -/
theorem RA_shut {p : Nat} {F : Fl} {bs : List UInt8} {nx : Int} {ab ao : Option Addr} {cb co : Nat} {rs : List Cr} {i : Nat} {r : Cr} {c' : Ch} {ap am : Option Addr} {cp cm : Nat} {L : List Asn} {h : Hp} (hr : rs.length = F.opens.length) (h1 : rs[i]? = some r) (h2 : F.opens[i]? = some (ch F i))
    (s : Sat h (sl byE ap cp c'.pend :: sl intE am cm c'.marks :: star ((rmL rs F.opens).eraseIdx i) ::
      blk p (.cells #[.slice ab bs.length cb, .slice ao F.opens.length co, .int .i64 nx] 93) :: sl byE ab cb bs :: sl rcE ao co ((rcL rs F.opens).set i (rcOf ⟨r.b, ap, cp, am, cm⟩ c')) :: L)) : Sat h (RA p ⟨bs, nx, F.opens.set i c'⟩ :: L) := by
  have s2 := rm_put (b := r.b) (c' := c') h1 h2 s
  rw [rcL_set] at s2
  refine RA_mk (F := ⟨bs, nx, F.opens.set i c'⟩) (ab := ab) (cb := cb) (ao := ao) (co := co) (rs := rs.set i ⟨r.b, ap, cp, am, cm⟩) (by simp [hr]) ?_
  dsimp only
  rw [List.length_set]
  exact SubC.out h s2
end Go.Proofs.Ytgbckamaenapeaa

/- The text HRf1. -/
set_option linter.unusedVariables false
set_option linter.unusedSimpArgs false
set_option maxRecDepth 10000
namespace Go.Proofs.Ytgbckamaenapeaa
open Go Go.KK Hf

theorem ch_get {F : Fl} {k : Nat} (h : k < F.opens.length) : F.opens[k]? = some (ch F k) := by simp [ch, List.getD_eq_getElem?_getD, h]
def ixI (F : Fl) (n : Int) : Int := match ix F n with
  | none => -1
  | some i => (i : Int)
theorem ixI_at {F : Fl} {n : Int} {k : Nat} (hk : k < F.opens.length) (h : ∀ j, j < k → ¬ (ch F j).num = n) (he : (ch F k).num = n) : ixI F n = (k : Int) := by
  have e : ix F n = some k := by
    unfold ix
    rw [List.findIdx?_eq_some_iff_getElem]
    refine ⟨hk, ?_, fun j hj => ?_⟩
    · have := ch_get hk; rw [List.getElem?_eq_getElem hk] at this; rw [Option.some.inj this]; simp [he]
    · have := ch_get (F := F) (k := j) (by omega); rw [List.getElem?_eq_getElem (by omega)] at this; rw [Option.some.inj this]; simp; exact fun e => h j hj e.symm
  unfold ixI; rw [e]
theorem ixI_none {F : Fl} {n : Int} (h : ∀ j, j < F.opens.length → ¬ (ch F j).num = n) : ixI F n = -1 := by
  have e : ix F n = none := by
    unfold ix
    rw [List.findIdx?_eq_none_iff]
    intro c hc
    obtain ⟨j, hj, rfl⟩ := List.getElem_of_mem hc
    have := ch_get hj; rw [List.getElem?_eq_getElem hj] at this
    have h2 := h j hj; rw [← Option.some.inj this] at h2; simp; exact fun e => h2 e.symm
  unfold ixI; rw [e]
theorem rfind_ok {L : List Asn} {p : Nat} {F : Fl} {n : Int} {v1 v3 : Value} {ao : Option Addr} {co : Nat} {rs : List Cr} [hb : BlkIn L p (.cells #[v1, .slice ao F.opens.length co, v3] 93)] [hi : SlIn rcE L ao (rcL rs F.opens)] (hr : rs.length = F.opens.length) (hol : F.opens.length ≤ 100000) :
    CallS Try.prog 65 [.pointer (some ⟨p, 0, none⟩), .int .i64 n].toArray L (fun v M => v = .int .i64 (ixI F n) ∧ M = L) := by
  refine CallS.enter Try.func65 rfl rfl rfl rfl rfl ?_
  refine J.seq rfl ?_
  refine J.region rfl ?_
  refine JO.pur rfl rfl rfl (Pur.assign rfl) ?_
  refine JO.nil ?_
  refine J.seq rfl ?_
  refine J.seq rfl ?_
  refine J.region rfl ?_
  refine JO.pur rfl rfl rfl (Pur.assign rfl) ?_
  refine JO.nil ?_
  refine J.block rfl ?_
  refine J.loopF (ι := Nat) (fun q => q ≤ F.opens.length ∧ ∀ j, j < q → ¬ (ch F j).num = n) (fun q => [(5, .int .i64 (q : Int))]) [(0, _), (1, _)] (fun q => L) (fun q => F.opens.length - q) 0 rfl (.cons rfl rfl (.cons rfl rfl .nil)) (.cons rfl rfl .nil) (by first | exact fun _ h => h | exact SubC.out | (dsimp only; exact SubC.out)) ⟨Nat.zero_le _, fun j hj => by omega⟩ ?_
  rintro k ⟨hk, hno⟩ ih0
  try dsimp only
  refine J.seq rfl ?_
  refine J.seq rfl ?_
  refine J.region rfl ?_
  refine JO.pur rfl rfl rfl (Pur.move rfl) ?_
  refine JO.pur rfl rfl rfl (Pur.move rfl) ?_
  refine JO.pur rfl rfl rfl (Pur.nilCheck rfl) ?_
  refine JO.pur rfl rfl rfl (Pur.fieldAddr rfl) ?_
  refine JO.pur rfl rfl rfl (Pur.load rfl (CellIn.blk rfl)) ?_
  refine JO.pur rfl rfl rfl (Pur.len rfl) ?_
  refine JO.pur rfl rfl rfl (Pur.lss rfl rfl) ?_
  refine JO.nil ?_
  refine J.splitB 12 rfl (fun h12 => ?_) (fun h12 => ?_)
  · try simp only [decide_eq_true_eq, decide_eq_false_iff_not, Bool.not_eq_true', Bool.not_eq_false', Bool.and_eq_true, Bool.or_eq_true, Bool.and_eq_false_iff, Bool.or_eq_false_iff, Option.isNone_some, Option.isSome_some, Option.isNone_none, Option.isSome_none, Int.not_lt, Int.not_le, beq_iff_eq, beq_eq_false_iff_ne, bne_iff_ne, ne_eq, Bool.not_not, Decidable.not_not] at h12
    have hkl : k < F.opens.length := by omega
    have hrl := rcL_len hr
    have hch := ch_get hkl
    obtain ⟨r, hrg⟩ : ∃ r, rs[k]? = some r := ⟨_, List.getElem?_eq_getElem (by omega)⟩
    have hrc := rcL_get hrg hch
    refine J.condT rfl rfl ?_
    refine J.skip rfl ?_
    refine J.seq rfl ?_
    refine J.block rfl ?_
    refine J.seq rfl ?_
    refine J.region rfl ?_
    refine JO.pur rfl rfl rfl (Pur.move rfl) ?_
    refine JO.pur rfl rfl rfl (Pur.nilCheck rfl) ?_
    refine JO.pur rfl rfl rfl (Pur.fieldAddr rfl) ?_
    refine JO.pur rfl rfl rfl (Pur.load rfl (CellIn.blk rfl)) ?_
    refine JO.pur rfl rfl rfl (Pur.move rfl) ?_
    refine JO.pur rfl rfl rfl (Pur.idx rfl rfl rfl (by first | rfl | (simp; done) | omega) rfl (by omega)) ?_
    refine JO.pur rfl rfl rfl (Pur.fieldAddr rfl) ?_
    refine JO.pur rfl rfl rfl (Pur.load rfl (CellIn.el rfl hrc rfl)) ?_
    refine JO.setv (u' := .int .i64 (ch F k).num) 22 rfl rfl ?_
    refine JO.pur rfl rfl rfl (Pur.move rfl) ?_
    refine JO.pur rfl rfl rfl (Pur.eqlI rfl rfl) ?_
    refine JO.nil ?_
    refine J.splitB 24 rfl (fun h24 => ?_) (fun h24 => ?_)
    · try simp only [decide_eq_true_eq, decide_eq_false_iff_not, Bool.not_eq_true', Bool.not_eq_false', Bool.and_eq_true, Bool.or_eq_true, Bool.and_eq_false_iff, Bool.or_eq_false_iff, Option.isNone_some, Option.isSome_some, Option.isNone_none, Option.isSome_none, Int.not_lt, Int.not_le, beq_iff_eq, beq_eq_false_iff_ne, bne_iff_ne, ne_eq, Bool.not_not, Decidable.not_not] at h24
      refine J.condT rfl rfl ?_
      refine J.seq rfl ?_
      refine J.region rfl ?_
      refine JO.pur rfl rfl rfl (Pur.move rfl) ?_
      refine JO.pur rfl rfl rfl (Pur.assign rfl) ?_
      refine JO.nil ?_
      refine J.ret rfl rfl ?_
      exact ⟨congrArg (Value.int .i64) (ixI_at hkl hno h24).symm, rfl⟩
    · try simp only [decide_eq_true_eq, decide_eq_false_iff_not, Bool.not_eq_true', Bool.not_eq_false', Bool.and_eq_true, Bool.or_eq_true, Bool.and_eq_false_iff, Bool.or_eq_false_iff, Option.isNone_some, Option.isSome_some, Option.isNone_none, Option.isSome_none, Int.not_lt, Int.not_le, beq_iff_eq, beq_eq_false_iff_ne, bne_iff_ne, ne_eq, Bool.not_not, Decidable.not_not] at h24
      have hno2 : ∀ j, j < k + 1 → ¬ (ch F j).num = n := fun j hj => by
        rcases Nat.lt_or_ge j k with h | h
        · exact hno j h
        · rw [show j = k by omega]; exact h24
      refine J.condF rfl rfl ?_
      refine J.skip rfl ?_
      refine J.inBlock ?_
      refine J.region rfl ?_
      refine JO.pur rfl rfl rfl (Pur.move rfl) ?_
      refine JO.pur rfl rfl rfl (Pur.add rfl rfl (wr64 (by omega))) ?_
      refine JO.pur rfl rfl rfl (Pur.assign rfl) ?_
      refine JO.nil ?_
      exact J.weaken (.cons rfl (congrArg (Value.int .i64) (by first | rfl | (dsimp only; omega))) (.cons rfl rfl (.cons rfl rfl .nil))) (by first | exact fun _ h => h | exact SubC.out | (dsimp only; exact SubC.out)) (ih0 (k + 1) ⟨(by omega), hno2⟩ (by omega))
  · try simp only [decide_eq_true_eq, decide_eq_false_iff_not, Bool.not_eq_true', Bool.not_eq_false', Bool.and_eq_true, Bool.or_eq_true, Bool.and_eq_false_iff, Bool.or_eq_false_iff, Option.isNone_some, Option.isSome_some, Option.isNone_none, Option.isSome_none, Int.not_lt, Int.not_le, beq_iff_eq, beq_eq_false_iff_ne, bne_iff_ne, ne_eq, Bool.not_not, Decidable.not_not] at h12
    refine J.condF rfl rfl ?_
    refine J.exit rfl rfl ?_
    refine J.seq rfl ?_
    refine J.region rfl ?_
    refine JO.pur rfl rfl rfl (Pur.assign rfl) ?_
    refine JO.nil ?_
    refine J.ret rfl rfl ?_
    exact ⟨congrArg (Value.int .i64) (ixI_none (F := F) (n := n) (fun j hj => hno j (by omega))).symm, rfl⟩

theorem rfind_no {L : List Asn} {p : Nat} {F : Fl} {n : Int} {v1 v3 : Value} {ao : Option Addr} {co : Nat} {rs : List Cr} [hb : BlkIn L p (.cells #[v1, .slice ao F.opens.length co, v3] 93)] [hi : SlIn rcE L ao (rcL rs F.opens)] (hr : rs.length = F.opens.length) (hol : F.opens.length ≤ 100000) (hx : ix F n = none) : CallS Try.prog 65 [.pointer (some ⟨p, 0, none⟩), .int .i64 n].toArray L (fun v M => v = .int .i64 (-1) ∧ M = L) := by
  have h := rfind_ok (L := L) (p := p) (F := F) (n := n) (v1 := v1) (v3 := v3) (ao := ao) (co := co) (rs := rs) hr hol
  rw [show ixI F n = -1 by unfold ixI; rw [hx]] at h; exact h
theorem rfind_yes {L : List Asn} {p : Nat} {F : Fl} {n : Int} {v1 v3 : Value} {ao : Option Addr} {co : Nat} {rs : List Cr} [hb : BlkIn L p (.cells #[v1, .slice ao F.opens.length co, v3] 93)] [hi : SlIn rcE L ao (rcL rs F.opens)] (hr : rs.length = F.opens.length) (hol : F.opens.length ≤ 100000) {i : Nat} (hx : ix F n = some i) : CallS Try.prog 65 [.pointer (some ⟨p, 0, none⟩), .int .i64 n].toArray L (fun v M => v = .int .i64 (i : Int) ∧ M = L) := by
  have h := rfind_ok (L := L) (p := p) (F := F) (n := n) (v1 := v1) (v3 := v3) (ao := ao) (co := co) (rs := rs) hr hol
  rw [show ixI F n = (i : Int) by unfold ixI; rw [hx]] at h; exact h
theorem rPlace_no {L : List Asn} {p : Nat} {F : Fl} {n : Int} {k : Nat} (g : Hf.Good F k) (hk : k ≤ 100000) (hx : ix F n = none) :
    CallS Try.prog 54 [.pointer (some ⟨p, 0, none⟩), .int .i64 n].toArray (RA p F :: L) (fun v M => v = .tuple #[.int .i64 (placeF F n).1, .int .i64 (placeF F n).2] ∧ M = RA p F :: L) := by
  refine CallS.ent ?_
  refine CallS.enter Try.func54 rfl rfl rfl rfl rfl ?_
  refine J.seq rfl ?_
  refine RA_open fun ab cb ao co rs hr => ?_
  refine J.region rfl ?_
  refine JO.pur rfl rfl rfl (Pur.assign rfl) ?_
  refine JO.pur rfl rfl rfl (Pur.assign rfl) ?_
  refine JO.nil ?_
  refine J.seq rfl ?_
  refine J.region rfl ?_
  refine JO.pur rfl rfl rfl (Pur.move rfl) ?_
  refine JO.pur rfl rfl rfl (Pur.move rfl) ?_
  refine JO.effR rfl rfl rfl (Eff.call rfl (rfind_no hr (Nat.le_trans g.ol hk) hx)) ?_
  refine JO.pur rfl rfl rfl (Pur.assign rfl) ?_
  refine JO.nil ?_
  refine J.seq rfl ?_
  refine J.seq rfl ?_
  refine J.region rfl ?_
  refine JO.pur rfl rfl rfl (Pur.move rfl) ?_
  refine JO.pur rfl rfl rfl (Pur.lss rfl rfl) ?_
  refine JO.setv (u' := .bool true) 11 rfl (congrArg Value.bool (rfl)) ?_
  refine JO.nil ?_
  refine J.condT rfl rfl ?_
  refine J.seq rfl ?_
  refine J.region rfl ?_
  refine JO.pur rfl rfl rfl (Pur.assign rfl) ?_
  refine JO.pur rfl rfl rfl (Pur.assign rfl) ?_
  refine JO.nil ?_
  refine J.ret rfl rfl ?_
  have hv : placeF F n = (0, 5) := by unfold placeF; rw [hx]
  refine ⟨_, _, ⟨rfl, rfl⟩, by rw [hv]; rfl, fun h s => ?_⟩
  skip
  exact RA_mk (ab := ab) (cb := cb) (ao := ao) (co := co) hr (SubC.out h s)

theorem rPlace_yes {L : List Asn} {p : Nat} {F : Fl} {n : Int} {i : Nat} {k : Nat} (g : Hf.Good F k) (hk : k ≤ 100000) (hx : ix F n = some i) :
    CallS Try.prog 54 [.pointer (some ⟨p, 0, none⟩), .int .i64 n].toArray (RA p F :: L) (fun v M => v = .tuple #[.int .i64 (placeF F n).1, .int .i64 (placeF F n).2] ∧ M = RA p F :: L) := by
  refine CallS.ent ?_
  refine CallS.enter Try.func54 rfl rfl rfl rfl rfl ?_
  refine J.seq rfl ?_
  refine RA_open fun ab cb ao co rs hr => ?_
  obtain ⟨hil, hch, hnum⟩ := ix_some hx
  obtain ⟨r, hrg⟩ : ∃ r, rs[i]? = some r := ⟨_, List.getElem?_eq_getElem (by omega)⟩
  have hrl := rcL_len hr
  have hrc := rcL_get hrg hch
  have gc := g.gc _ (ch_mem hx)
  have gmk := g.mks _ (ch_mem hx)
  have gb := g.b4
  have gf0 := gc.f0
  have gft := gc.ft
  have gt4 := gc.t4
  have gfa := gc.fa
  have ga4 := gc.at4
  refine J.region rfl ?_
  refine JO.pur rfl rfl rfl (Pur.assign rfl) ?_
  refine JO.pur rfl rfl rfl (Pur.assign rfl) ?_
  refine JO.nil ?_
  refine J.seq rfl ?_
  refine J.region rfl ?_
  refine JO.pur rfl rfl rfl (Pur.move rfl) ?_
  refine JO.pur rfl rfl rfl (Pur.move rfl) ?_
  refine JO.effR rfl rfl rfl (Eff.call rfl (rfind_yes hr (Nat.le_trans g.ol hk) hx)) ?_
  refine JO.pur rfl rfl rfl (Pur.assign rfl) ?_
  refine JO.nil ?_
  refine J.seq rfl ?_
  refine J.seq rfl ?_
  refine J.region rfl ?_
  refine JO.pur rfl rfl rfl (Pur.move rfl) ?_
  refine JO.pur rfl rfl rfl (Pur.lss rfl rfl) ?_
  refine JO.setv (u' := .bool false) 11 rfl (congrArg Value.bool (by simp)) ?_
  refine JO.nil ?_
  refine J.condF rfl rfl ?_
  refine J.skip rfl ?_
  refine J.seq rfl ?_
  refine J.region rfl ?_
  refine JO.pur rfl rfl rfl (Pur.move rfl) ?_
  refine JO.pur rfl rfl rfl (Pur.nilCheck rfl) ?_
  refine JO.pur rfl rfl rfl (Pur.fieldAddr rfl) ?_
  refine JO.pur rfl rfl rfl (Pur.load rfl (CellIn.blk rfl)) ?_
  refine JO.pur rfl rfl rfl (Pur.move rfl) ?_
  refine JO.pur rfl rfl rfl (Pur.idx rfl rfl rfl (by first | rfl | (simp; done) | omega) rfl (by omega)) ?_
  refine JO.pur rfl rfl rfl (Pur.fieldAddr rfl) ?_
  refine JO.pur rfl rfl rfl (Pur.load rfl (CellIn.el rfl hrc rfl)) ?_
  refine JO.setv (u' := .int .i64 (ch F i).at') 19 rfl rfl ?_
  refine JO.pur rfl rfl rfl (Pur.assign rfl) ?_
  refine JO.pur rfl rfl rfl (Pur.assign rfl) ?_
  refine JO.nil ?_
  refine J.ret rfl rfl ?_
  have hv : placeF F n = ((ch F i).at', 0) := by unfold placeF; rw [hx]
  refine ⟨_, _, ⟨rfl, rfl⟩, by rw [hv]; rfl, fun h s => ?_⟩
  exact RA_mk (ab := ab) (cb := cb) (ao := ao) (co := co) hr (SubC.out h s)

theorem rPlace_ok {L : List Asn} {p : Nat} {F : Fl} {n : Int} {k : Nat} (g : Hf.Good F k) (hk : k ≤ 100000) : CallS Try.prog 54 [.pointer (some ⟨p, 0, none⟩), .int .i64 n].toArray (RA p F :: L) (fun v M => v = .tuple #[.int .i64 (placeF F n).1, .int .i64 (placeF F n).2] ∧ M = RA p F :: L) := by
  cases hx : ix F n with
  | none => exact rPlace_no  g hk hx
  | some i => exact rPlace_yes  g hk hx
theorem rLeft_no {L : List Asn} {p : Nat} {F : Fl} {n : Int} {k : Nat} (g : Hf.Good F k) (hk : k ≤ 100000) (hx : ix F n = none) :
    CallS Try.prog 55 [.pointer (some ⟨p, 0, none⟩), .int .i64 n].toArray (RA p F :: L) (fun v M => v = .tuple #[.int .i64 (leftF F n).1, .int .i64 (leftF F n).2] ∧ M = RA p F :: L) := by
  refine CallS.ent ?_
  refine CallS.enter Try.func55 rfl rfl rfl rfl rfl ?_
  refine J.seq rfl ?_
  refine RA_open fun ab cb ao co rs hr => ?_
  refine J.region rfl ?_
  refine JO.pur rfl rfl rfl (Pur.assign rfl) ?_
  refine JO.pur rfl rfl rfl (Pur.assign rfl) ?_
  refine JO.nil ?_
  refine J.seq rfl ?_
  refine J.region rfl ?_
  refine JO.pur rfl rfl rfl (Pur.move rfl) ?_
  refine JO.pur rfl rfl rfl (Pur.move rfl) ?_
  refine JO.effR rfl rfl rfl (Eff.call rfl (rfind_no hr (Nat.le_trans g.ol hk) hx)) ?_
  refine JO.pur rfl rfl rfl (Pur.assign rfl) ?_
  refine JO.nil ?_
  refine J.seq rfl ?_
  refine J.seq rfl ?_
  refine J.region rfl ?_
  refine JO.pur rfl rfl rfl (Pur.move rfl) ?_
  refine JO.pur rfl rfl rfl (Pur.lss rfl rfl) ?_
  refine JO.setv (u' := .bool true) 11 rfl (congrArg Value.bool (rfl)) ?_
  refine JO.nil ?_
  refine J.condT rfl rfl ?_
  refine J.seq rfl ?_
  refine J.region rfl ?_
  refine JO.pur rfl rfl rfl (Pur.assign rfl) ?_
  refine JO.pur rfl rfl rfl (Pur.assign rfl) ?_
  refine JO.nil ?_
  refine J.ret rfl rfl ?_
  have hv : leftF F n = (0, 5) := by unfold leftF; rw [hx]
  refine ⟨_, _, ⟨rfl, rfl⟩, by rw [hv]; rfl, fun h s => ?_⟩
  skip
  exact RA_mk (ab := ab) (cb := cb) (ao := ao) (co := co) hr (SubC.out h s)

theorem rLeft_yes {L : List Asn} {p : Nat} {F : Fl} {n : Int} {i : Nat} {k : Nat} (g : Hf.Good F k) (hk : k ≤ 100000) (hx : ix F n = some i) :
    CallS Try.prog 55 [.pointer (some ⟨p, 0, none⟩), .int .i64 n].toArray (RA p F :: L) (fun v M => v = .tuple #[.int .i64 (leftF F n).1, .int .i64 (leftF F n).2] ∧ M = RA p F :: L) := by
  refine CallS.ent ?_
  refine CallS.enter Try.func55 rfl rfl rfl rfl rfl ?_
  refine J.seq rfl ?_
  refine RA_open fun ab cb ao co rs hr => ?_
  obtain ⟨hil, hch, hnum⟩ := ix_some hx
  obtain ⟨r, hrg⟩ : ∃ r, rs[i]? = some r := ⟨_, List.getElem?_eq_getElem (by omega)⟩
  have hrl := rcL_len hr
  have hrc := rcL_get hrg hch
  have gc := g.gc _ (ch_mem hx)
  have gmk := g.mks _ (ch_mem hx)
  have gb := g.b4
  have gf0 := gc.f0
  have gft := gc.ft
  have gt4 := gc.t4
  have gfa := gc.fa
  have ga4 := gc.at4
  refine J.region rfl ?_
  refine JO.pur rfl rfl rfl (Pur.assign rfl) ?_
  refine JO.pur rfl rfl rfl (Pur.assign rfl) ?_
  refine JO.nil ?_
  refine J.seq rfl ?_
  refine J.region rfl ?_
  refine JO.pur rfl rfl rfl (Pur.move rfl) ?_
  refine JO.pur rfl rfl rfl (Pur.move rfl) ?_
  refine JO.effR rfl rfl rfl (Eff.call rfl (rfind_yes hr (Nat.le_trans g.ol hk) hx)) ?_
  refine JO.pur rfl rfl rfl (Pur.assign rfl) ?_
  refine JO.nil ?_
  refine J.seq rfl ?_
  refine J.seq rfl ?_
  refine J.region rfl ?_
  refine JO.pur rfl rfl rfl (Pur.move rfl) ?_
  refine JO.pur rfl rfl rfl (Pur.lss rfl rfl) ?_
  refine JO.setv (u' := .bool false) 11 rfl (congrArg Value.bool (by simp)) ?_
  refine JO.nil ?_
  refine J.condF rfl rfl ?_
  refine J.skip rfl ?_
  refine J.seq rfl ?_
  refine J.quiet rfl Try.mixed (by kernel_rfl) ?_
  refine JQ.pur rfl rfl rfl (Pur.move rfl) ?_
  refine JQ.pur rfl rfl rfl (Pur.nilCheck rfl) ?_
  refine JQ.pur rfl rfl rfl (Pur.fieldAddr rfl) ?_
  refine JQ.pur rfl rfl rfl (Pur.load rfl (CellIn.blk rfl)) ?_
  refine JQ.pur rfl rfl rfl (Pur.move rfl) ?_
  refine JQ.pur rfl rfl rfl (Pur.idx rfl rfl rfl (by first | rfl | (simp; done) | omega) rfl (by omega)) ?_
  refine JQ.pur rfl rfl rfl (Pur.fieldAddr rfl) ?_
  refine JQ.pur rfl rfl rfl (Pur.load rfl (CellIn.el rfl hrc rfl)) ?_
  refine JQ.setv (u' := .int .i64 (ch F i).to) 19 rfl rfl ?_
  refine JQ.pur rfl rfl rfl (Pur.move rfl) ?_
  refine JQ.pur rfl rfl rfl (Pur.nilCheck rfl) ?_
  refine JQ.pur rfl rfl rfl (Pur.fieldAddr rfl) ?_
  refine JQ.pur rfl rfl rfl (Pur.load rfl (CellIn.blk rfl)) ?_
  refine JQ.pur rfl rfl rfl (Pur.move rfl) ?_
  refine JQ.pur rfl rfl rfl (Pur.idx rfl rfl rfl (by first | rfl | (simp; done) | omega) rfl (by omega)) ?_
  refine JQ.pur rfl rfl rfl (Pur.fieldAddr rfl) ?_
  refine JQ.pur rfl rfl rfl (Pur.load rfl (CellIn.el rfl hrc rfl)) ?_
  refine JQ.setv (u' := .int .i64 (ch F i).at') 27 rfl rfl ?_
  refine JQ.pur rfl rfl rfl (Pur.sub rfl rfl (wr64 (by omega))) ?_
  refine JQ.pur rfl rfl rfl (Pur.assign rfl) ?_
  refine JQ.pur rfl rfl rfl (Pur.assign rfl) ?_
  refine JQ.nil ?_
  refine J.ret rfl rfl ?_
  have hv : leftF F n = ((ch F i).to - (ch F i).at', 0) := by unfold leftF; rw [hx]
  refine ⟨_, _, ⟨rfl, rfl⟩, by rw [hv]; rfl, fun h s => ?_⟩
  exact RA_mk (ab := ab) (cb := cb) (ao := ao) (co := co) hr (SubC.out h s)

theorem rLeft_ok {L : List Asn} {p : Nat} {F : Fl} {n : Int} {k : Nat} (g : Hf.Good F k) (hk : k ≤ 100000) : CallS Try.prog 55 [.pointer (some ⟨p, 0, none⟩), .int .i64 n].toArray (RA p F :: L) (fun v M => v = .tuple #[.int .i64 (leftF F n).1, .int .i64 (leftF F n).2] ∧ M = RA p F :: L) := by
  cases hx : ix F n with
  | none => exact rLeft_no  g hk hx
  | some i => exact rLeft_yes  g hk hx
end Go.Proofs.Ytgbckamaenapeaa
