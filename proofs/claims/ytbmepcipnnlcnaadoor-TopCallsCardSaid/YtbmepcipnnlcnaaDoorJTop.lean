/-
  TopCalls proved, as the tied card: whatever the input, purlieutop.TopCalls returns true and its arguments read as they did; the library's tables strings.asciiSpace and unicode.White_Space hold what the program's text lays (tied by the given tie). No other condition.
-/
import Derived.Test.YtbmepcipnnlcnaaDoorCards
import Derived.Test.YtbmepcipnnlcnaaDoorTie
import Derived.Test.YtbmepcipnnlcnaaDoorPAI
import Derived.Test.YtbmepcipnnlcnaaDoorKB
import Derived.LaidMore
import Derived.LaidLaws
import Derived.Stop.Joined
import Derived.SevenTiedAt
/- The text JTop. -/
set_option linter.unusedVariables false
set_option linter.unusedSimpArgs false
namespace Go.Proofs.YtbmepcipnnlcnaaDoor
open Go Go.KK Sg Go.ChangeShapes Go.WideShapes Go.ChangeAt Go.RowKit Go.Deep

theorem Tryd.own : ownKnob Tryd.prog.godebug = none := by kernel_rfl
theorem Tryd.laidOut : laidOutB Tryd.prog = true := by kernel_rfl
theorem gTab : Tryd.prog.globalNamed "strings.asciiSpace" = some 0 := by kernel_rfl
theorem gTabType : (Tryd.prog.globals[0]?).map (·.type) = some 72 := by kernel_rfl
theorem cells72 : Tryd.prog.cellsOf 72 = 256 := by kernel_rfl
theorem cells5 : Tryd.prog.cellsOf 5 = 1 := by kernel_rfl
theorem tabIs_tail {H : Type} (h : (Rows.laid_strings_asciiSpace : DataW H) = Lib.tabData .u8 Lib.asciiSpaceTab) {W : World} : True := trivial

/-- What the row's list gives: the table's cells. -/
theorem table {W : World} (h : laidMetH Tryd.prog Rows.topCallsRow.laid W) : Lib.TabIs Tryd.prog W "strings.asciiSpace" .u8 Lib.asciiSpaceTab := by
  have h2 : laidMet Tryd.prog Rows.topCallsRow.laid W := h
  obtain ⟨ps, ⟨g0, t0, cs0, f0, p0, q0, hg0, ht0, hv0, hd0, ⟨g1, t1, cs1, f1, p1, q1, hg1, ht1, hv1, hd1, _, _⟩, _⟩, _, _⟩ := h2
  obtain rfl := Option.some.inj (gTab.symm.trans hg1)
  obtain rfl := Option.some.inj (gTabType.symm.trans ht1)
  have e : (Rows.laid_strings_asciiSpace : DataW Unit) = Lib.tabData .u8 Lib.asciiSpaceTab := by kernel_rfl
  rw [e] at hd1
  unfold Lib.TabIs
  rw [hv1, ← Lib.cells_of_tab Tryd.underlying72 Tryd.underlying5 cells5 cells72 hd1]
theorem tabI {W : World} (h : laidMetH Tryd.prog Rows.topCallsRow.laid W) : TabI (hp W) := ⟨fun c hc => by
  have h1 := (table h).cell gTab c (by rw [Lib.asciiSpaceTab_length]; exact hc)
  rw [Lib.asciiSpaceTab_at c hc] at h1
  rw [← cell?_eq]; exact h1⟩
/-- The door's own heap meets the condition. -/
theorem door_met (os : Os) (args : Array Value) : laidMetH Tryd.prog Rows.topCallsRow.laid ((World.doorLaid Tryd.prog 400 os).forCall (fun _ _ => 0) ⟨#[], args, []⟩).memory :=
  laidMetH_of_parts3 (fuel := 8) (laidMet_of_run' 8 (by kernel_rfl) (by kernel_rfl)) (by kernel_rfl) (by kernel_rfl)

section
variable {H : Type} {enc : TypeId × Value → H} {w : World} {base : Nat} {spare : Nat → Bool} {held : Bool}
theorem fm_cells {fuel : Nat} {cs : List Value} {x : DataW H × List MemPlace} (h : DataW.trod enc Tryd.prog w base spare held fuel 38 cs = some x) : ∃ f : Fm, fmE.enc f = cs := by
  obtain ⟨ys, -, hl, hy, hF⟩ := open_cells Tryd.underlying38 (hone_of (by kernel_rfl)) (by kernel_rfl) h
  obtain ⟨c0, c1, rfl⟩ := len2 hl
  obtain ⟨y0, y1, rfl⟩ := len2 hy
  obtain ⟨m0, t0⟩ := hF 0 _ _ _ rfl rfl rfl
  obtain ⟨m1, t1⟩ := hF 1 _ _ _ rfl rfl rfl
  obtain ⟨s, rfl⟩ := cell_string Tryd.underlying9 t0
  obtain ⟨n, rfl, -⟩ := cell_int Tryd.underlying3 t1
  exact ⟨(s, n), rfl⟩
/-- What a signature reads as. -/
def SgOk (w : World) (s : Sn) (fs : List Fm) : Prop := slR fmE (hp w) s.h.a fs ∧ s.h.n = fs.length ∧ fs.length ≤ 9223372036854775807 ∧ s.nm.size ≤ 9223372036854775807 ∧ (s.h.a = none → s.h.n = 0 ∧ s.h.cap = 0) ∧ s.h.n ≤ s.h.cap
theorem sg_cells {fuel : Nat} {cs : List Value} {x : DataW H × List MemPlace} (h : DataW.trod enc Tryd.prog w base spare held fuel 25 cs = some x) : ∃ (s : Sn) (fs : List Fm), sgE.enc s = cs ∧ SgOk w s fs := by
  obtain ⟨ys, -, hl, hy, hF⟩ := open_cells Tryd.underlying25 (hone_of (by kernel_rfl)) (by kernel_rfl) h
  obtain ⟨c0, c1, c2, rfl⟩ := len3 hl
  obtain ⟨y0, y1, y2, rfl⟩ := len3 hy
  obtain ⟨m0, t0⟩ := hF 0 _ _ _ rfl rfl rfl
  obtain ⟨m1, t1⟩ := hF 1 _ _ _ rfl rfl rfl
  obtain ⟨m2, t2⟩ := hF 2 _ _ _ rfl rfl rfl
  obtain ⟨s, e0, -, hsz⟩ := DataW.trod_string Tryd.underlying9 t0
  obtain ⟨r, rfl⟩ := cell_string Tryd.underlying9 t2
  obtain ⟨hv, hT⟩ := cell_slice Tryd.underlying23 t1
  obtain ⟨a, fs, cap, rfl, hlen, hcap, hnil, hs, -⟩ := open_gen fmE Tryd.underlying23 (by kernel_rfl) (by decide) (fun fuel cs x hx => fm_cells hx) hv hT
  simp only [List.cons.injEq, and_true] at e0
  subst e0
  exact ⟨⟨s, ⟨a, fs.length, cap⟩, r⟩, fs, rfl, hs, rfl, hlen, hsz, fun e => by rw [(hnil e).1, (hnil e).2]; exact ⟨rfl, rfl⟩, hcap⟩
theorem sgE_inj {s t : Sn} (h : sgE.enc s = sgE.enc t) : s = t := by
  obtain ⟨n1, ⟨a1, k1, c1⟩, r1⟩ := s
  obtain ⟨n2, ⟨a2, k2, c2⟩, r2⟩ := t
  simp only [sgE, List.cons.injEq, Value.string.injEq, Value.slice.injEq, and_true] at h
  obtain ⟨rfl, ⟨rfl, rfl, rfl⟩, rfl⟩ := h
  rfl
end
theorem choose_list {α β : Type} {p : α → β → Prop} : ∀ {xs : List α}, (∀ x ∈ xs, ∃ y, p x y) → ∃ ys : List β, ys.length = xs.length ∧ ∀ (i : Nat) x y, xs[i]? = some x → ys[i]? = some y → p x y
  | [], _ => ⟨[], rfl, fun i x y h => by simp at h⟩
  | x :: xs, h => by
    obtain ⟨y, hy⟩ := h x List.mem_cons_self
    obtain ⟨ys, h1, h2⟩ := choose_list fun z hz => h z (List.mem_cons_of_mem _ hz)
    refine ⟨y :: ys, by simp [h1], fun i a b ha hb => ?_⟩
    cases i with
    | zero => simp at ha hb; subst ha; subst hb; exact hy
    | succ i => exact h2 i a b (by simpa using ha) (by simpa using hb)

set_option maxRecDepth 100000 in
theorem topCalls_lifted (os : Os) (started : os.Started) (H : Type) (enc : TypeId × Value → H) :
    ReturnsInHanded {} Tryd.checked os 3 .any (fun w args => (Rows.topCallsSpec.pre enc Tryd.prog Tryd.f3 [] false w args ∧ laidMetH Tryd.prog Rows.topCallsRow.laid w) ∧ sizedMet enc Tryd.prog Tryd.f3 (OpenSpec.ofChange Rows.topCallsSpec) false w args)
      (Rows.topCallsSpec.post enc Tryd.prog Tryd.f3 false true false false) := by
  refine returnsInHanded_of_change_and (C := Tryd.checked) (X := fun w _ => laidMetH Tryd.prog Rows.topCallsRow.laid w) (fun _ _ _ hh h => h.of_heap hh) Tryd.own started (by kernel_rfl) Tryd.func3
    (ChangeSpec.witness_shaped (enc := enc) (C := Tryd.checked) (os := os) (X := fun w _ => laidMetH Tryd.prog Rows.topCallsRow.laid w) false (World.doorLaid Tryd.prog 400 os) #[.slice none 0 0, .agg #[.string ByteArray.empty, .slice none 0 0, .string ByteArray.empty], .slice none 0 0] 8 rfl (World.shaped_of_RefB (by kernel_rfl) (by kernel_rfl)) (by kernel_rfl) (by kernel_rfl) (by kernel_rfl) (door_met os _)) ?_
  intro W base args ds gs before hval0 hW _ _ hL _
  have hval : ∀ (j : Nat) t v, Tryd.f3.params[j]? = some t → args[j]? = some v → Value.okWide Tryd.prog W .any base t v := hval0
  have hW' := hW
  obtain ⟨p, q, hA0, hV, rfl, hfz, hnd⟩ := hW
  have hA : DataW.TrodAll enc Tryd.prog W 0 (fun _ => true) true Tryd.f3.params.toList args.toList ds p := hA0
  rw [Tryd.params3] at hA hval
  obtain ⟨v0, v1, v2, d0, d1, d2, p0, p1, p2, rfl, rfl, rfl, h0, h1, h2⟩ := trodAll_three hA
  obtain ⟨rfl, rfl⟩ := trodVars_none hV
  have h0k := h0
  have h1k := h1
  have h2k := h2
  obtain ⟨la, ls, lcap, rfl, hlen0, hcap0, hnil0, hs0, hall0⟩ := open_gen sgE Tryd.underlying22 (by kernel_rfl) (by decide) (fun fuel cs x hx => by obtain ⟨s, fs, e, _⟩ := sg_cells hx; exact ⟨s, e⟩) (okWide_slice Tryd.underlying22 (hval 0 22 _ rfl rfl)) h0
  obtain ⟨xss, hxl, hxx⟩ := choose_list (xs := ls) (p := fun s fs => SgOk W s fs) fun x hx => by
    obtain ⟨fuel, y, hy⟩ := hall0 x hx
    obtain ⟨s, fs, e, hok⟩ := sg_cells hy
    rw [sgE_inj e] at hok
    exact ⟨fs, hok⟩
  obtain ⟨cs1, hcs1, hsz1⟩ := okWide_struct Tryd.underlying25 (hval 1 25 _ rfl rfl)
  subst hcs1
  obtain ⟨s, fs, es, hsR, hsn, hsb, hsm, hs0n, hsc⟩ : ∃ (s : Sn) (fs : List Fm), sgE.enc s = cs1.toList ∧ SgOk W s fs := by
    obtain ⟨fuel, hf⟩ := h1
    exact sg_cells (show DataW.trod enc Tryd.prog W 0 (fun _ => true) true fuel 25 cs1.toList = some (d1, p1) from hf)
  obtain rfl : cs1 = (sgE.enc s).toArray := by rw [es]
  obtain ⟨aa, ac, acap, rfl, hlen2, hcap2, hnil2, hs2, -⟩ := open_gen fmE Tryd.underlying23 (by kernel_rfl) (by decide) (fun fuel cs x hx => fm_cells hx) (okWide_slice Tryd.underlying23 (hval 2 23 _ rfl rfl)) h2
  clear hA0 hval0
  simp only [List.append_nil] at hW'
  have hlt0 : ∀ x ∈ p0, x.block < W.heap.size := fun x hx => by
    have := hW'.lt x (by simp [hx])
    simpa using this
  have hlt1 : ∀ x ∈ p1, x.block < W.heap.size := fun x hx => by
    have := hW'.lt x (by simp [hx])
    simpa using this
  have hlt2 : ∀ x ∈ p2, x.block < W.heap.size := fun x hx => by
    have := hW'.lt x (by simp [hx])
    simpa using this
  haveI hI0 : Inp sgE (hp W) la ls := ⟨hs0⟩
  haveI hI1 : Inp fmE (hp W) s.h.a fs := ⟨hsR⟩
  haveI hI2 : Inp fmE (hp W) aa ac := ⟨hs2⟩
  haveI hIR : InpR fmE (hp W) (ls.map Sn.h) xss := ⟨by
    refine ⟨?_, fun i hd xs e1 e2 => ?_⟩
    · apply List.ext_getElem?
      intro i
      rw [List.getElem?_map, List.getElem?_map, List.getElem?_map]
      by_cases hi : i < ls.length
      · have e1 : ls[i]? = some ls[i] := List.getElem?_eq_getElem hi
        have e2 : xss[i]? = some (xss[i]'(by omega)) := List.getElem?_eq_getElem _
        rw [e1, e2]
        exact congrArg some (hxx i _ _ e1 e2).2.1
      · rw [List.getElem?_eq_none (by omega), List.getElem?_eq_none (by omega)]; rfl
    · rw [List.getElem?_map] at e1
      obtain ⟨x, hx, rfl⟩ := Option.map_eq_some_iff.1 e1
      have h := hxx i x xs hx e2
      exact ⟨h.1, h.2.2.2.2.1, h.2.2.2.2.2⟩⟩
  haveI hT := tabI hL
  have hG : Okls ls xss := ⟨hxl.symm, fun i x gs e1 e2 => by
    have h := hxx i x gs e1 e2
    exact ⟨h.2.1, h.2.2.1, h.2.2.2.1⟩⟩
  refine ((lawCalls (s := s) (fs := fs) (ls := ls) (xss := xss) (ac := ac) rfl rfl hG hsn hsb hsm hs0n hsc (fun e => ⟨by rw [(hnil0 e).1]; rfl, (hnil0 e).2⟩) : CallS Tryd.prog 3 _ [inp (hp W)] _).run (W := W)).mono fun e W' ⟨he, hb⟩ => ?_
  subst he
  exact ⟨_, rfl, _, _, _, [], _, [], hW', trodAll_mk1 (shut_bool Tryd.underlying4 true), trodAll_mk3 (Below.trod Tryd.laidOut (by kernel_rfl) (of_decide_eq_true (by kernel_rfl)) h0k hb hlt0) (Below.trod Tryd.laidOut (by kernel_rfl) (of_decide_eq_true (by kernel_rfl)) h1k hb hlt1) (Below.trod Tryd.laidOut (by kernel_rfl) (of_decide_eq_true (by kernel_rfl)) h2k hb hlt2), rfl, hb.frame _, fun h => by cases h⟩

set_option maxHeartbeats 4000000 in
theorem topCalls_closed : joinedFacts Tryd.prog 3 Tryd.f3 Rows.topCallsSpec Rows.topCallsRow = true := by
  simp only [joinedFacts, Bool.and_eq_true]
  repeat' apply And.intro
  all_goals (as_aux_lemma => kernel_rfl)
theorem topCalls_said : Rows.TopCallsSaid :=
  OpenClaim.holds_of_wide 3 Tryd.f3 rfl rfl rfl rfl rfl rfl rfl ⟨rfl, rfl, rfl, rfl, rfl⟩ rfl rfl rfl rfl rfl (by kernel_rfl) Tryd.func3 topCalls_closed
    (of_decide_eq_true (by kernel_rfl)) (by unfold Func.isWrapper; first | (rw [if_pos (by decide +kernel)]; kernel_rfl) | (rw [if_neg (by decide +kernel)]; exact ⟨rfl, rfl⟩))
    (fun os started H enc _ => topCalls_lifted os started H enc)
theorem topCalls_plain (f : FuncId) (fn : Func) (hf : Tryd.pinned.checked.prog.funcNamed "purlieu/purlieutop.TopCalls" = some f) (hfn : Tryd.pinned.checked.prog.funcs[f]? = some fn) :
    false = Tryd.pinned.checked.prog.looks [] ∧ ∀ (j : Nat) t, fn.params[j]? = some t → Tryd.pinned.checked.prog.wantsStandIn t = false := by
  obtain rfl : f = 3 := Option.some.inj ((show Tryd.prog.funcNamed "purlieu/purlieutop.TopCalls" = some 3 by kernel_rfl).symm.trans hf) |>.symm
  obtain rfl : fn = Tryd.f3 := (Option.some.inj (Tryd.func3.symm.trans hfn)).symm
  refine ⟨by kernel_rfl, fun j t ht => ?_⟩
  rw [Tryd.params3] at ht
  have hm : t ∈ [22, 25, 23] := by simpa using Array.mem_of_getElem? ht
  have hall : ([22, 25, 23].all fun u => !Tryd.prog.wantsStandIn u) = true := by kernel_rfl
  exact (show Tryd.prog.wantsStandIn t = false by simpa using List.all_eq_true.1 hall t hm)
/-- The tied card. -/
theorem topCalls_holds : Rows.TopCallsCardSaid :=
  Claim7.holds_tied_plain_at .later [] _ _ _ _ topCalls_said (fun _ h => by cases h) (by kernel_rfl) (fun _ h => by cases h) topCalls_row_tie rfl ⟨rfl, rfl⟩ (by kernel_rfl) rfl topCalls_plain (by kernel_rfl)
end Go.Proofs.YtbmepcipnnlcnaaDoor
