/-
  A part of the proof of the claim that this folder bears.
-/
import Derived.Test.YtoikjjpleonllaaKB
import Derived.RangeFuncOwn
import Derived.TacticsIn
import Derived.SizedLaws
import Derived.Laws.Shifts
import Derived.Maps.RangeRun
import Derived.Lib.AppendZerosOnto
import Derived.Laws.IdiomCopy
import Derived.Laws.BytesArg
import Derived.Laws.IdiomStrings
import Derived.Deep.Upon
/- The text K26. -/
/-!
  A range over a function: code in a round's frame, marks among the deferred calls.
-/
set_option linter.unusedVariables false
set_option linter.unusedSimpArgs false
namespace Go.KK
def fen : Option Nat → Fence
  | none => Fence.wide
  | some l => Fence.wide.inRound l
theorem fen_fn (ro : Option Nat) (f : FuncId) : (fen ro).fn f := by cases ro <;> trivial
theorem fen_dep (ro : Option Nat) : (fen ro).depth = none := by cases ro <;> rfl
theorem fen_calls {ro : Option Nat} {P : Program} {f : FuncId} {args : Array Value} {w : World} {R : Ending → World → Prop} (h : Calls P f args w R) : CallsIn (fen ro) 0 P f args w R := by
  have h1 : CallsIn Fence.wide 0 P f args w R := callsIn_wide.2 h
  cases ro
  · exact h1
  · exact h1
theorem fen_rows {ro : Option Nat} {P : Program} {row : String} {args : Array Value} {w : World} {R : Value → World → Prop} (h : Rows P row args w R) : Go.RowsIn (fen ro) 0 P row args w R := by
  have h1 : Go.RowsIn Fence.wide 0 P row args w R := fun c cs _ => let ⟨v, w', r, s⟩ := h c cs; ⟨v, w', r, stepsIn_wide.2 s⟩
  cases ro
  · exact h1
  · exact h1
theorem oper_in {ro : Option Nat} {P : Program} {o : Oper} {a : Act} {w : World} {next : Act → World → Prop} {Qx : Exit → Act → World → Prop} (ho : ∀ c, o.op ≠ .defer c) (h : o.wp P a w next Qx) : o.wpIn (fen ro) 0 P a w next Qx := by
  refine ⟨fun f _ => fen_fn ro f, ?_⟩
  rw [Oper.semAt_eq _ _ _ ho]
  unfold Oper.wp at h
  revert h
  generalize (execOp a.eval o).run P w = r
  intro h
  have hd : (fen ro).depth.isSome = true → 1 ≤ 0 := by rw [fen_dep]; intro h; cases h
  cases r with
  | ok x w' =>
    cases x <;> simp only [Oper.upon] at h <;> simp only [Oper.uponIn] <;> first | exact h | exact ⟨hd, fen_calls h⟩ | exact ⟨hd, fen_rows h⟩ | exact h.elim
  | halt x w' => cases x <;> simp only [Oper.upon] at h <;> simp only [Oper.uponIn] <;> first | exact h | exact h.elim

structure OkD (n : Nat) (ds : List Deferred) (F : Fr) (a : Act) : Prop where
  size : a.tmps.size = n
  defs : a.defers = ds
  val : ∀ t v, get F t = some v → a.tmps.getD t undef = v
section
variable {n : Nat} {ds : List Deferred} {F : Fr} {a : Act}
theorem OkD.ok (h : OkD n ds F a) : OkF n F { a with defers := [] } := ⟨h.size, rfl, h.val⟩
theorem OkF.okD (h : OkF n F a) : OkD n [] F a := ⟨h.size, h.nodef, h.val⟩
theorem OkD.put {d : Nat} {v : Value} (h : OkD n ds F a) (hd : Nat.blt d n = true) : OkD n ds ((d, v) :: F) (a.put (some d) v) :=
  have h1 := h.ok.put (v := v) hd
  ⟨h1.size, h.defs, h1.val⟩
theorem OkD.none {v : Value} (h : OkD n ds F a) : OkD n ds F (a.put none v) := h
theorem OkD.ev (h : OkD n ds F a) : ∀ x v, KK.ev F x = some v → a.eval x = v := fun x v hx => by
  have := h.ok.ev x v hx
  cases x <;> exact this
theorem OkD.picks {G : Fr} (h : OkD n ds F a) (hp : Picks F G) : OkD n ds G a := ⟨h.size, h.defs, (h.ok.picks hp).val⟩
end

structure Rx where
  P : Program
  n : Nat
  ro : Option Nat
  w0 : World
abbrev RP := Exit → List Deferred → Fr → List Asn → Prop
def PostR (c : Rx) (R : RP) : Exit → Act → World → Prop := fun e a w => ∃ ds F L, R e ds F L ∧ OkD c.n ds F a ∧ Sat (hp w) L ∧ env w = env c.w0
def JR (c : Rx) (R : RP) (ds : List Deferred) (F : Fr) (L : List Asn) (x : Code) : Prop :=
  ∀ a w, OkD c.n ds F a → Sat (hp w) L → env w = env c.w0 → x.wpIn (fen c.ro) 0 c.P (PostR c R) a w
/-- The operations 'rest' of the region 'ops' are still to do. -/
def RO (c : Rx) (R : RP) (ops : List Oper) (ds : List Deferred) (F : Fr) (L : List Asn) (rest : List Oper) : Prop :=
  ∀ a w, OkD c.n ds F a → Sat (hp w) L → env w = env c.w0 → wpListIn (fen c.ro) 0 c.P ops.toArray (PostR c R) rest a w
def noDefer (o : Oper) : Bool := match o.op with | .defer _ => false | _ => true
theorem noDefer_ok {o : Oper} (h : noDefer o = true) : ∀ c, o.op ≠ .defer c := fun c e => by unfold noDefer at h; rw [e] at h; cases h
section rules
variable {c : Rx} {R : RP} {ds : List Deferred} {F : Fr} {L : List Asn} {ops rest : List Oper} {o : Oper}
theorem PostR.of {e : Exit} {a : Act} {w : World} (h : R e ds F L) (hF : OkD c.n ds F a) (hs : Sat (hp w) L) (he : env w = env c.w0) : PostR c R e a w := ⟨ds, F, L, h, hF, hs, he⟩
theorem JR.imp {M : List Asn} {x : Code} (hL : ∀ h, Sat h L → Sat h M) (h : JR c R ds F M x) : JR c R ds F L x := fun a w hF hs he => h a w hF (hL _ hs) he
theorem JR.fact {x : Code} {p : Prop} (hp : ∀ h, Sat h L → p) (h : p → JR c R ds F L x) : JR c R ds F L x := fun a w hF hs he => h (hp _ hs) a w hF hs he
theorem JR.skip (h : R .normal ds F L) : JR c R ds F L .skip := fun a w hF hs he => wpIn_skip (.of h hF hs he)
theorem JR.ret (h : R .ret ds F L) : JR c R ds F L .ret := fun a w hF hs he => wpIn_ret (.of h hF hs he)
theorem JR.exit {id : Nat} (h : R (.exit id) ds F L) : JR c R ds F L (.exit id) := fun a w hF hs he => wpIn_exit (.of h hF hs he)
def thenR (c : Rx) (R : RP) (y : Code) : RP := fun e ds F L => match e with | .normal => JR c R ds F L y | e => R e ds F L
theorem JR.seq {x y : Code} (h : JR c (thenR c R y) ds F L x) : JR c R ds F L (.seq x y) := fun a w hF hs he =>
  wpIn_seq (wpIn_mono (h a w hF hs he) fun e a' w' ⟨ds', F', L', hr, hF', hs', he'⟩ => by
    cases e <;> first | exact hr a' w' hF' hs' he' | exact ⟨ds', F', L', hr, hF', hs', he'⟩)
def blockR (id : Nat) (R : RP) : RP := fun e ds F L => match e with | .exit i => if i = id then R .normal ds F L else R (.exit i) ds F L | e => R e ds F L
theorem JR.block {id : Nat} {x : Code} (h : JR c (blockR id R) ds F L x) : JR c R ds F L (.block id x) := fun a w hF hs he =>
  wpIn_block (wpIn_mono (h a w hF hs he) fun e a' w' ⟨ds', F', L', hr, hF', hs', he'⟩ => by
    cases e with
    | exit i =>
      simp only [blockR] at hr
      simp only [Exit.inBlock]
      split
      · rename_i e; rw [if_pos e] at hr; exact ⟨ds', F', L', hr, hF', hs', he'⟩
      · rename_i e; rw [if_neg e] at hr; exact ⟨ds', F', L', hr, hF', hs', he'⟩
    | _ => exact ⟨ds', F', L', hr, hF', hs', he'⟩)
theorem JR.cond {x : Operand} {a b : Code} {t : Bool} (hv : ev F x = some (.bool t)) (h1 : t = true → JR c R ds F L a) (h2 : t = false → JR c R ds F L b) : JR c R ds F L (.cond x a b) := fun ac w hF hs he =>
  wpIn_cond_split (hF.ev _ _ hv) (fun e => h1 e ac w hF hs he) (fun e => h2 e ac w hF hs he)
theorem JR.region {id : Nat} {ops : Array Oper} {l : List Oper} (hl : ops = l.toArray) (h : RO c R l ds F L l) : JR c R ds F L (.region id ops false) := fun a w hF hs he => by
  subst hl
  exact wpIn_region_lit (h a w hF hs he)
theorem RO.nil (h : R .normal ds F L) : RO c R ops ds F L [] := fun a w hF hs he => wpListIn_nil (.of h hF hs he)
theorem RO.eff {d : Nat} {Q : Value → List Asn → Prop} (hw : o.guard = none) (hd : o.dst = some d) (hn : Nat.blt d c.n = true) (hnd : noDefer o = true) (he : Eff c.P F L o Q)
    (h : ∀ v M, Q v M → RO c R ops ds ((d, v) :: F) M rest) : RO c R ops ds F L (o :: rest) := fun a w hF hs hv =>
  wpListIn_plain hw fun K hK => oper_in (noDefer_ok hnd) (he a w trivial hF.ev hs _ _ fun v w' M hq hs' hv' => by
    rw [hd]
    exact hK _ _ (h v M hq _ _ (hF.put hn) hs' (hv'.trans hv)))
theorem RO.effN {Q : Value → List Asn → Prop} (hw : o.guard = none) (hd : o.dst = none) (hnd : noDefer o = true) (he : Eff c.P F L o Q)
    (h : ∀ v M, Q v M → RO c R ops ds F M rest) : RO c R ops ds F L (o :: rest) := fun a w hF hs hv =>
  wpListIn_plain hw fun K hK => oper_in (noDefer_ok hnd) (he a w trivial hF.ev hs _ _ fun v w' M hq hs' hv' => by
    rw [hd]
    exact hK _ _ (h v M hq _ _ hF.none hs' (hv'.trans hv)))
theorem RO.pur {d : Nat} {v : Value} (hw : o.guard = none) (hd : o.dst = some d) (hn : Nat.blt d c.n = true) (hnd : noDefer o = true) (hp : Pur c.P F L o v)
    (h : RO c R ops ds ((d, v) :: F) L rest) : RO c R ops ds F L (o :: rest) := RO.eff hw hd hn hnd hp.eff (fun _ _ ⟨e1, e2⟩ => by subst e1; subst e2; exact h)

/-- A loop that counts a slot down. -/
theorem JR.loop {x : Code} {ι : Type} (good : ι → Prop) (I : ι → Fr) (H : ι → List Asn) (μ : ι → Nat) (m : Act → Nat) (hm : ∀ i a, OkD c.n ds (I i) a → m a = μ i) (i0 : ι)
    (hF : Picks F (I i0)) (hL : ∀ h, Sat h L → Sat h (H i0)) (hg : good i0)
    (body : ∀ i, good i → JR c (fun e ds' F' L' => match e with | .normal => ds' = ds ∧ ∃ j, good j ∧ μ j < μ i ∧ Picks F' (I j) ∧ (∀ h, Sat h L' → Sat h (H j)) | e => R e ds' F' L') ds (I i) (H i) x) : JR c R ds F L (.loop x) := fun a w hok hs he =>
  wpIn_loop (fun a w => ∃ i, good i ∧ OkD c.n ds (I i) a ∧ Sat (hp w) (H i) ∧ env w = env c.w0) (fun a _ => m a) ⟨i0, hg, hok.picks hF, hL _ hs, he⟩ fun a w ⟨i, hgi, hi, hsi, hei⟩ =>
    wpIn_mono (body i hgi a w hi hsi hei) fun e a' w' ⟨ds', F', L', hr, hF', hs', he'⟩ => by
      cases e with
      | normal =>
        obtain ⟨e1, j, hj, hlt, hpk, hl⟩ := hr
        subst e1
        have hj' : OkD c.n ds' (I j) a' := OkD.picks hF' hpk
        exact ⟨⟨j, hj, hj', hl _ hs', he'⟩, by rw [hm j a' hj', hm i a hi]; exact hlt⟩
      | _ => exact ⟨ds', F', L', hr, hF', hs', he'⟩
end rules

section yield
variable {c : Rx} {R : RP} {ds : List Deferred} {F : Fr} {L : List Asn} {ops rest : List Oper}
theorem RO.yield {d t l : Nat} {ty : TypeId} {pos : String} {aft : Array Edge} {xs : List Operand} {vs : List Value} {tys : Array TypeId} {Q : Value → List Asn → Prop} (hro : c.ro = none)
    (ht : get F t = some (.func (.yield l) #[] #[])) (hv : evL F xs = some vs) (hn : Nat.blt d c.n = true)
    (hy : ∀ w, Sat (hp w) L → env w = env c.w0 → YieldAt Fence.wide 0 c.P l vs.toArray w (fun e w' => ∃ v M, e = .returned v ∧ Q v M ∧ Sat (hp w') M ∧ env w' = env c.w0))
    (h : ∀ v M, Q v M → RO c R ops ds ((d, v) :: F) M rest) : RO c R ops ds F L (⟨some d, .call ⟨.value (.tmp t), xs.toArray, tys⟩, ty, pos, aft, none⟩ :: rest) := fun a w hF hs he =>
  wpListIn_plain rfl fun K hK => by
    refine ⟨fun f _ => fen_fn _ f, ?_⟩
    rw [Oper.semAt_eq _ _ _ (fun c e => by cases e)]
    have hargs : (xs.toArray.map a.eval) = vs.toArray := by
      have := evL_ok (hF.ev) hv
      simp [this]
    have hfe : a.eval (.tmp t) = .func (.yield l) #[] #[] := hF.ev (.tmp t) _ ht
    have hfe' : a.tmps[t]?.getD undef = .func (.yield l) #[] #[] := by simpa [Act.eval] using hfe
    obtain ⟨fn, tmps, assign, body, hrun, hR⟩ := hy w hs he
    have hr : (execOp a.eval ⟨some d, .call ⟨.value (.tmp t), xs.toArray, tys⟩, ty, pos, aft, none⟩).run c.P w = .ok (.round l fn tmps assign body) w := by
      simp [execOp, resolve, hargs, hfe', Deferred.ofValue, invoke, go_sem, hrun]
    rw [hr, Oper.uponIn_round]
    refine ⟨(by rw [fen_dep]; intro h; cases h), ?_⟩
    rw [hro]
    refine RoundIn.mono hR fun e w' ⟨v, M, e1, hq, hs', he'⟩ => ?_
    subst e1
    exact hK _ _ (h v M hq _ _ (hF.put hn) hs' he')
end yield

theorem hp_putObj {w : World} {b : Nat} {o o' : Obj} (h : hp w b = some o) : hp (w.putObj b o') = Hp.upd (hp w) b o' := by
  have hb : b < w.heap.size := by
    rcases Nat.lt_or_ge b w.heap.size with h1 | h1
    · exact h1
    · unfold hp at h; rw [Array.getElem?_eq_none h1] at h; cases h
  funext x
  unfold hp Hp.upd World.putObj
  by_cases e : x = b
  · subst e; simp [hb]
  · simp [e, Array.getElem?_setIfInBounds_ne (Ne.symm e)]
def mark (D : Nat) : Deferred := { target := .collected D, args := #[] }
def dfr : Obj := .deferred (some [])

/-- Where the function ends under a mark. -/
def endR (c : Cx) : RP := fun e ds F L => (e = .ret ∨ e = .normal) ∧ ∃ D A M vs, ds = [mark D] ∧ L = A :: blk D dfr :: M ∧ ResL c.P F M c.res vs ∧ c.Q (tupV vs) M
theorem J.tail {c : Cx} {F : Fr} {L : List Asn} {x y : Code} (h : ∀ w0, JR ⟨c.P, c.n, none, w0⟩ (thenR ⟨c.P, c.n, none, w0⟩ (endR c) y) [] F L x) : J c F L [.code x, .code y] := by
  intro a w hF hs fn hf hr cs
  have h1 := h w a w hF.okD hs rfl
  have fin : ∀ (e : Exit) (a' : Act) (w' : World) (m : Machine), PostR ⟨c.P, c.n, none, w⟩ (endR c) e a' w' → ArrivesIn (Machine.fenced c.P Fence.wide) c.P m (bse c.f) [] cs e a' w' →
      ∃ (v : Value) (L' : List Asn) (w' : World) (fr : Frame), c.Q v L' ∧ Sat (hp w') L' ∧ env w' = env w ∧ Steps c.P m (lone fr cs w') ∧ fr.fn = c.f ∧ fr.leaving c.P w' (.returned v) := by
    rintro e a' w' m ⟨ds, F', L', ⟨hE, D, A, M, vs, e1, e2, hv, hq⟩, hok, hs', he'⟩ harr
    subst e1; subst e2
    have hk : hp w' D = some dfr := (BlkIn.head (L := M) (b := D) (o := dfr)).out (hp w') hs'.tail
    have ht := run_takeDeferred (P := c.P) (w := w') (b := D) (ds := []) hk
    have hs2 : Sat (hp (w'.putObj D (.deferred none))) M := by
      have := Sat.upd (o' := .deferred none) hs'.tail
      rw [← hp_putObj hk] at this
      exact this.tail
    have key : ∀ todo, Steps c.P m (lone { (bse c.f).atR a' todo with mode := .returning } cs w') → ∃ (v : Value) (L' : List Asn) (w' : World) (fr : Frame), c.Q v L' ∧ Sat (hp w') L' ∧ env w' = env w ∧ Steps c.P m (lone fr cs w') ∧ fr.fn = c.f ∧ fr.leaving c.P w' (.returned v) := fun todo hst => by
      refine ⟨tupV vs, M, _, _, hq, hs2, he', hst.trans (.one (step_collected (d := mark D) (ds := []) (by simp) (by simpa [Frame.atR] using hok.defs) rfl ht)), rfl, ?_⟩
      exact ⟨rfl, rfl, rfl, fn, hf, run_resultsC fn c.P _ a'.tmps F' M hs2 c.res vs hr hok.val hv⟩
    rcases hE with rfl | rfl
    · obtain ⟨todo, hst⟩ := harr.1 rfl
      exact key todo (stepsIn_wide.1 hst)
    · exact key [] ((stepsIn_wide.1 harr).trans (.one (stepR_end rfl)))
  obtain ⟨e, a', w', hq, harr⟩ := h1 (bse c.f) [.code y] cs rfl trivial (room_wide _)
  have hst0 : lone ((bse c.f).at a [.code x, .code y]) cs w = lone ((bse c.f).atR a [.code x, .code y]) cs w := rfl
  rw [hst0]
  obtain ⟨ds, F', L', hR, hok, hs', he'⟩ := hq
  cases e with
  | normal =>
    obtain ⟨e2, a2, w2, hq2, harr2⟩ := hR a' w' hok hs' he' (bse c.f) [] cs rfl trivial (room_wide _)
    exact fin e2 a2 w2 _ hq2 (.of_steps harr harr2)
  | ret =>
    refine fin .ret a' w' _ ⟨ds, F', L', hR, hok, hs', he'⟩ ?_
    exact ⟨harr.1, fun h => by cases h⟩
  | exit i => rcases hR.1 with h | h <;> cases h
  | goto i => rcases hR.1 with h | h <;> cases h
  | panic i => rcases hR.1 with h | h <;> cases h
  | outgrown => rcases hR.1 with h | h <;> cases h

/-- A function of a fence from its body, where it ends without deferred calls and results. -/
theorem JR.calls {P : Program} {f : FuncId} {fn : Func} {b : Option Code} {args : List Value} {L : List Asn} {w w0 : World} {n : Nat} {X : List Asn → Prop}
    (hf : P.funcs[f]? = some fn) (hn : fn.ntmps = n) (hr : fn.results = #[]) (hb : fn.body = b) (hz : b.isSome = true) (hlen : Nat.ble args.length n = true)
    (h : JR ⟨P, n, none, w0⟩ (fun e ds F M => (e = .ret ∨ e = .normal) ∧ ds = [] ∧ X M) [] (argF 0 args) L (b.getD .skip)) (hs : Sat (hp w) L) (he : env w = env w0) :
    CallsIn Fence.wide 0 P f args.toArray w (fun e w' => (∃ v, e = .returned v) ∧ env w' = env w0 ∧ ∃ M, X M ∧ Sat (hp w') M) := by
  cases b with
  | none => simp at hz
  | some c =>
  have hlen' : args.length ≤ n := Nat.le_of_ble_eq_true hlen
  refine callsIn_of_wp hf hb trivial ?_ rfl
  refine wpIn_mono (h { tmps := args.toArray ++ Array.replicate (fn.ntmps - args.toArray.size) undef, defers := [] } w ⟨by simp [hn]; omega, rfl, fun t v hv => by
      have h1 := get_argF args 0 t v hv
      simp at h1
      obtain ⟨h2, h3⟩ := List.getElem?_eq_some_iff.1 h1
      simp [Array.getD_eq_getD_getElem?, Array.getElem?_append, h2, h3]⟩ hs he) ?_
  rintro e a' w' ⟨ds, F', M, ⟨hE, e1, hX⟩, hok, hs', he'⟩
  subst e1
  have hres : (results fn a'.tmps).run P w' = .ok (.tuple #[]) w' := run_resultsC fn P w' a'.tmps F' M hs' [] [] hr hok.val .nil
  rcases hE with rfl | rfl
  · exact ⟨hok.defs, _, hres, ⟨_, rfl⟩, he', M, hX, hs'⟩
  · exact ⟨hok.defs, _, hres, ⟨_, rfl⟩, he', M, hX, hs'⟩
end Go.KK

/- The text K27. -/
/-!
  More on a block that begins with an array.
-/
set_option linter.unusedVariables false
set_option linter.unusedSimpArgs false
namespace Go.KK
section
variable {P : Program} {F : Fr} {L : List Asn} {dst : Option Tmp} {ty : TypeId} {pos : String} {aft : Array Edge} {gd : Option (Nat × Bool)}
end
end Go.KK

/- The text K28. -/
/-!
  A slice argument of scalars, as a list; the reach of a slice argument.
-/
set_option linter.unusedVariables false
set_option linter.unusedSimpArgs false
namespace Go.KK
open Go.ChangeShapes Go.WideShapes Go.ChangeAt Go.RowKit
section
open Go.Deep
variable {H : Type} {enc : TypeId × Value → H} {P : Program} {w : World} {base : Nat} {spare : Nat → Bool} {held : Bool}
theorem reach_len {t e : TypeId} {a : Option Addr} {n cap : Nat} {d : DataW H} {ps : List MemPlace} (ht : P.underlying t = some (.slice e)) (h : DataW.Trod enc P w base spare held t (.slice a n cap) d ps)
    {ts : List TypeId} {ds : List (DataW H)} {j : Nat} (hz : (DataW.weightsEach P ts ds).all (· ≤ reachBytes) = true) (h1 : ts[j]? = some t) (h2 : ds[j]? = some d) : n * P.bytesOf e ≤ reachBytes := by
  obtain ⟨fuel, hf⟩ := h
  rcases open_slice ht hf with h0 | ⟨a, len, cap, m, n', D, Pl, h0, hb, h3, h4, hmm, hx, hi⟩
  · simp [Value.cells] at h0
    obtain ⟨⟨rfl, rfl, rfl⟩, _⟩ := h0
    simp
  · simp [Value.cells] at h0
    obtain ⟨rfl, rfl, rfl⟩ := h0
    have hd : d = .slice ((List.range n).map D) ((List.range (m - n)).map fun j => D (n + j)) := congrArg Prod.fst hx
    subst hd
    have := sized_slice hz h1 h2 ht
    simp only [List.length_map, List.length_range] at this
    exact Nat.le_trans (Nat.mul_le_mul_right _ (by omega)) this
end
end Go.KK

/- The text K29. -/
/-!
  Shifts, bits.
-/
set_option linter.unusedVariables false
set_option linter.unusedSimpArgs false
namespace Go.KK
section
variable {P : Program} {F : Fr} {L : List Asn} {dst : Option Tmp} {ty : TypeId} {pos : String} {aft : Array Edge} {gd : Option (Nat × Bool)}
theorem Pur.shl {t t' : Nat} {x y : Operand} {a : Int} {b : Nat} {i : Int} (hx : ev F x = some (.int .i64 a)) (hy : ev F y = some (.int .i64 i)) (hi : i = (b : Int)) (hb : b ≤ 64) (h : IntKind.i64.wrap (a * 2 ^ b) = a * 2 ^ b) :
    Pur P F L ⟨dst, .binOp .shl t x y t', ty, pos, aft, gd⟩ (.int .i64 (a * 2 ^ b)) := fun ρ w hρ _ => by
  subst hi
  have h1 := shift_shl_i64 (yk := .i64) (x := a) (y := (b : Int)) (by omega) (by omega)
  rw [Int.toNat_natCast, h] at h1
  simp [execOp, hρ _ _ hx, hρ _ _ hy, eqGuard, binOp_shl, h1, go_sem]
  try exact h
end
end Go.KK

/- The text K30. -/
/-!
  Maps: what is taken out of one, and a range over one, in whatever order its entries come.
-/
set_option linter.unusedVariables false
set_option linter.unusedSimpArgs false
set_option linter.unusedSectionVars false
namespace Go.KK
open Go.ChangeMaps (setBlock)
section
variable {κ : Type} [DecidableEq κ]
def adel (m : List (κ × Value)) (k : κ) : List (κ × Value) := match m.findIdx? (fun p => decide (k = p.1)) with
  | some j => m.eraseIdx j
  | none => m
/-- A map with an iterator over it, that has come to the entries of S, the last first. -/
@[irreducible] def mpIt (K : KeyE κ) (b i : Nat) (m : List (κ × Value)) (S : List Nat) : Asn := fun h => ∃ es clock seen, h b = some (.map es clock) ∧ h i = some (.mapIter (some b) clock seen clock) ∧ ents K es m ∧ bornOk es clock ∧
  seen.toList.reverse = S.map (fun j => ((es[j]?).map (·.born)).getD 0) ∧ ∀ j ∈ S, j < es.size
theorem mpIt_iff {K : KeyE κ} {b i : Nat} {m : List (κ × Value)} {S : List Nat} {h : Hp} : mpIt K b i m S h ↔ ∃ es clock seen, h b = some (.map es clock) ∧ h i = some (.mapIter (some b) clock seen clock) ∧ ents K es m ∧ bornOk es clock ∧
  seen.toList.reverse = S.map (fun j => ((es[j]?).map (·.born)).getD 0) ∧ ∀ j ∈ S, j < es.size := by unfold mpIt; exact Iff.rfl
theorem hp_setIf {w : World} {b : Nat} {o o' : Obj} (h : hp w b = some o) : hp { w with heap := w.heap.setIfInBounds b o' } = Hp.upd (hp w) b o' := by
  funext z
  have hb : b < w.heap.size := (Array.getElem?_eq_some_iff.1 h).1
  unfold hp Hp.upd
  simp only [Array.getElem?_setIfInBounds]
  by_cases e : z = b
  · subst e; simp [hb]
  · rw [if_neg (fun h => e h.symm), if_neg e]
theorem Hp.upd_le {h1 h : Hp} {b : Nat} {o : Obj} (hl : Hp.le h1 h) : Hp.le (Hp.upd h1 b o) (Hp.upd h b o) := fun x u hx => by
  unfold Hp.upd at *
  by_cases e : x = b
  · simpa [e] using hx
  · simp only [e, if_false] at *; exact hl _ _ hx
end
section
variable {κ : Type} [DecidableEq κ] {P : Program} {F : Fr} {L : List Asn} {dst : Option Tmp} {ty : TypeId} {pos : String} {aft : Array Edge} {gd : Option (Nat × Bool)}
class MpItIn {κ : outParam Type} (K : outParam (KeyE κ)) (L : List Asn) (i : Nat) (b : outParam Nat) (m : outParam (List (κ × Value))) (S : outParam (List Nat)) (f : outParam (Asn → List Asn)) : Prop where out : ∀ B, Rep (mpIt K b i m S) B L (f B)
instance MpItIn.head {κ : Type} {K : KeyE κ} {L : List Asn} {b i : Nat} {m : List (κ × Value)} {S : List Nat} : MpItIn K (mpIt K b i m S :: L) i b m S (fun B => B :: L) := ⟨fun _ => .head⟩
instance (priority := 900) MpItIn.tail {κ : Type} {K : KeyE κ} {A : Asn} {L : List Asn} {b i : Nat} {m : List (κ × Value)} {S : List Nat} {f : Asn → List Asn} [h : MpItIn K L i b m S f] : MpItIn K (A :: L) i b m S (fun B => A :: f B) := ⟨fun B => .tail (h.out B)⟩

theorem Eff.range {t kt et : Nat} [hT : MapT P t kt et] {x : Operand} {b : Nat} {K : KeyE κ} {m : List (κ × Value)} {f : Asn → List Asn} (hx : ev F x = some (.map (some b))) [hm : MpIn K L b m f] :
    Eff P F L ⟨dst, .range t x, ty, pos, aft, gd⟩ (fun u M => ∃ i, u = .pointer (some ⟨i, 0, none⟩) ∧ M = f (mpIt K b i m [])) := Eff.of_run fun ρ w hρ hs => by
  obtain ⟨es, clock, hb, he, hbo⟩ := MpIn.getB (b := b) (hh := hp w) hs
  have hut := run_underlying (P := P) hT.out w
  have hg := MapKept.run_getObj_map (P := P) (w := w) (r := b) (es := es) (clock := clock) hb
  have hbl : b < w.heap.size := (Array.getElem?_eq_some_iff.1 hb).1
  refine ⟨.pointer (some ⟨w.heap.size, 0, none⟩), { w with heap := w.heap.push (.mapIter (some b) clock #[] clock) }, f (mpIt K b w.heap.size m []), ?_, ⟨w.heap.size, rfl, rfl⟩, rfl, ?_⟩
  · have hex : execOp ρ ⟨dst, .range t x, ty, pos, aft, gd⟩ = (do pure (.value (← Instr.range t (ρ x)))) := rfl
    rw [hex]
    unfold Instr.range
    simp only [Sem.run_bind, hρ _ _ hx, hut, hg, Result.andThen_ok, Sem.run_pure]
    rfl
  · rw [hp_push]
    have hsz := hp_size w
    refine Sat.frameRep (hm.out _) hs fun h1 hA hl1 => ?_
    obtain ⟨es1, c1, hb1, he1, hbo1⟩ := mp_iff.1 hA
    have e2 : es1 = es ∧ c1 = clock := by have := hl1 _ _ hb1; rw [hb] at this; simp at this; exact ⟨this.1.symm, this.2.symm⟩
    obtain ⟨rfl, rfl⟩ := e2
    refine ⟨Hp.upd h1 w.heap.size (.mapIter (some b) c1 #[] c1), mpIt_iff.2 ⟨es1, c1, #[], ?_, by simp [Hp.upd], he1, hbo1, by simp, by simp⟩, Hp.upd_le hl1, ?_, ?_⟩
    · unfold Hp.upd; rw [if_neg (by omega)]; exact hb1
    · intro z hz
      unfold Hp.upd at hz
      by_cases e : z = w.heap.size
      · right; rw [e]; exact hsz
      · left; simpa [e] using hz
    · intro z o hz hno
      unfold Hp.upd
      by_cases e : z = w.heap.size
      · rw [e, hsz] at hz; cases hz
      · rw [if_neg e]; exact hz
theorem setBlock_hp {w w1 : World} {r : Nat} {o o' : Obj} (h1 : w1 = w ∨ w1 = w.drew) (h : hp w r = some o) : hp (setBlock w1 r o') = Hp.upd (hp w) r o' := by
  have e : hp (setBlock w1 r o') = hp { w with heap := w.heap.setIfInBounds r o' } := by rcases h1 with rfl | rfl <;> rfl
  rw [e]; exact hp_setIf h
theorem left_mem {es : Array MapEntry} {clock : Nat} {seen : Array Nat} {S : List Nat} (hbo : bornOk es clock) (hseen : seen.toList.reverse = S.map (fun j => ((es[j]?).map (·.born)).getD 0)) (hS : ∀ j ∈ S, j < es.size) {j : Nat} {e : MapEntry} (he : es[j]? = some e) :
    e ∈ (leftOf es seen).toList ↔ ¬ j ∈ S := by
  have hjl : j < es.size := (Array.getElem?_eq_some_iff.1 he).1
  have hmem : e.born ∈ seen.toList ↔ j ∈ S := by
    rw [← List.mem_reverse, hseen, List.mem_map]
    constructor
    · rintro ⟨i, hi, hb⟩
      have hil := hS i hi
      rw [Array.getElem?_eq_getElem hil] at hb
      simp only [Option.map_some, Option.getD_some] at hb
      have hp := List.pairwise_iff_getElem.1 hbo.1
      have hij : i = j := by
        rcases Nat.lt_trichotomy i j with h | h | h
        · have := hp i j (by simpa using hil) (by simpa using hjl) h
          simp only [List.getElem_map, Array.getElem_toList] at this
          rw [(Array.getElem?_eq_some_iff.1 he).2] at this
          exact absurd hb this
        · exact h
        · have := hp j i (by simpa using hjl) (by simpa using hil) h
          simp only [List.getElem_map, Array.getElem_toList] at this
          rw [(Array.getElem?_eq_some_iff.1 he).2] at this
          exact absurd hb.symm this
      exact hij ▸ hi
    · intro hj; exact ⟨j, hj, by rw [he]; rfl⟩
  unfold leftOf
  rw [Array.toList_filter, List.mem_filter]
  constructor
  · rintro ⟨_, h⟩ hj
    have : e.born ∈ seen := by simpa using hmem.2 hj
    simp [this] at h
  · intro hj
    refine ⟨by rw [← (Array.getElem?_eq_some_iff.1 he).2]; simp, ?_⟩
    have : ¬ e.born ∈ seen := fun h => hj (hmem.1 (by simpa using h))
    simp [this]
theorem Eff.next {x : Operand} {i b : Nat} {K : KeyE κ} {m : List (κ × Value)} {S : List Nat} {f : Asn → List Asn} (hx : ev F x = some (.pointer (some ⟨i, 0, none⟩))) [hm : MpItIn K L i b m S f] :
    Eff P F L ⟨dst, .next x false, ty, pos, aft, gd⟩ (fun u M => (∃ j k v, m[j]? = some (k, v) ∧ ¬ j ∈ S ∧ u = .tuple #[.bool true, K.v k, v] ∧ M = f (mpIt K b i m (j :: S))) ∨ ((∀ j, j < m.length → j ∈ S) ∧ u = .tuple #[.bool false] ∧ M = f (mpIt K b i m S))) := Eff.of_run fun ρ w hρ hs => by
  obtain ⟨h0, l0, a0⟩ := Sat.memRep (hm.out (mpIt K b i m S)) hs
  obtain ⟨es, clock, seen, hb1, hi1, he, hbo, hseen, hS⟩ := mpIt_iff.1 a0
  have hb : hp w b = some (.map es clock) := l0 _ _ hb1
  have hi : hp w i = some (.mapIter (some b) clock seen clock) := l0 _ _ hi1
  have hlen : es.size = m.length := ents_len he
  have hex : execOp ρ ⟨dst, .next x false, ty, pos, aft, gd⟩ = (do pure (.value (← Instr.next (ρ x) false ty))) := rfl
  have hall : ∀ j, j < es.size → ∃ e k v, es[j]? = some e ∧ m[j]? = some (k, v) ∧ e.key = K.v k ∧ e.val = v := by
    intro j hj
    have h1 := congrArg (fun l => l[j]?) he.1
    simp only [List.getElem?_map, Array.getElem?_toList, Array.getElem?_eq_getElem hj, List.getElem?_eq_getElem (show j < m.length by omega), Option.map_some, Option.some.injEq, Prod.mk.injEq] at h1
    exact ⟨es[j], m[j].1, m[j].2, Array.getElem?_eq_getElem hj, List.getElem?_eq_getElem (by omega), h1.1, h1.2⟩
  rcases run_next_at (P := P) w ty i b clock clock seen es clock hi hb hbo.2 (Nat.le_refl _) with ⟨h1, h2⟩ | ⟨e, he1, w1, hw1, hrun⟩
  · refine ⟨_, w, f (mpIt K b i m S), ?_, .inr ⟨fun j hj => ?_, rfl, rfl⟩, rfl, ?_⟩
    · rw [hex, Sem.run_bind, hρ _ _ hx, h2]; rfl
    · obtain ⟨e, k, v, g1, _⟩ := hall j (by omega)
      by_cases hj2 : j ∈ S
      · exact hj2
      · have h3 := (left_mem hbo hseen hS g1).2 hj2
        have h4 : (leftOf es seen).toList = [] := List.eq_nil_of_length_eq_zero (by rw [Array.length_toList]; exact h1)
        rw [h4] at h3; cases h3
    · obtain ⟨R, p1, p2⟩ := (hm.out (mpIt K b i m S)).perm
      exact (hs.perm p1).perm p2.symm
  · have hin : e ∈ es.toList := by
      unfold leftOf at he1
      rw [Array.toList_filter] at he1
      exact (List.mem_filter.1 he1).1
    obtain ⟨j, hj, hje⟩ := List.getElem_of_mem hin
    have hjl : j < es.size := by simpa using hj
    obtain ⟨e', k, v, g1, g2, g3, g4⟩ := hall j hjl
    have hee : e' = e := by rw [Array.getElem?_eq_getElem hjl] at g1; rw [← hje]; exact (Option.some.inj g1).symm
    subst hee
    have hjS := (left_mem hbo hseen hS g1).1 he1
    refine ⟨.tuple #[.bool true, K.v k, v], setBlock w1 i (.mapIter (some b) clock (seen.push e'.born) clock), f (mpIt K b i m (j :: S)), ?_, .inl ⟨j, k, v, g2, hjS, rfl, rfl⟩, ?_, ?_⟩
    · rw [hex, Sem.run_bind, hρ _ _ hx, hrun, g3, g4]; rfl
    · rcases hw1 with rfl | rfl <;> rfl
    · rw [setBlock_hp hw1 hi]
      refine Sat.frameRep (hm.out _) hs fun h1 hA hl1 => ?_
      obtain ⟨es1, c1, seen1, hb2, hi2, he2, hbo2, hs2, hS2⟩ := mpIt_iff.1 hA
      have e2 : es1 = es ∧ c1 = clock := by have := hl1 _ _ hb2; rw [hb] at this; simp at this; exact ⟨this.1.symm, this.2.symm⟩
      obtain ⟨rfl, rfl⟩ := e2
      have hne : b ≠ i := fun e => by rw [e, hi] at hb; cases hb
      refine ⟨Hp.upd h1 i (.mapIter (some b) c1 (seen.push e'.born) c1), mpIt_iff.2 ⟨es1, c1, seen.push e'.born, ?_, by simp [Hp.upd], he, hbo, ?_, ?_⟩, Hp.upd_le hl1, ?_, ?_⟩
      · unfold Hp.upd; rw [if_neg hne]; exact hb2
      · rw [Array.toList_push, List.reverse_append, hseen, List.map_cons, g1]; rfl
      · intro z hz
        rcases List.mem_cons.1 hz with rfl | hz
        · exact hjl
        · exact hS z hz
      · intro z hz
        unfold Hp.upd at hz
        by_cases e : z = i
        · left; rw [e, hi2]; simp
        · left; simpa [e] using hz
      · intro z o hz hno
        unfold Hp.upd
        by_cases e : z = i
        · rw [e, hi2] at hno; cases hno
        · rw [if_neg e]; exact hz
end
end Go.KK

/- The text K31. -/
/-!
  Copies, an append of zeros, bytes as strings, assertions in a list.
-/
set_option linter.unusedVariables false
set_option linter.unusedSimpArgs false
set_option linter.unusedSectionVars false
namespace Go.KK

/-- A list written over another one, from a place on. -/
def spl {α : Type} (xs : List α) (j : Nat) (ys : List α) : List α := xs.take j ++ ys ++ xs.drop (j + ys.length)
section
variable {P : Program} {F : Fr} {L : List Asn} {dst : Option Tmp} {ty : TypeId} {pos : String} {aft : Array Edge} {gd : Option (Nat × Bool)}

end
end Go.KK

/- The text K32. -/
/-!
  Bytes as strings; what is only read; assertions in a list; slices of slices that are only read.
-/
set_option linter.unusedVariables false
set_option linter.unusedSimpArgs false
set_option linter.unusedSectionVars false
namespace Go.KK
section
variable {P : Program} {F : Fr} {L : List Asn} {dst : Option Tmp} {ty : TypeId} {pos : String} {aft : Array Edge} {gd : Option (Nat × Bool)}
def strB (xs : List UInt8) : ByteArray := ⟨xs.toArray⟩
/-- What is only read from now on. -/
@[irreducible] def rd {α : Type} (E : Enc α) (a : Option Addr) (xs : List α) : Asn := fun h => slR E h a xs
instance SlIn.rd {α : Type} {E : Enc α} {L : List Asn} {a : Option Addr} {xs : List α} : SlIn E (rd E a xs :: L) a xs := ⟨fun h hs => by
  obtain ⟨h1, l, s⟩ := hs.head
  have s2 : slR E h1 a xs := by unfold KK.rd at s; exact s
  exact s2.mono l⟩
end

/-! Assertions in a list. -/
class StarP (As : List Asn) (L : List Asn) (R : outParam (List Asn)) : Prop where out : L.Perm (star As :: R)
instance StarP.head {As : List Asn} {L : List Asn} : StarP As (star As :: L) L := ⟨.refl _⟩
instance (priority := 900) StarP.tail {As : List Asn} {B : Asn} {L R : List Asn} [h : StarP As L R] : StarP As (B :: L) (B :: R) := ⟨(h.out.cons B).trans (.swap _ _ _)⟩

/-! Slices of slices that are only read. -/
class RowsR {α : outParam Type} (E : outParam (Enc α)) (L : List Asn) (hs : List Hdr) (xss : outParam (List (List α))) : Prop where
  out : ∀ h, Sat h L → hs.map (·.n) = xss.map (·.length) ∧ ∀ (i : Nat) (hd : Hdr) (xs : List α), hs[i]? = some hd → xss[i]? = some xs → slR E h hd.a xs ∧ (hd.a = none → hd.n = 0 ∧ hd.cap = 0) ∧ hd.n ≤ hd.cap
instance (priority := 900) RowsR.tail {α : Type} {E : Enc α} {A : Asn} {L : List Asn} {hs : List Hdr} {xss : List (List α)} [hh : RowsR E L hs xss] : RowsR E (A :: L) hs xss := ⟨fun h s => hh.out h s.tail⟩
theorem RowsR.row {α : Type} {E : Enc α} {L : List Asn} {hs : List Hdr} {xss : List (List α)} (hh : RowsR E L hs xss) {i : Nat} {hd : Hdr} {xs : List α} (h1 : hs[i]? = some hd) (h2 : xss[i]? = some xs) : SlIn E L hd.a xs := ⟨fun h s => ((hh.out h s).2 i hd xs h1 h2).1⟩
theorem RowsR.len {α : Type} {E : Enc α} {L : List Asn} {hs : List Hdr} {xss : List (List α)} [hh : RowsR E L hs xss] {h : Hp} (s : Sat h L) : hs.map (·.n) = xss.map (·.length) := (hh.out h s).1
class InpR {α : outParam Type} (E : outParam (Enc α)) (h0 : Hp) (hs : List Hdr) (xss : outParam (List (List α))) : Prop where
  out : hs.map (·.n) = xss.map (·.length) ∧ ∀ (i : Nat) (hd : Hdr) (xs : List α), hs[i]? = some hd → xss[i]? = some xs → slR E h0 hd.a xs ∧ (hd.a = none → hd.n = 0 ∧ hd.cap = 0) ∧ hd.n ≤ hd.cap
instance InpR.rowsR {α : Type} {E : Enc α} {h0 : Hp} {L : List Asn} {hs : List Hdr} {xss : List (List α)} [hh : InpR E h0 hs xss] : RowsR E (inp h0 :: L) hs xss := ⟨fun h s => by
  obtain ⟨h1, l, a⟩ := s.head
  refine ⟨hh.out.1, fun i hd xs e1 e2 => ?_⟩
  obtain ⟨g1, g2⟩ := hh.out.2 i hd xs e1 e2
  exact ⟨g1.mono (Hp.le_trans (inp_iff.1 a) l), g2⟩⟩
end Go.KK

/- The text K33. -/
/-!
  Slice arguments of whatever elements; of bytes; of slices.
-/
set_option linter.unusedVariables false
set_option linter.unusedSimpArgs false
set_option linter.unusedSectionVars false
namespace Go.KK
open Go.ChangeShapes Go.WideShapes Go.ChangeAt Go.RowKit
section
open Go.Deep
variable {H : Type} {enc : TypeId × Value → H} {P : Program} {w : World} {base : Nat} {spare : Nat → Bool} {held : Bool}
theorem open_gen {α : Type} [Inhabited α] (E : Enc α) {t e : TypeId} {v : Value} {d : DataW H} {ps : List MemPlace} (ht : P.underlying t = some (.slice e)) (hC : P.cellsOf e = E.m) (hm : 0 < E.m)
    (hel : ∀ (fuel : Nat) (cs : List Value) (x : DataW H × List MemPlace), DataW.trod enc P w base spare held fuel e cs = some x → ∃ g : α, E.enc g = cs)
    (hv : ∃ a len cap, v = .slice a len cap) (h : DataW.Trod enc P w base spare held t v d ps) : ∃ (a : Option Addr) (xs : List α) (cap : Nat), v = .slice a xs.length cap ∧ xs.length ≤ maxLen ∧ xs.length ≤ cap ∧ (a = none → xs = [] ∧ cap = 0) ∧ slR E (hp w) a xs ∧
      ∀ x ∈ xs, ∃ (fuel : Nat) (y : DataW H × List MemPlace), DataW.trod enc P w base spare held fuel e (E.enc x) = some y := by
  obtain ⟨fuel, hf⟩ := h
  obtain ⟨a0, len0, cap0, rfl⟩ := hv
  rcases open_slice ht hf with h0 | ⟨a, len, cap, m, n, D, Pl, h0, hb, h1, h2, hmm, hx, hi⟩
  · simp [Value.cells] at h0
    obtain ⟨⟨rfl, rfl, rfl⟩, _⟩ := h0
    exact ⟨none, [], 0, rfl, by unfold maxLen; simp, by simp, fun _ => ⟨rfl, rfl⟩, .inl rfl, by simp⟩
  · simp [Value.cells] at h0
    obtain ⟨rfl, rfl, rfl⟩ := h0
    have hex : ∀ i, i < len0 → ∃ x : α, (∀ k u, k < E.m → (E.enc x)[k]? = some u → w.cell? (a.add (i * E.m + k)) = some u) ∧ DataW.trod enc P w base spare held n e (E.enc x) = some (D i, Pl i) := by
      intro i hil
      obtain ⟨cs', hc, ht'⟩ := hi i (by rw [hmm]; split <;> omega)
      rw [hC] at hc
      obtain ⟨_, hcl, hat⟩ := World.cells?_some hc
      obtain ⟨g, hg⟩ := hel _ _ _ ht'
      refine ⟨g, fun k u hk hu => ?_, by rw [hg]; exact ht'⟩
      have := hat k hk
      rw [Go.Deep.add_add] at this
      rw [this, ← hg, hu]
    obtain ⟨F, hF⟩ := choose_lt hex
    refine ⟨some a, (List.range len0).map F, cap0, by simp, by simp; omega, by simp; omega, (fun h => by cases h), slR_of hm ?_, fun x hx => ?_⟩
    · intro i x hx k u hk hu
      rw [List.getElem?_map] at hx
      by_cases hil : i < len0
      · rw [List.getElem?_range hil] at hx
        simp only [Option.map_some, Option.some.injEq] at hx
        subst hx
        exact (hF i hil).1 k u hk hu
      · rw [List.getElem?_eq_none (by simp; omega)] at hx; cases hx
    · obtain ⟨i, hi', rfl⟩ := List.mem_map.1 hx
      exact ⟨n, _, (hF i (List.mem_range.1 hi')).2⟩
end
end Go.KK

/- The text K34. -/
/-!
  A slice argument of structs of which one field is a slice and the others are ints, strings and bools.
-/
set_option linter.unusedVariables false
set_option linter.unusedSimpArgs false
set_option linter.unusedSectionVars false
namespace Go.KK
open Go.ChangeShapes Go.WideShapes Go.ChangeAt Go.RowKit
section
open Go.Deep
variable {H : Type} {enc : TypeId × Value → H} {P : Program} {w : World} {base : Nat} {spare : Nat → Bool} {held : Bool}
end
end Go.KK

/- The text K35. -/
/-!
  A range over a function of one value whose next value is not known beforehand (the keys of a map).
-/
set_option linter.unusedVariables false
set_option linter.unusedSimpArgs false
namespace Go.KK
section
variable {c : Rx} {R : RP} {ds : List Deferred} {F : Fr} {L : List Asn}
theorem JR.ex {α : Type} {A : α → Asn} {x : Code} (h : ∀ y, JR c R ds F (A y :: L) x) : JR c R ds F ((fun h => ∃ y, A y h) :: L) x := fun a w hF hs he => by
  obtain ⟨y, s⟩ := hs.ex
  exact h y a w hF s he
theorem JR.prop {p : Prop} {A : Asn} {x : Code} (h : p → JR c R ds F (A :: L) x) : JR c R ds F ((fun h => p ∧ A h) :: L) x := fun a w hF hs he => by
  obtain ⟨hp, s⟩ := hs.pure
  exact h hp a w hF s he
theorem JR.star {M : List Asn} {x : Code} (h : JR c R ds F (M ++ L) x) : JR c R ds F (star M :: L) x := fun a w hF hs he => h a w hF (Sat.star.1 hs) he
end
end Go.KK

/- The text K36. -/
/-!
  A map's look-up that tells whether the key is there.
-/
set_option linter.unusedVariables false
set_option linter.unusedSimpArgs false
namespace Go.KK
section
variable {κ : Type} [DecidableEq κ] {P : Program} {F : Fr} {L : List Asn} {dst : Option Tmp} {ty : TypeId} {pos : String} {aft : Array Edge} {gd : Option (Nat × Bool)}
theorem run_lookupOk {K : KeyE κ} {t kt et : TypeId} {z : Value} (w : World) (ht : P.underlying t = some (.map kt et)) (hk : P.underlying kt = some K.kind) (hz : (P.info? et).bind (·.zero) = some z)
    {b : Nat} {es : Array MapEntry} {clock : Nat} {m : List (κ × Value)} (hb : hp w b = some (.map es clock)) (he : ents K es m) (k : κ) :
    (Instr.lookup t (.map (some b)) (K.v k) true).run P w = .ok (.tuple #[(alook m k).getD z, .bool (alook m k).isSome]) w := by
  have hu := run_underlying (P := P) ht w
  have hzv : (zeroValue et).run P w = .ok z w := by
    cases hi : P.info? et with
    | none => simp [hi] at hz
    | some i => simp [hi] at hz; simp [zeroValue, typeInfo, hi, hz, go_sem]
  have hg : (getObj b).run P w = .ok (.map es clock) w := by
    have : w.heap[b]? = some (.map es clock) := hb
    exact MapKept.run_getObj_map this
  unfold Instr.lookup
  simp only [Sem.run_bind, hu, Result.andThen_ok, hg, Sem.run_pure, K.scalar P w kt k _ hk, run_findKey w hk he]
  rw [← find_bind]
  cases hf : m.findIdx? (fun p => decide (k = p.1)) with
  | none => simp [hzv]
  | some j =>
    cases hm : m[j]? with
    | none => simp [hm, hzv]
    | some p => simp [hm]
theorem Pur.lookupOk {t kt et : Nat} [hT : MapT P t kt et] {z : Value} [hz : ZeV P et z] {x y : Operand} {b : Nat} {K : KeyE κ} {m : List (κ × Value)} {f : Asn → List Asn} {k : κ} [hK : KeyIs P kt K]
    (hx : ev F x = some (.map (some b))) (hy : ev F y = some (K.v k)) [hm : MpIn K L b m f] :
    Pur P F L ⟨dst, .lookup t x y true, ty, pos, aft, gd⟩ (.tuple #[(alook m k).getD z, .bool (alook m k).isSome]) := fun ρ w hρ hs => by
  obtain ⟨es, clock, hb, he⟩ := MpIn.get (b := b) (hh := hp w) hs
  have := run_lookupOk (P := P) w hT.out hK.out hz.out hb he k
  have hex : execOp ρ ⟨dst, .lookup t x y true, ty, pos, aft, gd⟩ = (do pure (.value (← Instr.lookup t (ρ x) (ρ y) true))) := rfl
  rw [hex, Sem.run_bind, hρ _ _ hx, hρ _ _ hy, this]
  rfl
end
end Go.KK

/- The text K37. -/
/-!
  Rows that are owned, read as rows that are only read; a struct argument taken apart.
-/
set_option linter.unusedVariables false
set_option linter.unusedSimpArgs false
set_option linter.unusedSectionVars false
namespace Go.KK
instance RowsR.own {α : Type} {E : Enc α} {L : List Asn} {hs : List Hdr} {xss : List (List α)} : RowsR E (rows E hs xss :: L) hs xss := ⟨fun h s => by
  have e := (rows_iff.1 s).1
  refine ⟨e, fun i hd xs h1 h2 => ?_⟩
  have s2 := rows_open h1 h2 s
  have hn := hdr_n e h1 h2
  have g1 : slR E h hd.a xs := SlIn.head.out h s2
  have g2 := SlH.nil (a := hd.a) (cap := hd.cap) (E := E) (xs := xs) s2
  have g3 := SlH.le (a := hd.a) (cap := hd.cap) (E := E) (xs := xs) s2
  exact ⟨g1, fun ha => by obtain ⟨a1, a2⟩ := g2 ha; exact ⟨by rw [hn, a1]; rfl, a2⟩, by omega⟩⟩
end Go.KK

/- The text K38. -/
/-!
  A store of a whole element of a slice.
-/
set_option linter.unusedVariables false
set_option linter.unusedSimpArgs false
set_option linter.unusedSectionVars false
namespace Go.KK
section
variable {P : Program} {F : Fr} {L : List Asn} {dst : Option Tmp} {ty : TypeId} {pos : String} {aft : Array Edge} {gd : Option (Nat × Bool)}
end
end Go.KK

/- The text K39. -/
/-!
  Struct arguments whose fields are one cell each.
-/
set_option linter.unusedVariables false
set_option linter.unusedSimpArgs false
set_option linter.unusedSectionVars false
namespace Go.KK
open Go.ChangeShapes Go.WideShapes Go.ChangeAt Go.RowKit
section
open Go.Deep
variable {H : Type} {enc : TypeId × Value → H} {P : Program} {w : World} {base : Nat} {spare : Nat → Bool} {held : Bool}
theorem open_cells {t : TypeId} {fs : Array Field} {fuel : Nat} {cs : List Value} {x : DataW H × List MemPlace} (hs : P.underlying t = some (.struct fs)) (hone : ∀ (i : Nat) (f : Field), fs[i]? = some f → f.offset = i ∧ P.cellsOf f.type = 1) (hC : P.cellsOf t = fs.size)
    (h : DataW.trod enc P w base spare held fuel t cs = some x) :
    ∃ (ys : List (DataW H × List MemPlace)), x = (.agg (ys.map (·.1)), ys.flatMap (·.2)) ∧ cs.length = fs.size ∧ ys.length = fs.size ∧
      ∀ (i : Nat) (f : Field) (c : Value) (y : DataW H × List MemPlace), fs[i]? = some f → cs[i]? = some c → ys[i]? = some y → ∃ n, DataW.trod enc P w base spare held n f.type [c] = some y := by
  obtain ⟨xs, n, _, hx, hl, hxl, hff⟩ := DataW.trod_struct hs h
  refine ⟨xs, hx, by rw [hl, hC], hxl, fun i f c y hi hc hy => ⟨n, ?_⟩⟩
  obtain ⟨ho, hc1⟩ := hone i f hi
  have g := hff i f hi
  have hlt := (List.getElem?_eq_some_iff.1 hc).1
  rw [ho, hc1, take1_drop cs i undef hlt, hy] at g
  rw [List.getD_eq_getElem?_getD, hc] at g
  exact g
theorem open_struct {t : TypeId} {fs : Array Field} {v : Value} {d : DataW H} {ps : List MemPlace} (hs : P.underlying t = some (.struct fs)) (hone : ∀ (i : Nat) (f : Field), fs[i]? = some f → f.offset = i ∧ P.cellsOf f.type = 1) (hC : P.cellsOf t = fs.size)
    (hv : ∃ cs, v = .agg cs ∧ cs.size = P.cellsOf t) (h : DataW.Trod enc P w base spare held t v d ps) :
    ∃ (cs : List Value) (ys : List (DataW H × List MemPlace)), v = .agg cs.toArray ∧ d = .agg (ys.map (·.1)) ∧ ps = ys.flatMap (·.2) ∧ cs.length = fs.size ∧ ys.length = fs.size ∧
      ∀ (i : Nat) (f : Field) (c : Value) (y : DataW H × List MemPlace), fs[i]? = some f → cs[i]? = some c → ys[i]? = some y → ∃ n, DataW.trod enc P w base spare held n f.type [c] = some y := by
  obtain ⟨fuel, hf⟩ := h
  obtain ⟨cs, rfl, hsz⟩ := hv
  obtain ⟨ys, hx, h1, h2, h3⟩ := open_cells hs hone hC (show DataW.trod enc P w base spare held fuel t cs.toList = some (d, ps) from hf)
  exact ⟨cs.toList, ys, by simp, congrArg Prod.fst hx, congrArg Prod.snd hx, h1, h2, h3⟩
/-- A cell that is a slice's is read as the slice. -/
theorem cell_slice {t e : TypeId} {n : Nat} {c : Value} {y : DataW H × List MemPlace} (ht : P.underlying t = some (.slice e)) (h : DataW.trod enc P w base spare held n t [c] = some y) : (∃ a len cap, c = .slice a len cap) ∧ DataW.Trod enc P w base spare held t c y.1 y.2 := by
  have hs : ∃ a len cap, c = .slice a len cap := by
    rcases open_slice ht h with h0 | ⟨a, len, cap, m, n', D, Pl, h0, _⟩
    · simp at h0; exact ⟨_, _, _, h0.1⟩
    · simp at h0; exact ⟨_, _, _, h0⟩
  refine ⟨hs, n, ?_⟩
  obtain ⟨a, len, cap, rfl⟩ := hs
  exact h
theorem cell_string {t : TypeId} {n : Nat} {c : Value} {y : DataW H × List MemPlace} (ht : P.underlying t = some .string) (h : DataW.trod enc P w base spare held n t [c] = some y) : ∃ s, c = .string s := by
  obtain ⟨s, e, _⟩ := DataW.trod_string ht h
  simp at e; exact ⟨s, e⟩
theorem cell_int {t : TypeId} {k : IntKind} {n : Nat} {c : Value} {y : DataW H × List MemPlace} (ht : P.underlying t = some (.int k)) (h : DataW.trod enc P w base spare held n t [c] = some y) : ∃ z, c = .int k z ∧ (Lit.int k z).wf = true := by
  obtain ⟨s, e, _, hw⟩ := DataW.trod_int ht h
  simp at e; exact ⟨s, e, hw⟩
/-- What a struct's parts weigh. -/
theorem reach_fields {t : TypeId} {fs : Array Field} {parts : List (DataW H)} {ts : List TypeId} {ds : List (DataW H)} {j : Nat} (hz : (DataW.weightsEach P ts ds).all (· ≤ reachBytes) = true) (h1 : ts[j]? = some t) (h2 : ds[j]? = some (.agg parts)) (hs : P.underlying t = some (.struct fs)) :
    (DataW.weightsEach P (fs.toList.map (·.type)) parts).all (· ≤ reachBytes) = true := by
  refine List.all_eq_true.2 fun n hn => ?_
  exact List.all_eq_true.1 hz n (DataW.weights_mem_each h1 h2 n (by simp only [DataW.weights, hs]; exact hn))
end
end Go.KK

/- The text K40. -/
/-!
  The middle of two ints by way of uint.
-/
set_option linter.unusedVariables false
set_option linter.unusedSimpArgs false
namespace Go.KK
section
variable {P : Program} {F : Fr} {L : List Asn} {dst : Option Tmp} {ty : TypeId} {pos : String} {aft : Array Edge} {gd : Option (Nat × Bool)}
class IntT (P : Program) (t : Nat) (k : outParam IntKind) : Prop where
  out : P.underlying t = some (.int k)
end
end Go.KK
namespace Go.KK
end Go.KK

/- The text K41. -/
set_option linter.unusedVariables false
set_option linter.unusedSimpArgs false
namespace Go.KK
section
variable {P : Program} {F : Fr} {L : List Asn} {dst : Option Tmp} {ty : TypeId} {pos : String} {aft : Array Edge} {gd : Option (Nat × Bool)}
/-- The part of a slice up to a place, with no room behind it. -/
theorem Pur.slice0m {t e m by_ : Nat} {z : Value} [ha : SlT P t e m by_ z] {x y y2 : Operand} {kd kd2 : IntKind} {a : Option Addr} {n cap h mx : Nat} {i j : Int}
    (hx : ev F x = some (.slice a n cap)) (hy : ev F y = some (.int kd i)) (hy2 : ev F y2 = some (.int kd2 j)) (hi : i = (h : Int)) (hj : j = (mx : Int)) (h2 : h ≤ mx) (h3 : mx ≤ cap) :
    Pur P F L ⟨dst, .slice t x none (some y) (some y2), ty, pos, aft, gd⟩ (.slice a h mx) := fun ρ w hρ _ => by
  subst hi; subst hj
  obtain ⟨i', hu, hi', hz', rfl, rfl, _⟩ := sltB_spec ha.out
  have hsz : (sizeOf e).run P w = .ok i'.size w := run_sizeOf_of (by simp [hi'])
  have hb0 : (Instr.sliceBound (ρ y2) cap .slice3Acap).run P w = .ok mx w := by
    have : (mx : Int) ≤ cap := by omega
    simp [Instr.sliceBound, hρ _ _ hy2, asIntOf, this, go_sem]
  have hb1 : (Instr.sliceBound (ρ y) mx .slice3B).run P w = .ok h w := by
    have : (h : Int) ≤ mx := by omega
    simp [Instr.sliceBound, hρ _ _ hy, asIntOf, this, go_sem]
  have e : (if mx = 0 then a else a.map (·.add 0)) = a := by
    split
    · rfl
    · cases a with
      | none => rfl
      | some p => simp [Addr.add]
  simp [execOp, Instr.sliceAt, Instr.slice, Instr.sliceBounds, hρ _ _ hx, hu, underlying, hsz, hb0, hb1, go_sem]
  try exact e
end
end Go.KK

/- The text K42. -/
set_option linter.unusedVariables false
set_option linter.unusedSimpArgs false
set_option linter.unusedSectionVars false
namespace Go.KK
/-! Assertions, one for each pair of two lists. -/
section
variable {ρ κ : Type} {A : ρ → κ → Asn}
theorem zw_get {rs : List ρ} {cs : List κ} {i : Nat} {r : ρ} {c : κ} (h1 : rs[i]? = some r) (h2 : cs[i]? = some c) : (List.zipWith A rs cs)[i]? = some (A r c) := by
  rw [List.getElem?_zipWith, h1, h2]
theorem zw_set {rs : List ρ} {cs : List κ} {i : Nat} {r' : ρ} {c' : κ} : (List.zipWith A rs cs).set i (A r' c') = List.zipWith A (rs.set i r') (cs.set i c') := by
  apply List.ext_getElem?
  intro j
  rw [List.getElem?_set, List.getElem?_zipWith, List.getElem?_zipWith, List.getElem?_set, List.getElem?_set, List.length_zipWith]
  by_cases hij : i = j
  · subst hij
    rw [if_pos rfl, if_pos rfl, if_pos rfl]
    by_cases h1 : i < rs.length
    · by_cases h2 : i < cs.length
      · rw [if_pos (by omega), if_pos h1, if_pos h2]
      · rw [if_neg (by omega), if_pos h1, if_neg h2]
    · rw [if_neg (by omega), if_neg h1]
  · rw [if_neg hij, if_neg hij, if_neg hij]
/-- All but one. -/
def zwBut (A : ρ → κ → Asn) (i : Nat) (rs : List ρ) (cs : List κ) : Asn := star ((List.zipWith A rs cs).eraseIdx i)
theorem zw_open {rs : List ρ} {cs : List κ} {i : Nat} {r : ρ} {c : κ} {L : List Asn} {h : Hp} (h1 : rs[i]? = some r) (h2 : cs[i]? = some c) (s : Sat h (star (List.zipWith A rs cs) :: L)) : Sat h (A r c :: zwBut A i rs cs :: L) := by
  have s2 := (Sat.star.1 s).perm ((perm_erase (zw_get (A := A) h1 h2)).append_right L)
  obtain ⟨k1, k2, d, l1, l2, a, s3⟩ := s2
  exact ⟨k1, k2, d, l1, l2, a, Sat.star.2 s3⟩
theorem zw_put {rs : List ρ} {cs : List κ} {i : Nat} {r r' : ρ} {c c' : κ} {L : List Asn} {h : Hp} (h1 : rs[i]? = some r) (h2 : cs[i]? = some c) (s : Sat h (A r' c' :: zwBut A i rs cs :: L)) : Sat h (star (List.zipWith A (rs.set i r') (cs.set i c')) :: L) := by
  obtain ⟨k1, k2, d, l1, l2, a, s3⟩ := s
  have s4 : Sat h (A r' c' :: ((List.zipWith A rs cs).eraseIdx i ++ L)) := ⟨k1, k2, d, l1, l2, a, Sat.star.1 s3⟩
  refine Sat.star.2 ?_
  rw [← zw_set]
  exact s4.perm ((perm_set (zw_get (A := A) h1 h2)).append_right L).symm
theorem zw_snoc {rs : List ρ} {cs : List κ} {r : ρ} {c : κ} {L : List Asn} {h : Hp} (hl : rs.length = cs.length) (s : Sat h (A r c :: star (List.zipWith A rs cs) :: L)) : Sat h (star (List.zipWith A (rs ++ [r]) (cs ++ [c])) :: L) := by
  refine Sat.star.2 ?_
  rw [List.zipWith_append hl, List.append_assoc]
  obtain ⟨k1, k2, d, l1, l2, a, s3⟩ := s
  have s4 : Sat h (A r c :: (List.zipWith A rs cs ++ L)) := ⟨k1, k2, d, l1, l2, a, Sat.star.1 s3⟩
  refine s4.perm ?_
  exact List.perm_middle.symm
theorem zw_nil {L : List Asn} {h : Hp} (s : Sat h L) : Sat h (star (List.zipWith A [] []) :: L) := Sat.star.2 s
end
end Go.KK

/- The text K43. -/
set_option linter.unusedVariables false
set_option linter.unusedSimpArgs false
namespace Go.KK
section
variable {P : Program} {F : Fr} {L : List Asn} {dst : Option Tmp} {ty : TypeId} {pos : String} {aft : Array Edge} {gd : Option (Nat × Bool)}
theorem bits_and (a b : Nat) (h : a < 2 ^ 62) (h2 : b < 2 ^ 62) : bits .and .i64 (a : Int) (b : Int) = ((a &&& b : Nat) : Int) := by
  unfold bits
  have e1 : (BitVec.ofInt IntKind.i64.bits (a : Int)) = BitVec.ofNat 64 a := BitVec.ofInt_natCast 64 a
  have e2 : (BitVec.ofInt IntKind.i64.bits (b : Int)) = BitVec.ofNat 64 b := BitVec.ofInt_natCast 64 b
  simp only [e1, e2]
  show IntKind.i64.wrap ((BitVec.ofNat 64 a &&& BitVec.ofNat 64 b).toNat : Int) = _
  have hle : a &&& b ≤ a := Nat.and_le_left
  rw [BitVec.toNat_and, BitVec.toNat_ofNat, BitVec.toNat_ofNat, Nat.mod_eq_of_lt (by omega : a < 2 ^ 64), Nat.mod_eq_of_lt (by omega : b < 2 ^ 64)]
  exact wr64 (by omega)
theorem Pur.andN {t t' : Nat} {x y : Operand} {a b : Nat} {i j : Int} (hx : ev F x = some (.int .i64 i)) (hy : ev F y = some (.int .i64 j)) (hi : i = (a : Int)) (hj : j = (b : Int)) (ha : a < 2 ^ 62) (hb : b < 2 ^ 62) :
    Pur P F L ⟨dst, .binOp .and t x y t', ty, pos, aft, gd⟩ (.int .i64 ((a &&& b : Nat) : Int)) := fun ρ w hρ _ => by
  subst hi; subst hj
  have h1 := bits_and a b ha hb
  simp [execOp, hρ _ _ hx, hρ _ _ hy, eqGuard, binOp_and, intBits_and, h1, go_sem]
end
end Go.KK

/- The text K44. -/
set_option linter.unusedVariables false
/-! Slices that are cut in front of what their row still has; orders of a drawn region that meet. -/
namespace Go.KK
@[irreducible] def slQ {α : Type} (E : Enc α) (a : Option Addr) (cap : Nat) (xs : List α) : Asn := fun h =>
  sl E a cap xs h ∨ (a ≠ none ∧ cap = xs.length ∧ ∃ z : Nat × List α, sl E a z.1 (xs ++ z.2) h)
section
variable {α : Type} {E : Enc α} {a : Option Addr} {cap : Nat} {xs : List α} {L : List Asn}
theorem slQ_of {h : Hp} (s : sl E a cap xs h) : slQ E a cap xs h := by unfold slQ; exact .inl s
theorem slQ_full {h : Hp} {c : Nat} {zs : List α} (ha : a ≠ none) (s : sl E a c (xs ++ zs) h) : slQ E a xs.length xs h := by unfold slQ; exact .inr ⟨ha, rfl, (c, zs), s⟩
theorem slQ_cases {h : Hp} (hs : Sat h (slQ E a cap xs :: L)) : Sat h (sl E a cap xs :: L) ∨ (a ≠ none ∧ cap = xs.length ∧ ∃ c zs, Sat h (sl E a c (xs ++ zs) :: L)) := by
  obtain ⟨h1, h2, hd, l1, l2, hA, hL⟩ := hs
  unfold slQ at hA
  rcases hA with hA | ⟨g1, g2, z, hA⟩
  · exact .inl ⟨h1, h2, hd, l1, l2, hA, hL⟩
  · exact .inr ⟨g1, g2, z.1, z.2, h1, h2, hd, l1, l2, hA, hL⟩
theorem SlIn.pre {L M : List Asn} (h : SlIn E M a xs) (hs : ∀ h, Sat h L → Sat h M) : SlIn E L a xs := ⟨fun hh s => h.out hh (hs hh s)⟩
theorem SlIn.left {zs : List α} (h : SlIn E L a (xs ++ zs)) : SlIn E L a xs := by
  have h1 := h.takeN xs.length
  rwa [List.take_left] at h1
instance (priority := 1100) SlIn.slQ : SlIn E (slQ E a cap xs :: L) a xs := ⟨fun hh s => by
  rcases slQ_cases s with g | ⟨_, _, c, zs, g⟩
  · exact (inferInstance : SlIn E (sl E a cap xs :: L) a xs).out hh g
  · exact (SlIn.left (inferInstance : SlIn E (sl E a c (xs ++ zs) :: L) a (xs ++ zs))).out hh g⟩
theorem slQ_le {h : Hp} (hs : Sat h (slQ E a cap xs :: L)) : xs.length ≤ cap ∧ (xs ≠ [] → a ≠ none) := by
  rcases slQ_cases hs with g | ⟨g1, g2, _⟩
  · obtain ⟨h1, _, g⟩ := g.head
    rcases sl_iff.1 g with ⟨_, _, rfl⟩ | ⟨b, sp, rfl, q, _⟩
    · exact ⟨Nat.zero_le _, fun e => absurd rfl e⟩
    · exact ⟨q, fun _ e => by cases e⟩
  · exact ⟨by omega, fun _ => g1⟩
end
section
variable {P : Program} {F : Fr} {L : List Asn} {o : Oper}
theorem Eff.mono {Q Q' : Value → List Asn → Prop} (h : Eff P F L o Q) (hq : ∀ v M, Q v M → ∃ M', Q' v M' ∧ ∀ h, Sat h M → Sat h M') : Eff P F L o Q' := fun act w ht hρ hs next Qx hn =>
  h act w ht hρ hs next Qx fun v w' L' a b c => let ⟨M', d, e⟩ := hq v L' a; hn v w' M' d (e _ b) c
theorem Eff.pre {M : List Asn} {Q : Value → List Asn → Prop} (hs : ∀ h, Sat h L → Sat h M) (h : Eff P F M o Q) : Eff P F L o Q := fun act w ht hρ s => h act w ht hρ (hs _ s)
theorem Eff.slq {α : Type} {E : Enc α} {a : Option Addr} {cap : Nat} {xs : List α} {Q : Value → List Asn → Prop} (h1 : Eff P F (sl E a cap xs :: L) o Q) (h2 : ∀ c zs, a ≠ none → cap = xs.length → Eff P F (sl E a c (xs ++ zs) :: L) o Q) : Eff P F (slQ E a cap xs :: L) o Q := fun act w ht hρ hs => by
  rcases slQ_cases hs with g | ⟨g1, g2, c, zs, g⟩
  · exact h1 act w ht hρ g
  · exact h2 c zs g1 g2 act w ht hρ g
end
section
variable {P : Program} {F : Fr} {L : List Asn} {dst : Option Tmp} {ty : TypeId} {pos : String} {aft : Array Edge} {gd : Option (Nat × Bool)}
/-- append to a slice without room, told in both cases. -/
theorem Eff.appendFull2 {α : Type} {E : Enc α} {t e m by_ : Nat} {z : Value} [ha : SlT P t e m by_ z] {s x : Operand} {a a2 : Option Addr} {k n2 cap2 : Nat} {xs ys : List α}
    (hs : ev F s = some (.slice a k k)) (hx : ev F x = some (.slice a2 n2 cap2)) (ho : SlIn E L a xs) (hi : SlIn E L a2 ys) (hT : E.T = e) (hm : E.m = m) (hk : k = xs.length) (hn2 : n2 = ys.length) (hane : a ≠ none)
    (hsmall : (xs.length + ys.length) * by_ ≤ 140737488355328) (hmax : xs.length + ys.length ≤ 140737488355328) :
    Eff P F L ⟨dst, .call ⟨.builtin .append, #[s, x], #[t, t]⟩, ty, pos, aft, gd⟩ (fun u M => (ys = [] ∧ u = .slice a xs.length xs.length ∧ M = L) ∨ (ys ≠ [] ∧ ∃ a' c', u = .slice a' (xs.length + ys.length) c' ∧ M = sl E a' c' (xs ++ ys) :: L)) := Eff.of_run fun ρ w hρ hw => by
  obtain ⟨i', hu, hi', hz', rfl, rfl, hzc⟩ := sltB_spec ha.out
  subst hT; subst hk; subst hn2
  have hex : ∀ v w', (Builtin.append_ #[t, t] ty #[.slice a xs.length xs.length, .slice a2 ys.length cap2]).run P w = .ok v w' → (execOp ρ ⟨dst, .call ⟨.builtin .append, #[s, x], #[t, t]⟩, ty, pos, aft, gd⟩).run P w = .ok (.value v) w' := by
    intro v w' h
    unfold execOp
    simp only [resolve, invoke, builtin, Sem.run_bind, Sem.run_pure, Result.andThen_ok, List.map_toArray, List.map_cons, List.map_nil, hρ _ _ hs, hρ _ _ hx, h]
  have cells : ∀ {p : Addr} {zs : List α}, SlIn E L (some p) zs → ∀ j u, (E.all zs)[j]? = some u → w.cell? (p.add j) = some u := fun {p zs} hz j u hj => by
    rcases hz.out _ hw with h0 | ⟨b, off, C, T, fz, hp, hb, hc⟩
    · subst h0; simp [Enc.all] at hj
    · cases hp
      have := hc j u hj
      rw [cell?_eq]
      have e : (⟨b, off, none⟩ : Addr).add j = ⟨b, off + j, none⟩ := by unfold Addr.add; split <;> simp_all
      rw [e]
      simp [cellH, hb, this]
  by_cases h0 : ys = []
  · subst h0
    have hsrc : Src P i'.size t (.slice a2 0 cap2) 0 [] w := by
      cases a2 with
      | none => exact Src.ofNil w hu cap2
      | some p => exact Src.ofSlice w hu p 0 cap2 [] (by simp) (fun j u hj => by simp at hj) (fun u hu => by simp at hu)
    have hr := run_append_nothing (P := P) w t t ty E.T i' hu hi' a xs.length xs.length (Nat.le_refl _) (.slice a2 0 cap2) hsrc
    exact ⟨_, _, _, hex _ _ hr, .inl ⟨rfl, rfl, rfl⟩, rfl, hw⟩
  · have hyl : 0 < ys.length := List.length_pos_iff.2 h0
    cases a with
    | none => exact absurd rfl hane
    | some p =>
      cases a2 with
      | none => rcases hi.out _ hw with g | ⟨_, _, _, _, _, g, _⟩; exact absurd g h0; cases g
      | some q =>
        have hr := run_append_grow (P := P) w t ty E.T i' z hu hi' hz' p xs.length xs.length (E.all xs) (by rw [E.all_len, hm]) (cells ho) q ys.length cap2 (E.all ys) (by rw [E.all_len, hm]) (cells hi) (by omega) (by omega) (growslice_fits (by omega) hsmall)
        have hcm := grownCap_le_maxLen w (xs.length + ys.length) xs.length E.T (by unfold maxLen; omega)
        have hcl : xs.length + ys.length ≤ grownCap w (xs.length + ys.length) xs.length E.T := by unfold grownCap Question.cut; simp
        refine ⟨_, _, _, hex _ _ hr, .inr ⟨h0, some ⟨w.heap.size, 0, none⟩, grownCap w (xs.length + ys.length) xs.length E.T, rfl, rfl⟩, rfl, ?_⟩
        have hpush : ∀ o, hp (w.drew.alloc o) = Hp.upd (hp w) w.heap.size o := fun o => hp_push w o
        rw [hpush]
        refine (Sat.new (hp_size w) hw).cons_imp (fun h hh => ?_) (fun _ h => h)
        rw [blk_iff] at hh
        refine sl_iff.2 (.inr ⟨w.heap.size, (Builtin.zeroCells z.cells (grownCap w (xs.length + ys.length) xs.length E.T - (xs.length + ys.length))).toList, rfl, by rw [List.length_append]; exact hcl, hcm, ?_, ?_⟩)
        · rw [Array.length_toList]; unfold Builtin.zeroCells; simp [hzc, hm]
        · rw [hh]
          congr 2
          apply Array.ext'
          simp [E.all_append]
/-- append of something, whether there is room or not. -/
theorem Eff.appendQ {α : Type} {E : Enc α} {t e m by_ : Nat} {z : Value} [ha : SlT P t e m by_ z] {s x : Operand} {a a2 : Option Addr} {n cap n2 cap2 : Nat} {xs ys : List α}
    (hs : ev F s = some (.slice a n cap)) (hx : ev F x = some (.slice a2 n2 cap2)) (hi : SlIn E (slQ E a cap xs :: L) a2 ys) (hT : E.T = e) (hm : E.m = m) (hn : n = xs.length) (hn2 : n2 = ys.length) (hy : ys ≠ [])
    (hpos : 0 < m) (hsmall : (xs.length + ys.length) * by_ ≤ 140737488355328) (hmax : xs.length + ys.length ≤ 140737488355328) (hnil : a2 = none → n2 = 0 ∧ cap2 = 0) :
    Eff P F (slQ E a cap xs :: L) ⟨dst, .call ⟨.builtin .append, #[s, x], #[t, t]⟩, ty, pos, aft, gd⟩ (fun u M => ∃ a' cap', u = .slice a' (xs.length + ys.length) cap' ∧ M = slQ E a' cap' (xs ++ ys) :: L) := by
  refine Eff.slq ?_ fun c zs hane hc => ?_
  · have hi2 : SlIn E (sl E a cap xs :: L) a2 ys := hi.pre fun _ s => s.cons_imp (fun _ k => slQ_of k) (fun _ k => k)
    refine (Eff.append (L := sl E a cap xs :: L) (xs := xs) (ys := ys) hs hx hT hm hn hn2 hpos hsmall hmax hnil).mono fun v M ⟨a', c', h1, h2⟩ => ⟨_, ⟨a', c', h1, rfl⟩, fun h s => ?_⟩
    rw [h2] at s
    exact s.cons_imp (fun _ k => slQ_of k) (fun _ k => k)
  · subst hc; subst hn
    have hi2 : SlIn E (sl E a c (xs ++ zs) :: L) a2 ys := hi.pre fun _ s => s.cons_imp (fun _ k => slQ_full hane k) (fun _ k => k)
    refine (Eff.appendFull2 (L := sl E a c (xs ++ zs) :: L) (xs := xs) (ys := ys) hs hx (SlIn.left inferInstance) hi2 hT hm rfl hn2 hane hsmall hmax).mono fun v M hq => ?_
    rcases hq with ⟨h1, _⟩ | ⟨_, a', c', h1, h2⟩
    · exact absurd h1 hy
    · refine ⟨_, ⟨a', c', h1, rfl⟩, fun h s => ?_⟩
      rw [h2] at s
      exact s.cons_imp (fun _ k => slQ_of k) (fun _ k => k.tail)
/-- One is taken out: append(s[:k:k], s[k+1:]...). -/
theorem Eff.deleteQ {α : Type} {E : Enc α} {t e m by_ : Nat} {z : Value} [ha : SlT P t e m by_ z] {s x : Operand} {a : Option Addr} {k n cap cap2 : Nat} {xs : List α}
    (hs : ev F s = some (.slice a k k)) (hx : ev F x = some (.slice (tailA a cap (k + 1) m) (n - (k + 1)) cap2)) (hT : E.T = e) (hm : E.m = m) (hn : n = xs.length) (hk : k < n)
    (hsmall : xs.length * by_ ≤ 140737488355328) (hmax : xs.length ≤ 140737488355328) :
    Eff P F (slQ E a cap xs :: L) ⟨dst, .call ⟨.builtin .append, #[s, x], #[t, t]⟩, ty, pos, aft, gd⟩ (fun u M => ∃ a' cap', u = .slice a' (xs.take k ++ xs.drop (k + 1)).length cap' ∧ M = slQ E a' cap' (xs.take k ++ xs.drop (k + 1)) :: L) := by
  subst hn
  have hx0 : xs ≠ [] := fun e => by subst e; exact absurd hk (Nat.not_lt_zero _)
  have hlt : (xs.take k).length = k := by rw [List.length_take]; omega
  have hld : (xs.drop (k + 1)).length = xs.length - (k + 1) := by rw [List.length_drop]
  have hall : ∀ {M : List Asn} {c : Nat} {zs : List α}, a ≠ none → (cap = k + 1 → xs.length ≤ k + 1) → SlIn E (sl E a c (xs ++ zs) :: L) a (xs ++ zs) → Eff P F (sl E a c (xs ++ zs) :: L) ⟨dst, .call ⟨.builtin .append, #[s, x], #[t, t]⟩, ty, pos, aft, gd⟩ (fun u M => ∃ a' cap', u = .slice a' (xs.take k ++ xs.drop (k + 1)).length cap' ∧ M = slQ E a' cap' (xs.take k ++ xs.drop (k + 1)) :: L) := by
    intro M c zs hane hcap hin
    have h1 : SlIn E (sl E a c (xs ++ zs) :: L) a (xs.take k) := (SlIn.left hin).takeN k
    have h2 : SlIn E (sl E a c (xs ++ zs) :: L) (tailA a cap (k + 1) m) (xs.drop (k + 1)) := SlIn.dropN (SlIn.left hin) hm (k + 1) hcap
    have hle : (xs.take k).length + (xs.drop (k + 1)).length ≤ xs.length := by omega
    have hsm : ((xs.take k).length + (xs.drop (k + 1)).length) * by_ ≤ 140737488355328 := Nat.le_trans (Nat.mul_le_mul_right _ hle) hsmall
    refine (Eff.appendFull2 (L := sl E a c (xs ++ zs) :: L) (xs := xs.take k) (ys := xs.drop (k + 1)) hs hx h1 h2 hT hm hlt.symm hld.symm hane hsm (by omega)).mono fun v M hq => ?_
    rcases hq with ⟨e1, e2, e3⟩ | ⟨e1, a', c', e2, e3⟩
    · refine ⟨_, ⟨a, (xs.take k).length, ?_, rfl⟩, fun h s => ?_⟩
      · rw [e2, e1, List.append_nil]
      · rw [e3] at s
        refine s.cons_imp (fun h hA => ?_) (fun _ k => k)
        rw [e1, List.append_nil]
        refine slQ_full (c := c) (zs := xs.drop k ++ zs) hane ?_
        rw [← List.append_assoc, List.take_append_drop]; exact hA
    · refine ⟨_, ⟨a', c', ?_, rfl⟩, fun h s => ?_⟩
      · rw [e2, List.length_append]
      · rw [e3] at s
        exact s.cons_imp (fun _ k => slQ_of k) (fun _ k => k.tail)
  refine fun act w ht hρ hs2 => ?_
  obtain ⟨q1, q2⟩ := slQ_le hs2
  exact (Eff.slq (P := P) (F := F) (L := L) (E := E) (a := a) (cap := cap) (xs := xs)
    (by have h := hall (M := []) (c := cap) (zs := []) (q2 hx0) (fun e => by omega) inferInstance; rw [List.append_nil] at h; exact h)
    (fun c zs g1 g2 => hall (M := []) g1 (fun e => by omega) inferInstance)) act w ht hρ hs2
theorem Eff.rep {A : Asn} {f : Asn → List Asn} {o : Oper} (hr : ∀ B, Rep A B L (f B)) {Q : Value → Asn → Prop} (h : ∀ R, (∀ h, Sat h (A :: R) → Sat h L) → Eff P F (A :: R) o (fun u M => ∃ B, Q u B ∧ M = B :: R)) : Eff P F L o (fun u M => ∃ B, Q u B ∧ M = f B) := by
  obtain ⟨R, p1, _⟩ := (hr A).perm
  refine ((h R fun _ s => s.perm p1.symm).pre fun _ s => s.perm p1).mono fun v M ⟨B, hq, hM⟩ => ⟨_, ⟨B, hq, rfl⟩, fun hh s => ?_⟩
  obtain ⟨R2, p2, p3⟩ := (hr B).perm
  have p4 : R.Perm R2 := (List.perm_cons A).1 (p1.symm.trans p2)
  rw [hM] at s
  exact s.perm ((p4.cons B).trans p3.symm)
class SlQH {α : outParam Type} (E : outParam (Enc α)) (L : List Asn) (a : Option Addr) (cap : outParam Nat) (xs : outParam (List α)) (f : outParam (Asn → List Asn)) : Prop where
  out : ∀ B, Rep (slQ E a cap xs) B L (f B)
instance SlQH.head {α : Type} {E : Enc α} {L : List Asn} {a : Option Addr} {cap : Nat} {xs : List α} : SlQH E (slQ E a cap xs :: L) a cap xs (fun B => B :: L) := ⟨fun _ => .head⟩
instance (priority := 900) SlQH.tail {α : Type} {E : Enc α} {A : Asn} {L : List Asn} {a : Option Addr} {cap : Nat} {xs : List α} {f : Asn → List Asn} [h : SlQH E L a cap xs f] : SlQH E (A :: L) a cap xs (fun B => A :: f B) := ⟨fun B => .tail (h.out B)⟩
theorem Eff.appendH {α : Type} {E : Enc α} {t e m by_ : Nat} {z : Value} [ha : SlT P t e m by_ z] {s x : Operand} {a a2 : Option Addr} {n cap n2 cap2 : Nat} {xs ys : List α} {f : Asn → List Asn}
    (hs : ev F s = some (.slice a n cap)) (hx : ev F x = some (.slice a2 n2 cap2)) [hh : SlQH E L a cap xs f] [hi : SlIn E L a2 ys] (hT : E.T = e) (hm : E.m = m) (hn : n = xs.length) (hn2 : n2 = ys.length) (hy : ys ≠ [])
    (hpos : 0 < m) (hsmall : (xs.length + ys.length) * by_ ≤ 140737488355328) (hmax : xs.length + ys.length ≤ 140737488355328) (hnil : a2 = none → n2 = 0 ∧ cap2 = 0) :
    Eff P F L ⟨dst, .call ⟨.builtin .append, #[s, x], #[t, t]⟩, ty, pos, aft, gd⟩ (fun u M => ∃ a' cap', u = .slice a' (xs.length + ys.length) cap' ∧ M = f (slQ E a' cap' (xs ++ ys))) :=
  (Eff.rep hh.out (Q := fun u B => ∃ a' cap', u = .slice a' (xs.length + ys.length) cap' ∧ B = slQ E a' cap' (xs ++ ys)) fun R hR =>
    (Eff.appendQ hs hx (hi.pre hR) hT hm hn hn2 hy hpos hsmall hmax hnil).mono fun v M ⟨a', c', h1, h2⟩ => ⟨M, ⟨_, ⟨a', c', h1, rfl⟩, h2⟩, fun _ s => s⟩).mono fun v M ⟨B, ⟨a', c', h1, h2⟩, h3⟩ => ⟨M, ⟨a', c', h1, by rw [h3, h2]⟩, fun _ s => s⟩
theorem Eff.deleteH {α : Type} {E : Enc α} {t e m by_ : Nat} {z : Value} [ha : SlT P t e m by_ z] {s x : Operand} {a : Option Addr} {k n cap cap2 : Nat} {xs : List α} {f : Asn → List Asn}
    (hs : ev F s = some (.slice a k k)) (hx : ev F x = some (.slice (tailA a cap (k + 1) m) (n - (k + 1)) cap2)) [hh : SlQH E L a cap xs f] (hT : E.T = e) (hm : E.m = m) (hn : n = xs.length) (hk : k < n)
    (hsmall : xs.length * by_ ≤ 140737488355328) (hmax : xs.length ≤ 140737488355328) :
    Eff P F L ⟨dst, .call ⟨.builtin .append, #[s, x], #[t, t]⟩, ty, pos, aft, gd⟩ (fun u M => ∃ a' cap', u = .slice a' (xs.take k ++ xs.drop (k + 1)).length cap' ∧ M = f (slQ E a' cap' (xs.take k ++ xs.drop (k + 1)))) :=
  (Eff.rep hh.out (Q := fun u B => ∃ a' cap', u = .slice a' (xs.take k ++ xs.drop (k + 1)).length cap' ∧ B = slQ E a' cap' (xs.take k ++ xs.drop (k + 1))) fun R hR =>
    (Eff.deleteQ hs hx hT hm hn hk hsmall hmax).mono fun v M ⟨a', c', h1, h2⟩ => ⟨M, ⟨_, ⟨a', c', h1, rfl⟩, h2⟩, fun _ s => s⟩).mono fun v M ⟨B, ⟨a', c', h1, h2⟩, h3⟩ => ⟨M, ⟨a', c', h1, by rw [h3, h2]⟩, fun _ s => s⟩
end
section
variable {c : Cx} {F : Fr} {L : List Asn} {k : List Item} {ops : List Oper} {fuel m : Nat} {E : List Nat} {Lk : List Asn}
theorem JM.weaken {G : Fr} {M : List Asn} (hF : Picks F G) (hL : ∀ h, Sat h L → Sat h M) (h : JM c ops E fuel m Lk G M k) : JM c ops E fuel m Lk F L k := fun a w hse hcl hF' hs => h a w hse hcl (hF'.picks hF) (hL _ hs)
theorem JM.cut {ι : Type} {fuel1 m1 : Nat} (I : ι → Fr) (H : ι → List Asn) (h1 : ∀ x, JM c ops E fuel1 m1 Lk (I x) (H x) k) (h2 : (∀ x, JM c ops E fuel1 m1 Lk (I x) (H x) k) → JM c ops E fuel m Lk F L k) : JM c ops E fuel m Lk F L k := h2 h1
end
end Go.KK
