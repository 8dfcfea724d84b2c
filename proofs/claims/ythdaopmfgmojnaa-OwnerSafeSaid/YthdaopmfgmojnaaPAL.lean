/-
  A part of the proof of the claim that this folder bears.
-/
import Derived.Test.YthdaopmfgmojnaaPAK
import Derived.Test.YthdaopmfgmojnaaKC
/- The text ORef1. -/
set_option linter.unusedVariables false
set_option linter.unusedSimpArgs false
namespace Go.Proofs.Ythdaopmfgmojnaa
open Go Go.KK Ow

def sOwned : Str := ⟨#[111, 119, 110, 101, 100]⟩
def sShared : Str := ⟨#[115, 104, 97, 114, 101, 100]⟩
def sBorrowed : Str := ⟨#[98, 111, 114, 114, 111, 119, 101, 100]⟩
def mstr (m : Nat) : Str := if m = 1 then sOwned else if m = 2 then sShared else if m = 3 then sBorrowed else if m = 4 then sRaw else sNone
theorem mstr_owned {m : Nat} (h : m ≤ 4) : mstr m = sOwned ↔ m = 1 := by
  obtain h | h | h | h | h : m = 0 ∨ m = 1 ∨ m = 2 ∨ m = 3 ∨ m = 4 := by omega
  all_goals (subst h; decide)
theorem mstr_shared {m : Nat} (h : m ≤ 4) : mstr m = sShared ↔ m = 2 := by
  obtain h | h | h | h | h : m = 0 ∨ m = 1 ∨ m = 2 ∨ m = 3 ∨ m = 4 := by omega
  all_goals (subst h; decide)
theorem mstr_raw {m : Nat} (h : m ≤ 4) : mstr m = sRaw ↔ m = 4 := by
  obtain h | h | h | h | h : m = 0 ∨ m = 1 ∨ m = 2 ∨ m = 3 ∨ m = 4 := by omega
  all_goals (subst h; decide)
def hE : Enc (Int × Str) := ⟨68, 2, fun p => [.int .i64 p.1, .string p.2], fun _ => rfl, fun s v h => by
  simp only [List.mem_cons, List.not_mem_nil, or_false] at h; rcases h with rfl | rfl <;> rfl⟩
def hv (v : Vr) : Int × Str := ((v.o : Int), mstr v.m)
def hs (vs : List Vr) : List (Int × Str) := vs.map hv
theorem hs_len (vs : List Vr) : (hs vs).length = vs.length := by simp [hs]
theorem hs_get {σ : Sx} {i : Nat} (h : i < σ.vars.length) : (hs σ.vars)[i]? = some (hv (vr σ i)) := by unfold hs; rw [List.getElem?_map, vr_get h]; rfl
theorem hs_set (vs : List Vr) (i : Nat) (v : Vr) : (hs vs).set i (hv v) = hs (vs.set i v) := by unfold hs; rw [List.map_set]
theorem hs_set0 (vs : List Vr) (i : Nat) : (hs vs).set i (0, ⟨#[]⟩) = hs (vs.set i ⟨0, 0⟩) := hs_set vs i ⟨0, 0⟩
def rc (σ : Sx) : List Int := (List.range (σ.alive.length - 1)).map (fun k => if σ.kind.getD (k + 1) 0 = 2 then σ.count.getD (k + 1) 0 else 0)
theorem rc_len (σ : Sx) : (rc σ).length = σ.alive.length - 1 := by simp [rc]
theorem rc_get {σ : Sx} {o : Nat} (h1 : 1 ≤ o) (h2 : o < σ.alive.length) (hk : σ.kind.getD o 0 = 2) : (rc σ)[o - 1]? = some (σ.count.getD o 0) := by
  unfold rc
  rw [List.getElem?_map, List.getElem?_range (by omega)]
  simp only [Option.map_some, show o - 1 + 1 = o by omega, if_pos hk]
theorem rc_set {σ : Sx} {o : Nat} {x : Int} {al : List Bool} {vs : List Vr} {fr : List Nat} (h1 : 1 ≤ o) (h2 : o < σ.alive.length) (hc : σ.count.length = σ.alive.length) (hk : σ.kind.getD o 0 = 2) (ha : al.length = σ.alive.length) : (rc σ).set (o - 1) x = rc ⟨vs, al, σ.count.set o x, fr, σ.kind⟩ := by
  apply List.ext_getElem?
  intro k
  unfold rc
  rw [List.getElem?_set, List.length_map, List.length_range]
  simp only [ha, List.getElem?_map]
  by_cases hk2 : k < σ.alive.length - 1
  · rw [List.getElem?_range hk2]
    simp only [Option.map_some]
    rw [getD_set (by omega)]
    by_cases e : o - 1 = k
    · rw [if_pos e, if_pos (by omega), if_pos (by rw [show k + 1 = o by omega]; exact hk), if_pos (by omega)]
    · rw [if_neg e, if_neg (show ¬ k + 1 = o by omega)]
  · rw [List.getElem?_eq_none (by simp; omega)]
    by_cases e : o - 1 = k
    · omega
    · rw [if_neg e]; rfl
theorem rc_same {σ τ : Sx} (h1 : τ.alive.length = σ.alive.length) (h2 : τ.count = σ.count) (h3 : τ.kind = σ.kind) : rc τ = rc σ := by unfold rc; rw [h1, h2, h3]
theorem tail_set {l : List Bool} {o : Nat} {x : Bool} (h : 1 ≤ o) : l.tail.set (o - 1) x = (l.set o x).tail := by
  obtain ⟨k, rfl⟩ : ∃ k, o = k + 1 := ⟨o - 1, by omega⟩
  cases l <;> simp
theorem rfree_ok {L : List Asn} {b : Nat} {aa ac af : Option Addr} {ca cc cf : Nat} {vs : List (Int × Str)} {al : List Bool} {co : List Int} {fr : List Nat} {n : Nat} (hv8 : vs.length = 8) (h1 : 1 ≤ n) (ho : n ≤ al.length) (hb : al.length ≤ 1000) (hf : fr.length ≤ 1000) :
    CallS Try.prog 65 [.pointer (some ⟨b, 0, none⟩), .int .i64 (n : Int)].toArray (blk b (arr hE vs [.slice aa al.length ca, .slice ac co.length cc, .slice af (fz fr).length cf] 71) :: sl boolE aa ca al :: sl intE ac cc co :: sl intE af cf (fz fr) :: L) (fun v M => ∃ aa' ca' ac' cc' af' cf', v = .tuple #[] ∧ M = blk b (arr hE vs [.slice aa' (al.set (n - 1) false).length ca', .slice ac' co.length cc', .slice af' (fz (fr ++ [n])).length cf'] 71) :: sl boolE aa' ca' (al.set (n - 1) false) :: sl intE ac' cc' co :: sl intE af' cf' (fz (fr ++ [n])) :: L) := by
  have hfl := fz_len fr
  have ho1 : ((n : Int) - 1) = ((n - 1 : Nat) : Int) := by omega
  refine CallS.ent ?_
  refine CallS.enter Try.func65 rfl rfl rfl rfl rfl ?_
  refine J.seq rfl ?_
  refine J.region rfl ?_
  refine JO.pur rfl rfl rfl (Pur.move rfl) ?_
  refine JO.pur rfl rfl rfl (Pur.nilCheck rfl) ?_
  refine JO.pur rfl rfl rfl (Pur.fieldAddr rfl) ?_
  refine JO.pur rfl rfl rfl (Pur.load rfl (CellIn.arrT (n := 16) (k := 0) (by rw [hv8]; rfl) rfl)) ?_
  refine JO.pur rfl rfl rfl (Pur.move rfl) ?_
  refine JO.pur rfl rfl rfl (Pur.sub rfl rfl (wr64 (by omega))) ?_
  refine JO.pur rfl rfl rfl (Pur.idx rfl rfl rfl (by first | rfl | (simp; done) | omega) ho1 (by omega)) ?_
  refine JO.effN rfl rfl (Eff.storeS0 (E := boolE) (z' := false) rfl rfl rfl rfl (getD_get (d := false) (by omega)) .head) ?_
  rintro _ _ ⟨rfl, rfl⟩
  refine JO.nil ?_
  refine J.region rfl ?_
  refine JO.pur rfl rfl rfl (Pur.move rfl) ?_
  refine JO.pur rfl rfl rfl (Pur.move rfl) ?_
  refine JO.pur rfl rfl rfl (Pur.nilCheck rfl) ?_
  refine JO.pur rfl rfl rfl (Pur.fieldAddr rfl) ?_
  refine JO.pur rfl rfl rfl (Pur.load rfl (CellIn.arrT (n := 16) (k := 2) (by rw [hv8]; rfl) rfl)) ?_
  refine JO.pur rfl rfl rfl (Pur.move rfl) ?_
  refine JO.eff rfl rfl rfl (Eff.buildSlice intE [(n : Int)] rfl rfl rfl rfl rfl rfl rfl) ?_
  rintro _ _ ⟨b17, rfl, -, rfl⟩
  refine JO.eff rfl rfl rfl (Eff.append rfl rfl rfl rfl (by first | rfl | omega | (simp; done) | (simp; omega)) (by first | rfl | omega | (simp; done) | (simp; omega)) (by decide) (by first | omega | (simp only [List.length_cons, List.length_nil]; omega) | (simp; omega)) (by first | omega | (simp only [List.length_cons, List.length_nil]; omega) | (simp; omega)) (fun h => by cases h)) ?_
  rintro _ _ ⟨a18, c18, rfl, rfl⟩
  refine JO.pur rfl rfl rfl (Pur.nilCheck rfl) ?_
  refine JO.pur rfl rfl rfl (Pur.fieldAddr rfl) ?_
  refine JO.effN rfl rfl (Eff.storeArrT (n := 16) (k := 2) rfl rfl rfl (by rw [hv8]; rfl) (.tail (.tail .head))) ?_
  rintro _ _ ⟨rfl, rfl⟩
  refine JO.nil ?_
  refine J.fin rfl ?_
  refine ⟨_, _, ⟨aa, ca, ac, cc, a18, c18, rfl, rfl⟩, rfl, fun h s => ?_⟩
  rw [fz_snoc] at s
  simp only [← fz_snoc, List.length_append, List.length_set]
  rw [fz_snoc]
  exact SubC.out h s

section
variable {P : Program} {F : Fr} {L : List Asn} {dst : Option Tmp} {ty : TypeId} {pos : String} {aft : Array Edge} {gd : Option (Nat × Bool)}
theorem Pur.convI {s t : Nat} {j k : IntKind} {x : Operand} {i : Int} (hs : P.underlying s = some (.int j)) (ht : P.underlying t = some (.int k)) (hx : ev F x = some (.int j i)) (hw : k.wrap i = i) : Pur P F L ⟨dst, .convert s t x, ty, pos, aft, gd⟩ (.int k i) := fun ρ w hρ _ => by
  simp [execOp, convert, underlying, hs, ht, hρ _ _ hx, Conv.intToInt, goInt, hw, go_sem]
end
def ixV (s : Str) : Int := if isVarB s = true then (vi s : Int) else -1
theorem index_r_ok {L : List Asn} (s : Str) :
    CallS Try.prog 64 [.string s].toArray L (fun v M => v = .int .i64 (ixV s) ∧ M = L) := by
  refine CallS.enter Try.func64 rfl rfl rfl rfl rfl ?_
  refine J.seq rfl ?_
  refine J.region rfl ?_
  refine JO.pur rfl rfl rfl (Pur.assign rfl) ?_
  refine JO.nil ?_
  refine J.seq rfl ?_
  refine J.seq rfl ?_
  refine J.region rfl ?_
  refine JO.pur rfl rfl rfl (Pur.move rfl) ?_
  refine JO.effR rfl rfl rfl (Eff.call rfl (risVar_ok s)) ?_
  refine JO.pur rfl rfl rfl (Pur.not rfl) ?_
  refine JO.nil ?_
  refine J.splitB 5 rfl (fun h5 => ?_) (fun h5 => ?_)
  · try simp only [decide_eq_true_eq, decide_eq_false_iff_not, Bool.not_eq_true', Bool.not_eq_false', Bool.and_eq_true, Bool.or_eq_true, Bool.and_eq_false_iff, Bool.or_eq_false_iff, Option.isNone_some, Option.isSome_some, Option.isNone_none, Option.isSome_none, Int.not_lt, Int.not_le, beq_iff_eq, beq_eq_false_iff_ne, bne_iff_ne, ne_eq, Bool.not_not, Decidable.not_not] at h5
    have hx : ¬ isVarB s = true := by simpa using h5
    refine J.condT rfl rfl ?_
    refine J.seq rfl ?_
    refine J.region rfl ?_
    refine JO.pur rfl rfl rfl (Pur.assign rfl) ?_
    refine JO.nil ?_
    refine J.ret rfl rfl ?_
    exact ⟨congrArg (Value.int .i64) (by unfold ixV; rw [if_neg hx]), rfl⟩
  · try simp only [decide_eq_true_eq, decide_eq_false_iff_not, Bool.not_eq_true', Bool.not_eq_false', Bool.and_eq_true, Bool.or_eq_true, Bool.and_eq_false_iff, Bool.or_eq_false_iff, Option.isNone_some, Option.isSome_some, Option.isNone_none, Option.isSome_none, Int.not_lt, Int.not_le, beq_iff_eq, beq_eq_false_iff_ne, bne_iff_ne, ne_eq, Bool.not_not, Decidable.not_not] at h5
    have hx : isVarB s = true := by simpa using h5
    obtain ⟨hs1, hs2, hs3⟩ := isVar_b hx
    obtain ⟨hb1, hb2⟩ := size1 hs1
    refine J.condF rfl rfl ?_
    refine J.skip rfl ?_
    refine J.seq rfl ?_
    refine J.region rfl ?_
    refine JO.pur rfl rfl rfl (Pur.move rfl) ?_
    refine JO.pur rfl rfl rfl (Pur.indexT rfl rfl rfl hb1) ?_
    refine JO.pur rfl rfl rfl (Pur.sub (b := 97) rfl rfl (by rw [hb2]; exact wrU8 ⟨by omega, by omega⟩)) ?_
    refine JO.pur rfl rfl rfl (Pur.convI (by kernel_rfl) (by kernel_rfl) rfl (wr64 (by omega))) ?_
    refine JO.pur rfl rfl rfl (Pur.assign rfl) ?_
    refine JO.nil ?_
    refine J.ret rfl rfl ?_
    exact ⟨congrArg (Value.int .i64) (by unfold ixV; rw [if_pos hx, hb2]; unfold vi; omega), rfl⟩

end Go.Proofs.Ythdaopmfgmojnaa

/- The text ORef2. -/
set_option linter.unusedVariables false
set_option linter.unusedSimpArgs false
namespace Go.Proofs.Ythdaopmfgmojnaa
open Go Go.KK Ow

set_option maxRecDepth 10000 in
theorem rdrop_ok {L : List Asn} {b : Nat} {aa ac af : Option Addr} {ca cc cf : Nat} {σ : Sx} {i : Nat} (g : Ow.Good σ) (hi : i < 8) :
    CallS Try.prog 56 [.pointer (some ⟨b, 0, none⟩), .int .i64 (i : Int)].toArray (blk b (arr hE (hs σ.vars) [.slice aa σ.alive.tail.length ca, .slice ac (rc σ).length cc, .slice af (fz σ.freed).length cf] 71) :: sl boolE aa ca σ.alive.tail :: sl intE ac cc (rc σ) :: sl intE af cf (fz σ.freed) :: L) (fun v M => ∃ aa' ca' ac' cc' af' cf', v = .tuple #[] ∧ M = blk b (arr hE (hs (dropS σ i).vars) [.slice aa' (dropS σ i).alive.tail.length ca', .slice ac' (rc (dropS σ i)).length cc', .slice af' (fz (dropS σ i).freed).length cf'] 71) :: sl boolE aa' ca' (dropS σ i).alive.tail :: sl intE ac' cc' (rc (dropS σ i)) :: sl intE af' cf' (fz (dropS σ i).freed) :: L) := by
  have hv8 := g.v8
  have hl : i < σ.vars.length := by omega
  have hn21 := g.n21
  have hn1 := g.n1
  have hfl := freed_le g
  refine CallS.ent ?_
  refine CallS.enter Try.func56 rfl rfl rfl rfl rfl ?_
  refine J.seq rfl ?_
  refine J.region rfl ?_
  refine JO.pur rfl rfl rfl (Pur.move rfl) ?_
  refine JO.pur rfl rfl rfl (Pur.move rfl) ?_
  refine JO.pur rfl rfl rfl (Pur.nilCheck rfl) ?_
  refine JO.pur rfl rfl rfl (Pur.fieldAddr rfl) ?_
  refine JO.pur rfl rfl rfl (Pur.idxV (k := i) rfl rfl rfl (by omega)) ?_
  refine JO.pur rfl rfl rfl (Pur.loadA rfl rfl rfl (CellsIn.arr (E := hE) rfl (hs_get hl))) ?_
  refine JO.eff rfl rfl rfl (Eff.alloc (cs := [_, _]) rfl) ?_
  rintro _ _ ⟨b4, rfl, rfl⟩
  refine JO.effN rfl rfl (Eff.storeBA (cs' := [_, _]) rfl rfl (by rfl) (by rfl) (by rfl)) ?_
  rintro _ _ ⟨rfl, rfl⟩
  refine JO.nil ?_
  refine J.seq rfl ?_
  refine J.region rfl ?_
  refine JO.pur rfl rfl rfl (Pur.move rfl) ?_
  refine JO.pur rfl rfl rfl (Pur.move rfl) ?_
  refine JO.pur rfl rfl rfl (Pur.build (cs := [_, _]) rfl rfl) ?_
  refine JO.pur rfl rfl rfl (Pur.nilCheck rfl) ?_
  refine JO.pur rfl rfl rfl (Pur.fieldAddr rfl) ?_
  refine JO.pur rfl rfl rfl (Pur.idxV (k := i) rfl rfl rfl (by omega)) ?_
  refine JO.effN rfl rfl (Eff.storeArr (E := hE) (z' := (hv ⟨0, 0⟩)) rfl rfl rfl rfl (by rw [hs_len]; exact hl) rfl) ?_
  rintro _ _ ⟨rfl, rfl⟩
  refine JO.nil ?_
  refine J.seq rfl ?_
  refine J.region rfl ?_
  refine JO.pur rfl rfl rfl (Pur.fieldAddr rfl) ?_
  refine JO.pur rfl rfl rfl (Pur.load rfl (CellIn.blk rfl)) ?_
  refine JO.nil ?_
  refine J.block rfl ?_
  refine J.seq rfl ?_
  refine J.region rfl ?_
  refine JO.pur rfl rfl rfl (Pur.eqlT rfl rfl) ?_
  refine JO.pur rfl rfl rfl (Pur.assign rfl) ?_
  refine JO.nil ?_
  refine J.splitB 19 rfl (fun h19 => ?_) (fun h19 => ?_)
  · try simp only [decide_eq_true_eq, decide_eq_false_iff_not, Bool.not_eq_true', Bool.not_eq_false', Bool.and_eq_true, Bool.or_eq_true, Bool.and_eq_false_iff, Bool.or_eq_false_iff, Option.isNone_some, Option.isSome_some, Option.isNone_none, Option.isSome_none, Int.not_lt, Int.not_le, beq_iff_eq, beq_eq_false_iff_ne, bne_iff_ne, ne_eq, Bool.not_not, Decidable.not_not] at h19
    have hm : (vr σ i).m = 1 := (mstr_owned (g.four i)).1 h19
    obtain ⟨ho1, ho2⟩ := g.obj i (by omega)
    refine J.condT rfl rfl ?_
    refine J.region rfl ?_
    refine JO.pur rfl rfl rfl (Pur.move rfl) ?_
    refine JO.pur rfl rfl rfl (Pur.fieldAddr rfl) ?_
    refine JO.pur rfl rfl rfl (Pur.load rfl (CellIn.blk rfl)) ?_
    refine JO.eff rfl rfl rfl (Eff.call rfl (CallS.pre (rfree_ok (aa := aa) (ca := ca) (ac := ac) (cc := cc) (af := af) (cf := cf) (vs := ((hs σ.vars).set i (hv ⟨0, 0⟩))) (al := σ.alive.tail) (co := rc σ) (fr := σ.freed) (n := (vr σ i).o) (L := blk b4 (.cells #[.int .i64 (hv (vr σ i)).1, .string (hv (vr σ i)).2] 68) :: L) (by rw [List.length_set, hs_len]; exact hv8) ho1 (by rw [List.length_tail]; omega) (by rw [List.length_tail]; omega) (by omega)) SubC.out)) ?_
    rintro _ _ ⟨aa1, ca1, ac1, cc1, af1, cf1, rfl, rfl⟩
    refine JO.nil ?_
    refine J.inBlock ?_
    refine J.fin rfl ?_
    have e9 : rc ⟨σ.vars.set i ⟨0, 0⟩, σ.alive.set (vr σ i).o false, σ.count, σ.freed ++ [(vr σ i).o], σ.kind⟩ = rc σ := rc_same (by simp) rfl rfl
    refine ⟨_, _, ⟨aa1, ca1, ac1, cc1, af1, cf1, rfl, rfl⟩, rfl, fun h s => ?_⟩
    rw [drop1 hm]
    rw [hs_set] at s
    rw [e9]
    dsimp only
    rw [← tail_set ho1]
    exact SubC.out h s
  · try simp only [decide_eq_true_eq, decide_eq_false_iff_not, Bool.not_eq_true', Bool.not_eq_false', Bool.and_eq_true, Bool.or_eq_true, Bool.and_eq_false_iff, Bool.or_eq_false_iff, Option.isNone_some, Option.isSome_some, Option.isNone_none, Option.isSome_none, Int.not_lt, Int.not_le, beq_iff_eq, beq_eq_false_iff_ne, bne_iff_ne, ne_eq, Bool.not_not, Decidable.not_not] at h19
    have h8' : ¬ (vr σ i).m = 1 := fun e => h19 ((mstr_owned (g.four i)).2 e)
    refine J.condF rfl rfl ?_
    refine J.seq rfl ?_
    refine J.region rfl ?_
    refine JO.pur rfl rfl rfl (Pur.eqlT rfl rfl) ?_
    refine JO.pur rfl rfl rfl (Pur.assign rfl) ?_
    refine JO.nil ?_
    refine J.splitB 25 rfl (fun h25 => ?_) (fun h25 => ?_)
    · try simp only [decide_eq_true_eq, decide_eq_false_iff_not, Bool.not_eq_true', Bool.not_eq_false', Bool.and_eq_true, Bool.or_eq_true, Bool.and_eq_false_iff, Bool.or_eq_false_iff, Option.isNone_some, Option.isSome_some, Option.isNone_none, Option.isSome_none, Int.not_lt, Int.not_le, beq_iff_eq, beq_eq_false_iff_ne, bne_iff_ne, ne_eq, Bool.not_not, Decidable.not_not] at h25
      have hm : (vr σ i).m = 2 := (mstr_shared (g.four i)).1 h25
      obtain ⟨ho1, ho2⟩ := g.obj i (by omega)
      have hkd := g.shr i hm
      have hcnt := g.cnt _ ho2 hkd
      have hsl := sharers_le g (vr σ i).o
      have hrl := rc_len σ
      have hv1 : (hv (vr σ i)).1 = ((vr σ i).o : Int) := rfl
      have hk1 : (hv (vr σ i)).1 - 1 = (((vr σ i).o - 1 : Nat) : Int) := by rw [hv1]; omega
      have hrg := rc_get ho1 ho2 hkd
      refine J.condT rfl rfl ?_
      refine J.seq rfl ?_
      refine J.mask0 (n := 12) [11] rfl Try.mixed rfl (by kernel_rfl) ?_
      refine JM.take 0 (fun _ h => h) rfl (by kernel_rfl) rfl rfl rfl (m' := 1) rfl (Pur.move rfl) ?_
      refine JM.take 1 (fun _ h => h) rfl (by kernel_rfl) rfl rfl rfl (m' := 3) rfl (Pur.nilCheck rfl) ?_
      refine JM.take 2 (fun _ h => h) rfl (by kernel_rfl) rfl rfl rfl (m' := 7) rfl (Pur.fieldAddr rfl) ?_
      refine JM.take 3 (fun _ h => h) rfl (by kernel_rfl) rfl rfl rfl (m' := 15) rfl (Pur.load rfl (CellIn.arrT (n := 16) (k := 1) (by first | (rw [hs_len, hv8]; rfl) | (rw [List.length_set, hs_len, hv8]; rfl)) rfl)) ?_
      refine JM.take 4 (fun _ h => h) rfl (by kernel_rfl) rfl rfl rfl (m' := 31) rfl (Pur.fieldAddr rfl) ?_
      refine JM.take 5 (fun _ h => h) rfl (by kernel_rfl) rfl rfl rfl (m' := 63) rfl (Pur.load rfl (CellIn.blk rfl)) ?_
      refine JM.take 6 (fun _ h => h) rfl (by kernel_rfl) rfl rfl rfl (m' := 127) rfl (Pur.sub rfl rfl (wr64 (by rw [hv1]; omega))) ?_
      refine JM.take 7 (fun _ h => h) rfl (by kernel_rfl) rfl rfl rfl (m' := 255) rfl (Pur.idx rfl rfl rfl (by first | rfl | (simp; done) | omega) hk1 (by omega)) ?_
      refine JM.take 8 (fun _ h => h) rfl (by kernel_rfl) rfl rfl rfl (m' := 511) rfl (Pur.load rfl (CellIn.el0 rfl hrg rfl)) ?_
      refine JM.take 9 (fun _ h => h) rfl (by kernel_rfl) rfl rfl rfl (m' := 1023) rfl (Pur.sub rfl rfl (wr64 (by omega))) ?_
      refine JM.take 10 (fun _ h => h) rfl (by kernel_rfl) rfl rfl rfl (m' := 2047) rfl (Pur.idx rfl rfl rfl (by first | rfl | (simp; done) | omega) hk1 (by omega)) ?_
      refine JM.one (i := 11) (by kernel_rfl) ?_
      refine JMi.effN rfl rfl rfl (m' := 4095) rfl (Eff.storeS0 (E := intE) (z' := _) rfl rfl rfl rfl hrg .head) ?_
      rintro _ _ ⟨rfl, rfl⟩
      refine ⟨.inl (by simp), ?_⟩
      refine JM.done rfl ?_
      refine J.seq rfl ?_
      refine J.mask0 (n := 10) [] rfl Try.mixed rfl (by kernel_rfl) ?_
      refine JM.take 0 (fun _ h => h) rfl (by kernel_rfl) rfl rfl rfl (m' := 1) rfl (Pur.move rfl) ?_
      refine JM.take 1 (fun _ h => h) rfl (by kernel_rfl) rfl rfl rfl (m' := 3) rfl (Pur.nilCheck rfl) ?_
      refine JM.take 2 (fun _ h => h) rfl (by kernel_rfl) rfl rfl rfl (m' := 7) rfl (Pur.fieldAddr rfl) ?_
      refine JM.take 3 (fun _ h => h) rfl (by kernel_rfl) rfl rfl rfl (m' := 15) rfl (Pur.load rfl (CellIn.arrT (n := 16) (k := 1) (by first | (rw [hs_len, hv8]; rfl) | (rw [List.length_set, hs_len, hv8]; rfl)) rfl)) ?_
      refine JM.take 4 (fun _ h => h) rfl (by kernel_rfl) rfl rfl rfl (m' := 31) rfl (Pur.fieldAddr rfl) ?_
      refine JM.take 5 (fun _ h => h) rfl (by kernel_rfl) rfl rfl rfl (m' := 63) rfl (Pur.load rfl (CellIn.blk rfl)) ?_
      refine JM.take 6 (fun _ h => h) rfl (by kernel_rfl) rfl rfl rfl (m' := 127) rfl (Pur.sub rfl rfl (wr64 (by rw [hv1]; omega))) ?_
      refine JM.take 7 (fun _ h => h) rfl (by kernel_rfl) rfl rfl rfl (m' := 255) rfl (Pur.idx rfl rfl rfl (by first | rfl | (simp; done) | omega) hk1 (by rw [List.length_set]; omega)) ?_
      refine JM.take 8 (fun _ h => h) rfl (by kernel_rfl) rfl rfl rfl (m' := 511) rfl (Pur.load rfl (CellIn.el0 rfl (List.getElem?_set_self (by omega)) rfl)) ?_
      refine JM.take 9 (fun _ h => h) rfl (by kernel_rfl) rfl rfl rfl (m' := 1023) rfl (Pur.eqlI rfl rfl) ?_
      refine JM.done rfl ?_
      refine J.splitB 47 rfl (fun h47 => ?_) (fun h47 => ?_)
      · try simp only [decide_eq_true_eq, decide_eq_false_iff_not, Bool.not_eq_true', Bool.not_eq_false', Bool.and_eq_true, Bool.or_eq_true, Bool.and_eq_false_iff, Bool.or_eq_false_iff, Option.isNone_some, Option.isSome_some, Option.isNone_none, Option.isSome_none, Int.not_lt, Int.not_le, beq_iff_eq, beq_eq_false_iff_ne, bne_iff_ne, ne_eq, Bool.not_not, Decidable.not_not] at h47
        refine J.condT rfl rfl ?_
        refine J.region rfl ?_
        refine JO.pur rfl rfl rfl (Pur.move rfl) ?_
        refine JO.pur rfl rfl rfl (Pur.fieldAddr rfl) ?_
        refine JO.pur rfl rfl rfl (Pur.load rfl (CellIn.blk rfl)) ?_
        refine JO.eff rfl rfl rfl (Eff.call rfl (CallS.pre (rfree_ok (aa := aa) (ca := ca) (ac := ac) (cc := cc) (af := af) (cf := cf) (vs := ((hs σ.vars).set i (hv ⟨0, 0⟩))) (al := σ.alive.tail) (co := (rc σ).set ((vr σ i).o - 1) (σ.count.getD (vr σ i).o 0 - 1)) (fr := σ.freed) (n := (vr σ i).o) (L := blk b4 (.cells #[.int .i64 (hv (vr σ i)).1, .string (hv (vr σ i)).2] 68) :: L) (by rw [List.length_set, hs_len]; exact hv8) ho1 (by rw [List.length_tail]; omega) (by rw [List.length_tail]; omega) (by omega)) (fun h s => by rw [List.length_set]; exact SubC.out h s))) ?_
        rintro _ _ ⟨aa1, ca1, ac1, cc1, af1, cf1, rfl, rfl⟩
        refine JO.nil ?_
        refine J.inBlock ?_
        refine J.fin rfl ?_
        have e9 : rc ⟨σ.vars.set i ⟨0, 0⟩, σ.alive.set (vr σ i).o false, σ.count.set (vr σ i).o (σ.count.getD (vr σ i).o 0 - 1), σ.freed ++ [(vr σ i).o], σ.kind⟩ = (rc σ).set ((vr σ i).o - 1) (σ.count.getD (vr σ i).o 0 - 1) := (rc_set ho1 ho2 g.cl hkd (by simp)).symm
        refine ⟨_, _, ⟨aa1, ca1, ac1, cc1, af1, cf1, rfl, rfl⟩, rfl, fun h s => ?_⟩
        rw [drop2 hm h47]
        rw [hs_set] at s
        rw [e9]
        dsimp only
        rw [← tail_set ho1]
        exact SubC.out h s
      · try simp only [decide_eq_true_eq, decide_eq_false_iff_not, Bool.not_eq_true', Bool.not_eq_false', Bool.and_eq_true, Bool.or_eq_true, Bool.and_eq_false_iff, Bool.or_eq_false_iff, Option.isNone_some, Option.isSome_some, Option.isNone_none, Option.isSome_none, Int.not_lt, Int.not_le, beq_iff_eq, beq_eq_false_iff_ne, bne_iff_ne, ne_eq, Bool.not_not, Decidable.not_not] at h47
        refine J.condF rfl rfl ?_
        refine J.skip rfl ?_
        refine J.inBlock ?_
        refine J.fin rfl ?_
        have e9 : rc ⟨σ.vars.set i ⟨0, 0⟩, σ.alive, σ.count.set (vr σ i).o (σ.count.getD (vr σ i).o 0 - 1), σ.freed, σ.kind⟩ = (rc σ).set ((vr σ i).o - 1) (σ.count.getD (vr σ i).o 0 - 1) := (rc_set ho1 ho2 g.cl hkd rfl).symm
        refine ⟨_, _, ⟨aa, ca, ac, cc, af, cf, rfl, rfl⟩, rfl, fun h s => ?_⟩
        rw [drop3 hm h47]
        rw [hs_set] at s
        rw [e9]
        dsimp only
        rw [show ((rc σ).set ((vr σ i).o - 1) (σ.count.getD (vr σ i).o 0 - 1)).length = (rc σ).length by simp]
        exact SubC.out h s
    · try simp only [decide_eq_true_eq, decide_eq_false_iff_not, Bool.not_eq_true', Bool.not_eq_false', Bool.and_eq_true, Bool.or_eq_true, Bool.and_eq_false_iff, Bool.or_eq_false_iff, Option.isNone_some, Option.isSome_some, Option.isNone_none, Option.isSome_none, Int.not_lt, Int.not_le, beq_iff_eq, beq_eq_false_iff_ne, bne_iff_ne, ne_eq, Bool.not_not, Decidable.not_not] at h25
      have h16' : ¬ (vr σ i).m = 2 := fun e => h25 ((mstr_shared (g.four i)).2 e)
      refine J.condF rfl rfl ?_
      refine J.skip rfl ?_
      refine J.inBlock ?_
      refine J.fin rfl ?_
      have e9 : rc ⟨σ.vars.set i ⟨0, 0⟩, σ.alive, σ.count, σ.freed, σ.kind⟩ = rc σ := rc_same rfl rfl rfl
      refine ⟨_, _, ⟨aa, ca, ac, cc, af, cf, rfl, rfl⟩, rfl, fun h s => ?_⟩
      rw [drop0 h8' h16']
      rw [hs_set] at s
      rw [e9]
      dsimp only
      exact SubC.out h s

end Go.Proofs.Ythdaopmfgmojnaa
