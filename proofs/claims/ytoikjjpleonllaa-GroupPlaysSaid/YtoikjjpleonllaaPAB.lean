/-
  A part of the proof of the claim that this folder bears.
-/
import Derived.Test.YtoikjjpleonllaaPAA
/- The text GTree. -/
set_option linter.unusedVariables false
set_option linter.unusedSimpArgs false
/-! Trees, plain. -/
namespace Gr
def rk (n root p : Nat) : Nat := (p + n - root) % n
def parP (n root p : Nat) : Nat := ((rk n root p &&& (rk n root p - 1)) + root) % n
/-- The children at some bits, as long as there are any. -/
def chk (n root r : Nat) : List Nat → List Nat
  | [] => []
  | b :: bs => if r + b < n ∧ r &&& b = 0 then (r + b + root) % n :: chk n root r bs else []
def chP (n root p : Nat) : List Nat := chk n root (rk n root p) [1, 2, 4]
/-- The lowest bit. -/
def low : Nat → Nat → Nat → Nat
  | 0, _, b => b
  | f + 1, r, b => if r &&& b = 0 then low f r (b * 2) else b
def parR (n root p : Nat) : Nat := (rk n root p - low 3 (rk n root p) 1 + root) % n
def chR (n root p : Nat) (k : Nat) : List Nat := ((List.range k).filter fun i => decide (parR n root ((i + 1 + root) % n) = p)).map fun i => (i + 1 + root) % n
theorem par_eq : ∀ n, n < 9 → ∀ root, root < n → ∀ p, p < n → p ≠ root → parP n root p = parR n root p := by decide +kernel
theorem ch_eq : ∀ n, n < 9 → ∀ root, root < n → ∀ p, p < n → chP n root p = chR n root p (n - 1) := by decide +kernel
/-- How many ones a number has. -/
def ones : Nat → Nat → Nat
  | 0, _ => 0
  | f + 1, r => r % 2 + ones f (r / 2)
def depP (n : Nat) : Nat → Nat
  | 0 => 0
  | k + 1 => max (depP n k) (ones 4 k)
/-- How far a place is from the root 0. -/
def far : Nat → Nat → Nat → Nat
  | 0, _, _ => 0
  | f + 1, n, q => if q = 0 then 0 else far f n (parR n 0 q) + 1
def depR (n : Nat) : Nat → Nat
  | 0 => 0
  | k + 1 => max (depR n k) (far 4 n (k + 1))
end Gr
namespace Gr
theorem rk_pos : ∀ n, n < 9 → ∀ root, root < n → ∀ p, p < n → p ≠ root → 1 ≤ rk n root p := by decide +kernel
theorem rk_lt {n root p : Nat} (h : 0 < n) : rk n root p < n := Nat.mod_lt _ h
theorem no_bit : ∀ r, r < 8 → 1 ≤ r → r &&& 1 = 0 → r &&& 2 = 0 → r &&& 4 = 0 → False := by decide
theorem rot_ne : ∀ n, n < 9 → ∀ root, root < n → ∀ k, k + 1 < n → (k + 1 + root) % n ≠ root := by
  intro n hn root hr k hk h
  have : ∀ n, n < 9 → ∀ root, root < n → ∀ k, k < n → k + 1 < n → (k + 1 + root) % n ≠ root := by decide +kernel
  exact this n hn root hr k (by omega) hk h
theorem tmodN (a b : Nat) : Int.tmod (a : Int) (b : Int) = ((a % b : Nat) : Int) := by rw [Int.tmod_eq_emod_of_nonneg (by omega)]; rfl
def tOk (n root q : Int) : Prop := 1 ≤ n ∧ n ≤ 8 ∧ 0 ≤ root ∧ root < n ∧ 0 ≤ q ∧ q < n
instance (n root q : Int) : Decidable (tOk n root q) := inferInstanceAs (Decidable (_ ∧ _))
def parV (n root q : Int) : Int × Int := if tOk n root q ∧ q ≠ root then (((parP n.toNat root.toNat q.toNat : Nat) : Int), 0) else (0, 2)
def natI (l : List Nat) : List Int := l.map fun (x : Nat) => (x : Int)
def chV (n root q : Int) : List Int × Int := if tOk n root q then (natI (chP n.toNat root.toNat q.toNat), 0) else ([], 2)
def bitL : List Nat := [1, 2, 4]
theorem bit_get : ∀ k, k < 3 → bitL[k]? = some (2 ^ k) := by decide
theorem bit_drop : ∀ k, k < 3 → bitL.drop k = 2 ^ k :: bitL.drop (k + 1) := by decide
theorem chk_len (n root r : Nat) : ∀ bs : List Nat, (chk n root r bs).length ≤ bs.length
  | [] => Nat.le_refl _
  | b :: bs => by unfold chk; split; simp only [List.length_cons]; have := chk_len n root r bs; omega; simp
theorem chk_yes {n root r b : Nat} {bs : List Nat} (h1 : r + b < n) (h2 : r &&& b = 0) : chk n root r (b :: bs) = (r + b + root) % n :: chk n root r bs := by
  conv => lhs; unfold chk
  rw [if_pos ⟨h1, h2⟩]
theorem chk_no {n root r b : Nat} {bs : List Nat} (h : ¬ (r + b < n ∧ r &&& b = 0)) : chk n root r (b :: bs) = [] := by
  conv => lhs; unfold chk
  rw [if_neg h]
theorem natI_one (x : Nat) : natI [x] = [(x : Int)] := rfl
theorem natI_app (a b : List Nat) : natI (a ++ b) = natI a ++ natI b := by unfold natI; rw [List.map_append]
theorem chR_succ (n root p k : Nat) : chR n root p (k + 1) = if parR n root ((k + 1 + root) % n) = p then chR n root p k ++ [(k + 1 + root) % n] else chR n root p k := by
  unfold chR
  rw [List.range_succ, List.filter_append, List.map_append]
  by_cases h : parR n root ((k + 1 + root) % n) = p
  · rw [if_pos h, List.filter_cons_of_pos (by simpa using h)]; rfl
  · rw [if_neg h, List.filter_cons_of_neg (by simpa using h)]; simp
theorem chR_len (n root p : Nat) : ∀ k, (chR n root p k).length ≤ k
  | 0 => by simp [chR]
  | k + 1 => by rw [chR_succ]; have := chR_len n root p k; split; rw [List.length_append]; simp; omega; omega
end Gr
namespace Gr
def y1 (x : Nat) : Nat := (x / 2 ^ 1 &&& 6148914691236517205) + (x &&& 6148914691236517205)
def y2 (x : Nat) : Nat := (x / 2 ^ 2 &&& 3689348814741910323) + (x &&& 3689348814741910323)
def y3 (x : Nat) : Nat := (x / 2 ^ 4 + x) &&& 1085102592571150095
def y4 (b x : Nat) : Nat := x + x / 2 ^ b
/-- The sum of a scan's messages. -/
def scm : Nat → Int → Int → Int → Int
  | 0, _, _, a => a
  | f + 1, n, w, a => if w < n then scm f n (w * 2) (a + (n - w)) else a
def depV (n : Int) : Int × Int := if 1 ≤ n ∧ n ≤ 8 then ((depP n.toNat n.toNat : Nat), 0) else (0, 2)
end Gr

/- The text GRep. -/
set_option linter.unusedVariables false
set_option linter.unusedSimpArgs false
/-! How a collective lies in memory. -/
namespace Go.Proofs.Ytoikjjpleonllaa
open Go Go.KK Gr
def intE : Enc Int := ⟨3, 1, fun s => [.int .i64 s], fun _ => rfl, fun s v h => by
  simp only [List.mem_cons, List.not_mem_nil, or_false] at h; rcases h with rfl; rfl⟩
def strE : Enc ByteArray := ⟨9, 1, fun s => [.string s], fun _ => rfl, fun s v h => by
  simp only [List.mem_cons, List.not_mem_nil, or_false] at h; rcases h with rfl; rfl⟩
def memE : Enc (Mm × Nat) := ⟨74, 5, fun p => [.int .i64 p.1.v, .int .i64 (p.1.r : Int), .map (some p.2), .bool p.1.has, .int .i64 p.1.res], fun _ => rfl, fun s v h => by
  simp only [List.mem_cons, List.not_mem_nil, or_false] at h; rcases h with rfl | rfl | rfl | rfl | rfl <;> rfl⟩
def msgE : Enc Ms := ⟨84, 5, fun m => [.int .i64 (m.fr : Int), .int .i64 (m.to : Int), .int .i64 m.v, .bool m.up, .int .i64 (m.rd : Int)], fun _ => rfl, fun s v h => by
  simp only [List.mem_cons, List.not_mem_nil, or_false] at h; rcases h with rfl | rfl | rfl | rfl | rfl <;> rfl⟩
abbrev memV (p : Mm × Nat) : Value := .agg #[.int .i64 p.1.v, .int .i64 (p.1.r : Int), .map (some p.2), .bool p.1.has, .int .i64 p.1.res]
abbrev msgV (m : Ms) : Value := .agg #[.int .i64 (m.fr : Int), .int .i64 (m.to : Int), .int .i64 m.v, .bool m.up, .int .i64 (m.rd : Int)]
def mpA (b : Nat) (m : Mm) : Asn := mp intK b (kvs m.got)
/-- The six cells. -/
abbrev gC (kind op : ByteArray) (root : Int) (am : Option Addr) (n cm : Nat) (af : Option Addr) (k cf : Nat) (sent : Int) : Obj := .cells #[.string kind, .string op, .int .i64 root, .slice am n cm, .slice af k cf, .int .i64 sent] 47
def GB (p : Nat) (am : Option Addr) (cm : Nat) (bs : List Nat) (g : Gs) : Asn := fun h => ∃ q : Option Addr × Nat, bs.length = g.ms.length ∧
  star [blk p (gC g.kind g.op g.root am g.ms.length cm q.1 g.fly.length q.2 g.sent), sl memE am cm (g.ms.zip bs), sl msgE q.1 q.2 g.fly, star (List.zipWith mpA bs g.ms)] h
theorem GB_mk {p : Nat} {am af : Option Addr} {cm cf : Nat} {bs : List Nat} {g : Gs} {L : List Asn} {h : Hp} (hb : bs.length = g.ms.length)
    (s : Sat h (blk p (gC g.kind g.op g.root am g.ms.length cm af g.fly.length cf g.sent) :: sl memE am cm (g.ms.zip bs) :: sl msgE af cf g.fly :: star (List.zipWith mpA bs g.ms) :: L)) : Sat h (GB p am cm bs g :: L) := by
  have h1 := (Sat.star (M := [blk p (gC g.kind g.op g.root am g.ms.length cm af g.fly.length cf g.sent), sl memE am cm (g.ms.zip bs), sl msgE af cf g.fly, star (List.zipWith mpA bs g.ms)]) (L := L)).2 s
  exact h1.cons_imp (fun k hk => ⟨(af, cf), hb, hk⟩) (fun _ h => h)
theorem GB_open {p : Nat} {am : Option Addr} {cm : Nat} {bs : List Nat} {g : Gs} {L : List Asn} {c : Cx} {F : Fr} {k : List Item}
    (h : ∀ (af : Option Addr) (cf : Nat), bs.length = g.ms.length → J c F (blk p (gC g.kind g.op g.root am g.ms.length cm af g.fly.length cf g.sent) :: sl memE am cm (g.ms.zip bs) :: sl msgE af cf g.fly :: star (List.zipWith mpA bs g.ms) :: L) k) : J c F (GB p am cm bs g :: L) k := by
  refine J.ex (A := fun q : Option Addr × Nat => fun h => bs.length = g.ms.length ∧ star [blk p (gC g.kind g.op g.root am g.ms.length cm q.1 g.fly.length q.2 g.sent), sl memE am cm (g.ms.zip bs), sl msgE q.1 q.2 g.fly, star (List.zipWith mpA bs g.ms)] h) fun q => ?_
  refine J.prop fun hr => ?_
  refine J.star ?_
  exact h q.1 q.2 hr
theorem zip_get {ms : List Mm} {bs : List Nat} {i : Nat} {m : Mm} {b : Nat} (h1 : ms[i]? = some m) (h2 : bs[i]? = some b) : (ms.zip bs)[i]? = some (m, b) := List.getElem?_zip_eq_some.2 ⟨h1, h2⟩
theorem zip_set {ms : List Mm} {bs : List Nat} {i : Nat} {m : Mm} {b : Nat} (h2 : bs[i]? = some b) : (ms.zip bs).set i (m, b) = (ms.set i m).zip bs := by
  apply List.ext_getElem?
  intro j
  rw [List.getElem?_set]
  by_cases hij : i = j
  · subst hij
    by_cases hl : i < ms.length
    · have hlb := (List.getElem?_eq_some_iff.1 h2).1
      rw [if_pos rfl, if_pos (by rw [List.length_zip]; omega)]
      exact (zip_get (by rw [List.getElem?_set]; simp [hl]) h2).symm
    · rw [if_pos rfl, if_neg (by rw [List.length_zip]; omega)]
      rw [List.getElem?_eq_none (by rw [List.length_zip, List.length_set]; omega)]
  · rw [if_neg hij]
    cases e1 : (ms.set i m)[j]? with
    | none =>
      have hn : ms.length ≤ j := by have := List.getElem?_eq_none_iff.1 e1; rwa [List.length_set] at this
      rw [List.getElem?_eq_none (by rw [List.length_zip]; omega), List.getElem?_eq_none (by rw [List.length_zip, List.length_set]; omega)]
    | some x =>
      have e2 : ms[j]? = some x := by rw [← e1, List.getElem?_set, if_neg hij]
      cases e3 : bs[j]? with
      | none =>
        have hn := List.getElem?_eq_none_iff.1 e3
        rw [List.getElem?_eq_none (by rw [List.length_zip]; omega), List.getElem?_eq_none (by rw [List.length_zip, List.length_set]; omega)]
      | some b' => rw [zip_get e2 e3, zip_get e1 e3]
theorem set_same {α : Type} {l : List α} {i : Nat} {x : α} (h : l[i]? = some x) : l.set i x = l := by
  apply List.ext_getElem?
  intro j
  rw [List.getElem?_set]
  by_cases e : i = j
  · subst e; rw [if_pos rfl, if_pos (List.getElem?_eq_some_iff.1 h).1, h]
  · rw [if_neg e]
/-- A member's map is put back. -/
theorem mp_put {bs : List Nat} {ms : List Mm} {i : Nat} {b : Nat} {m m' : Mm} {L : List Asn} {h : Hp} (h1 : bs[i]? = some b) (h2 : ms[i]? = some m) (s : Sat h (mp intK b (kvs m'.got) :: zwBut mpA i bs ms :: L)) : Sat h (star (List.zipWith mpA bs (ms.set i m')) :: L) := by
  have := zw_put (A := mpA) (r' := b) (c' := m') h1 h2 s
  rwa [set_same h1] at this
theorem mp_take {bs : List Nat} {ms : List Mm} {i : Nat} {b : Nat} {m : Mm} {L : List Asn} {h : Hp} (h1 : bs[i]? = some b) (h2 : ms[i]? = some m) (s : Sat h (star (List.zipWith mpA bs ms) :: L)) : Sat h (mp intK b (kvs m.got) :: zwBut mpA i bs ms :: L) := zw_open (A := mpA) h1 h2 s
/-- Only what has come counts for the maps. -/
theorem mp_same {bs : List Nat} {ms : List Mm} {i : Nat} {m m' : Mm} (h2 : ms[i]? = some m) (hg : m'.got = m.got) : List.zipWith mpA bs (ms.set i m') = List.zipWith mpA bs ms := by
  apply List.ext_getElem?
  intro j
  rw [List.getElem?_zipWith, List.getElem?_zipWith, List.getElem?_set]
  by_cases e : i = j
  · subst e
    rw [if_pos rfl, if_pos (List.getElem?_eq_some_iff.1 h2).1, h2]
    cases bs[i]? <;> simp [mpA, hg]
  · rw [if_neg e]
end Go.Proofs.Ytoikjjpleonllaa

/- The text G1. -/
set_option linter.unusedVariables false
set_option linter.unusedSimpArgs false
set_option maxRecDepth 10000
namespace Go.Proofs.Ytoikjjpleonllaa
open Go Go.KK Gr

theorem arity_ok {L : List Asn} {op : ByteArray} (ho : okOp op) :
    CallS Try.prog 92 [.string op].toArray L (fun v M => v = .int .i64 2 ∧ M = L) := by
  refine CallS.ent ?_
  refine CallS.enter Try.func92 rfl rfl rfl rfl rfl ?_
  refine J.seq rfl ?_
  refine J.region rfl ?_
  refine JO.pur rfl rfl rfl (Pur.assign rfl) ?_
  refine JO.nil ?_
  refine J.seq rfl ?_
  refine J.seq rfl ?_
  refine J.region rfl ?_
  refine JO.pur rfl rfl rfl (Pur.move rfl) ?_
  refine JO.nil ?_
  refine J.block rfl ?_
  refine J.seq rfl ?_
  refine J.seq rfl ?_
  refine J.region rfl ?_
  refine JO.pur rfl rfl rfl (Pur.eqlT rfl rfl) ?_
  refine JO.pur rfl rfl rfl (Pur.assign rfl) ?_
  refine JO.nil ?_
  refine J.splitB 4 rfl (fun h4 => ?_) (fun h4 => ?_)
  · try simp only [bSimp, bSimp2, ne_eq] at h4
    refine J.condT rfl rfl ?_
    refine J.skip rfl ?_
    refine J.condT rfl rfl ?_
    refine J.seq rfl ?_
    refine J.region rfl ?_
    refine JO.pur rfl rfl rfl (Pur.assign rfl) ?_
    refine JO.nil ?_
    refine J.ret rfl rfl ?_
    first
    | exact ⟨_, _, ⟨rfl, rfl⟩, rfl, SubC.out⟩
    | (exfalso; rcases ho with e | e | e | e | e | e <;> simp_all)
  · try simp only [bSimp, bSimp2, ne_eq] at h4
    refine J.condF rfl rfl ?_
    refine J.seq rfl ?_
    refine J.region rfl ?_
    refine JO.pur rfl rfl rfl (Pur.eqlT rfl rfl) ?_
    refine JO.pur rfl rfl rfl (Pur.assign rfl) ?_
    refine JO.nil ?_
    refine J.splitB 4 rfl (fun h4 => ?_) (fun h4 => ?_)
    · try simp only [bSimp, bSimp2, ne_eq] at h4
      refine J.condT rfl rfl ?_
      refine J.skip rfl ?_
      refine J.condT rfl rfl ?_
      refine J.seq rfl ?_
      refine J.region rfl ?_
      refine JO.pur rfl rfl rfl (Pur.assign rfl) ?_
      refine JO.nil ?_
      refine J.ret rfl rfl ?_
      first
      | exact ⟨_, _, ⟨rfl, rfl⟩, rfl, SubC.out⟩
      | (exfalso; rcases ho with e | e | e | e | e | e <;> simp_all)
    · try simp only [bSimp, bSimp2, ne_eq] at h4
      refine J.condF rfl rfl ?_
      refine J.seq rfl ?_
      refine J.region rfl ?_
      refine JO.pur rfl rfl rfl (Pur.eqlT rfl rfl) ?_
      refine JO.pur rfl rfl rfl (Pur.assign rfl) ?_
      refine JO.nil ?_
      refine J.splitB 4 rfl (fun h4 => ?_) (fun h4 => ?_)
      · try simp only [bSimp, bSimp2, ne_eq] at h4
        refine J.condT rfl rfl ?_
        refine J.skip rfl ?_
        refine J.condT rfl rfl ?_
        refine J.seq rfl ?_
        refine J.region rfl ?_
        refine JO.pur rfl rfl rfl (Pur.assign rfl) ?_
        refine JO.nil ?_
        refine J.ret rfl rfl ?_
        first
        | exact ⟨_, _, ⟨rfl, rfl⟩, rfl, SubC.out⟩
        | (exfalso; rcases ho with e | e | e | e | e | e <;> simp_all)
      · try simp only [bSimp, bSimp2, ne_eq] at h4
        refine J.condF rfl rfl ?_
        refine J.seq rfl ?_
        refine J.region rfl ?_
        refine JO.pur rfl rfl rfl (Pur.eqlT rfl rfl) ?_
        refine JO.pur rfl rfl rfl (Pur.assign rfl) ?_
        refine JO.nil ?_
        refine J.splitB 4 rfl (fun h4 => ?_) (fun h4 => ?_)
        · try simp only [bSimp, bSimp2, ne_eq] at h4
          refine J.condT rfl rfl ?_
          refine J.skip rfl ?_
          refine J.condT rfl rfl ?_
          refine J.seq rfl ?_
          refine J.region rfl ?_
          refine JO.pur rfl rfl rfl (Pur.assign rfl) ?_
          refine JO.nil ?_
          refine J.ret rfl rfl ?_
          first
          | exact ⟨_, _, ⟨rfl, rfl⟩, rfl, SubC.out⟩
          | (exfalso; rcases ho with e | e | e | e | e | e <;> simp_all)
        · try simp only [bSimp, bSimp2, ne_eq] at h4
          refine J.condF rfl rfl ?_
          refine J.seq rfl ?_
          refine J.region rfl ?_
          refine JO.pur rfl rfl rfl (Pur.eqlT rfl rfl) ?_
          refine JO.pur rfl rfl rfl (Pur.assign rfl) ?_
          refine JO.nil ?_
          refine J.splitB 4 rfl (fun h4 => ?_) (fun h4 => ?_)
          · try simp only [bSimp, bSimp2, ne_eq] at h4
            refine J.condT rfl rfl ?_
            refine J.skip rfl ?_
            refine J.condT rfl rfl ?_
            refine J.seq rfl ?_
            refine J.region rfl ?_
            refine JO.pur rfl rfl rfl (Pur.assign rfl) ?_
            refine JO.nil ?_
            refine J.ret rfl rfl ?_
            first
            | exact ⟨_, _, ⟨rfl, rfl⟩, rfl, SubC.out⟩
            | (exfalso; rcases ho with e | e | e | e | e | e <;> simp_all)
          · try simp only [bSimp, bSimp2, ne_eq] at h4
            refine J.condF rfl rfl ?_
            refine J.seq rfl ?_
            refine J.region rfl ?_
            refine JO.pur rfl rfl rfl (Pur.eqlT rfl rfl) ?_
            refine JO.pur rfl rfl rfl (Pur.assign rfl) ?_
            refine JO.nil ?_
            refine J.splitB 4 rfl (fun h4 => ?_) (fun h4 => ?_)
            · try simp only [bSimp, bSimp2, ne_eq] at h4
              refine J.condT rfl rfl ?_
              refine J.skip rfl ?_
              refine J.condT rfl rfl ?_
              refine J.seq rfl ?_
              refine J.region rfl ?_
              refine JO.pur rfl rfl rfl (Pur.assign rfl) ?_
              refine JO.nil ?_
              refine J.ret rfl rfl ?_
              first
              | exact ⟨_, _, ⟨rfl, rfl⟩, rfl, SubC.out⟩
              | (exfalso; rcases ho with e | e | e | e | e | e <;> simp_all)
            · try simp only [bSimp, bSimp2, ne_eq] at h4
              refine J.condF rfl rfl ?_
              refine J.seq rfl ?_
              refine J.region rfl ?_
              refine JO.pur rfl rfl rfl (Pur.eqlT rfl rfl) ?_
              refine JO.pur rfl rfl rfl (Pur.assign rfl) ?_
              refine JO.nil ?_
              refine J.splitB 4 rfl (fun h4 => ?_) (fun h4 => ?_)
              · try simp only [bSimp, bSimp2, ne_eq] at h4
                refine J.condT rfl rfl ?_
                refine J.skip rfl ?_
                refine J.condT rfl rfl ?_
                refine J.seq rfl ?_
                refine J.region rfl ?_
                refine JO.pur rfl rfl rfl (Pur.assign rfl) ?_
                refine JO.nil ?_
                refine J.ret rfl rfl ?_
                first
                | exact ⟨_, _, ⟨rfl, rfl⟩, rfl, SubC.out⟩
                | (exfalso; rcases ho with e | e | e | e | e | e <;> simp_all)
              · try simp only [bSimp, bSimp2, ne_eq] at h4
                refine J.condF rfl rfl ?_
                refine J.seq rfl ?_
                refine J.region rfl ?_
                refine JO.pur rfl rfl rfl (Pur.eqlT rfl rfl) ?_
                refine JO.pur rfl rfl rfl (Pur.assign rfl) ?_
                refine JO.nil ?_
                refine J.splitB 4 rfl (fun h4 => ?_) (fun h4 => ?_)
                · try simp only [bSimp, bSimp2, ne_eq] at h4
                  refine J.condT rfl rfl ?_
                  refine J.skip rfl ?_
                  refine J.condT rfl rfl ?_
                  refine J.seq rfl ?_
                  refine J.region rfl ?_
                  refine JO.pur rfl rfl rfl (Pur.assign rfl) ?_
                  refine JO.nil ?_
                  refine J.ret rfl rfl ?_
                  first
                  | exact ⟨_, _, ⟨rfl, rfl⟩, rfl, SubC.out⟩
                  | (exfalso; rcases ho with e | e | e | e | e | e <;> simp_all)
                · try simp only [bSimp, bSimp2, ne_eq] at h4
                  refine J.condF rfl rfl ?_
                  refine J.seq rfl ?_
                  refine J.region rfl ?_
                  refine JO.pur rfl rfl rfl (Pur.eqlT rfl rfl) ?_
                  refine JO.pur rfl rfl rfl (Pur.assign rfl) ?_
                  refine JO.nil ?_
                  refine J.splitB 4 rfl (fun h4 => ?_) (fun h4 => ?_)
                  · try simp only [bSimp, bSimp2, ne_eq] at h4
                    refine J.condT rfl rfl ?_
                    refine J.skip rfl ?_
                    refine J.condT rfl rfl ?_
                    refine J.seq rfl ?_
                    refine J.region rfl ?_
                    refine JO.pur rfl rfl rfl (Pur.assign rfl) ?_
                    refine JO.nil ?_
                    refine J.ret rfl rfl ?_
                    first
                    | exact ⟨_, _, ⟨rfl, rfl⟩, rfl, SubC.out⟩
                    | (exfalso; rcases ho with e | e | e | e | e | e <;> simp_all)
                  · try simp only [bSimp, bSimp2, ne_eq] at h4
                    refine J.condF rfl rfl ?_
                    refine J.seq rfl ?_
                    refine J.region rfl ?_
                    refine JO.pur rfl rfl rfl (Pur.eqlT rfl rfl) ?_
                    refine JO.pur rfl rfl rfl (Pur.assign rfl) ?_
                    refine JO.nil ?_
                    refine J.splitB 4 rfl (fun h4 => ?_) (fun h4 => ?_)
                    · try simp only [bSimp, bSimp2, ne_eq] at h4
                      refine J.condT rfl rfl ?_
                      refine J.skip rfl ?_
                      refine J.condT rfl rfl ?_
                      refine J.seq rfl ?_
                      refine J.region rfl ?_
                      refine JO.pur rfl rfl rfl (Pur.assign rfl) ?_
                      refine JO.nil ?_
                      refine J.ret rfl rfl ?_
                      first
                      | exact ⟨_, _, ⟨rfl, rfl⟩, rfl, SubC.out⟩
                      | (exfalso; rcases ho with e | e | e | e | e | e <;> simp_all)
                    · try simp only [bSimp, bSimp2, ne_eq] at h4
                      refine J.condF rfl rfl ?_
                      refine J.seq rfl ?_
                      refine J.region rfl ?_
                      refine JO.pur rfl rfl rfl (Pur.eqlT rfl rfl) ?_
                      refine JO.pur rfl rfl rfl (Pur.assign rfl) ?_
                      refine JO.nil ?_
                      refine J.splitB 4 rfl (fun h4 => ?_) (fun h4 => ?_)
                      · try simp only [bSimp, bSimp2, ne_eq] at h4
                        refine J.condT rfl rfl ?_
                        refine J.skip rfl ?_
                        refine J.condT rfl rfl ?_
                        refine J.seq rfl ?_
                        refine J.region rfl ?_
                        refine JO.pur rfl rfl rfl (Pur.assign rfl) ?_
                        refine JO.nil ?_
                        refine J.ret rfl rfl ?_
                        first
                        | exact ⟨_, _, ⟨rfl, rfl⟩, rfl, SubC.out⟩
                        | (exfalso; rcases ho with e | e | e | e | e | e <;> simp_all)
                      · try simp only [bSimp, bSimp2, ne_eq] at h4
                        refine J.condF rfl rfl ?_
                        refine J.region rfl ?_
                        refine JO.pur rfl rfl rfl (Pur.eqlT rfl rfl) ?_
                        refine JO.pur rfl rfl rfl (Pur.assign rfl) ?_
                        refine JO.nil ?_
                        refine J.splitB 4 rfl (fun h4 => ?_) (fun h4 => ?_)
                        · try simp only [bSimp, bSimp2, ne_eq] at h4
                          refine J.condT rfl rfl ?_
                          refine J.seq rfl ?_
                          refine J.region rfl ?_
                          refine JO.pur rfl rfl rfl (Pur.assign rfl) ?_
                          refine JO.nil ?_
                          refine J.ret rfl rfl ?_
                          first
                          | exact ⟨_, _, ⟨rfl, rfl⟩, rfl, SubC.out⟩
                          | (exfalso; rcases ho with e | e | e | e | e | e <;> simp_all)
                        · try simp only [bSimp, bSimp2, ne_eq] at h4
                          refine J.condF rfl rfl ?_
                          refine J.seq rfl ?_
                          refine J.seq rfl ?_
                          refine J.region rfl ?_
                          refine JO.pur rfl rfl rfl (Pur.eqlT rfl rfl) ?_
                          refine JO.pur rfl rfl rfl (Pur.assign rfl) ?_
                          refine JO.nil ?_
                          refine J.splitB 17 rfl (fun h17 => ?_) (fun h17 => ?_)
                          · try simp only [bSimp, bSimp2, ne_eq] at h17
                            refine J.condT rfl rfl ?_
                            refine J.skip rfl ?_
                            refine J.condT rfl rfl ?_
                            refine J.seq rfl ?_
                            refine J.region rfl ?_
                            refine JO.pur rfl rfl rfl (Pur.assign rfl) ?_
                            refine JO.nil ?_
                            refine J.ret rfl rfl ?_
                            first
                            | exact ⟨_, _, ⟨rfl, rfl⟩, rfl, SubC.out⟩
                            | (exfalso; rcases ho with e | e | e | e | e | e <;> simp_all)
                          · try simp only [bSimp, bSimp2, ne_eq] at h17
                            refine J.condF rfl rfl ?_
                            refine J.region rfl ?_
                            refine JO.pur rfl rfl rfl (Pur.eqlT rfl rfl) ?_
                            refine JO.pur rfl rfl rfl (Pur.assign rfl) ?_
                            refine JO.nil ?_
                            refine J.splitB 17 rfl (fun h17 => ?_) (fun h17 => ?_)
                            · try simp only [bSimp, bSimp2, ne_eq] at h17
                              refine J.condT rfl rfl ?_
                              refine J.seq rfl ?_
                              refine J.region rfl ?_
                              refine JO.pur rfl rfl rfl (Pur.assign rfl) ?_
                              refine JO.nil ?_
                              refine J.ret rfl rfl ?_
                              first
                              | exact ⟨_, _, ⟨rfl, rfl⟩, rfl, SubC.out⟩
                              | (exfalso; rcases ho with e | e | e | e | e | e <;> simp_all)
                            · try simp only [bSimp, bSimp2, ne_eq] at h17
                              refine J.condF rfl rfl ?_
                              refine J.skip rfl ?_
                              refine J.inBlock ?_
                              refine J.seq rfl ?_
                              refine J.region rfl ?_
                              refine JO.pur rfl rfl rfl (Pur.assign rfl) ?_
                              refine JO.nil ?_
                              refine J.ret rfl rfl ?_
                              first
                              | exact ⟨_, _, ⟨rfl, rfl⟩, rfl, SubC.out⟩
                              | (exfalso; rcases ho with e | e | e | e | e | e <;> simp_all)

theorem eOp_ok {L : List Asn} {op : ByteArray} {a b : Int} {la : Option Addr} {n cap : Nat} [SlIn intE L la [a, b]] (ho : okOp op) (hn : n = 2) :
    CallS Try.prog 93 [.string op, .slice la n cap].toArray L (fun v M => v = .tuple #[.int .i64 (opV op a b), .bool true] ∧ M = L) := by
  subst hn
  refine CallS.ent ?_
  refine CallS.enter Try.func93 rfl rfl rfl rfl rfl ?_
  refine J.seq rfl ?_
  refine J.region rfl ?_
  refine JO.pur rfl rfl rfl (Pur.assign rfl) ?_
  refine JO.pur rfl rfl rfl (Pur.assign rfl) ?_
  refine JO.nil ?_
  refine J.seq rfl ?_
  refine J.region rfl ?_
  refine JO.pur rfl rfl rfl (Pur.move rfl) ?_
  refine JO.pur rfl rfl rfl (Pur.idx rfl rfl rfl (by first | rfl | (simp; done) | omega) (show (0 : Int) = ((0 : Nat) : Int) from rfl) (by simp)) ?_
  refine JO.pur rfl rfl rfl (Pur.load rfl (CellIn.el0 rfl rfl rfl)) ?_
  refine JO.setv (u' := .int .i64 a) 10 rfl rfl ?_
  refine JO.pur rfl rfl rfl (Pur.assign rfl) ?_
  refine JO.pur rfl rfl rfl (Pur.assign rfl) ?_
  refine JO.nil ?_
  refine J.seq rfl ?_
  refine J.seq rfl ?_
  refine J.region rfl ?_
  refine JO.pur rfl rfl rfl (Pur.move rfl) ?_
  refine JO.pur rfl rfl rfl (Pur.len rfl) ?_
  refine JO.pur rfl rfl rfl (Pur.gtr rfl rfl) ?_
  refine JO.nil ?_
  refine J.setv (u' := .bool true) 13 rfl (congrArg Value.bool ((by simp))) ?_
  refine J.condT rfl rfl ?_
  refine J.region rfl ?_
  refine JO.pur rfl rfl rfl (Pur.move rfl) ?_
  refine JO.pur rfl rfl rfl (Pur.idx rfl rfl rfl (by first | rfl | (simp; done) | omega) (show (1 : Int) = ((1 : Nat) : Int) from rfl) (by simp)) ?_
  refine JO.pur rfl rfl rfl (Pur.load rfl (CellIn.el0 rfl rfl rfl)) ?_
  refine JO.setv (u' := .int .i64 b) 16 rfl rfl ?_
  refine JO.pur rfl rfl rfl (Pur.assign rfl) ?_
  refine JO.nil ?_
  refine J.seq rfl ?_
  refine J.seq rfl ?_
  refine J.region rfl ?_
  refine JO.pur rfl rfl rfl (Pur.move rfl) ?_
  refine JO.nil ?_
  refine J.block rfl ?_
  refine J.seq rfl ?_
  refine J.region rfl ?_
  refine JO.pur rfl rfl rfl (Pur.eqlT rfl rfl) ?_
  refine JO.pur rfl rfl rfl (Pur.assign rfl) ?_
  refine JO.nil ?_
  refine J.splitB 18 rfl (fun h18 => ?_) (fun h18 => ?_)
  · try simp only [bSimp, bSimp2, ne_eq] at h18
    refine J.condT rfl rfl ?_
    refine J.seq rfl ?_
    refine J.region rfl ?_
    refine JO.pur rfl rfl rfl (Pur.move rfl) ?_
    refine JO.pur rfl rfl rfl (Pur.move rfl) ?_
    refine JO.pur rfl rfl rfl (Pur.addW rfl rfl) ?_
    refine JO.pur rfl rfl rfl (Pur.assign rfl) ?_
    refine JO.pur rfl rfl rfl (Pur.assign rfl) ?_
    refine JO.nil ?_
    refine J.ret rfl rfl ?_
    first
    | (exfalso; rcases ho with e | e | e | e | e | e <;> (simp_all; done))
    | exact ⟨_, _, ⟨rfl, rfl⟩, by simp_all [opV, wr] <;> rfl, SubC.out⟩
  · try simp only [bSimp, bSimp2, ne_eq] at h18
    refine J.condF rfl rfl ?_
    refine J.seq rfl ?_
    refine J.region rfl ?_
    refine JO.pur rfl rfl rfl (Pur.eqlT rfl rfl) ?_
    refine JO.pur rfl rfl rfl (Pur.assign rfl) ?_
    refine JO.nil ?_
    refine J.splitB 23 rfl (fun h23 => ?_) (fun h23 => ?_)
    · try simp only [bSimp, bSimp2, ne_eq] at h23
      exfalso; revert h23; rcases ho with e | e | e | e | e | e <;> (rw [e]; decide)
    · try simp only [bSimp, bSimp2, ne_eq] at h23
      refine J.condF rfl rfl ?_
      refine J.seq rfl ?_
      refine J.region rfl ?_
      refine JO.pur rfl rfl rfl (Pur.eqlT rfl rfl) ?_
      refine JO.pur rfl rfl rfl (Pur.assign rfl) ?_
      refine JO.nil ?_
      refine J.splitB 28 rfl (fun h28 => ?_) (fun h28 => ?_)
      · try simp only [bSimp, bSimp2, ne_eq] at h28
        refine J.condT rfl rfl ?_
        refine J.seq rfl ?_
        refine J.region rfl ?_
        refine JO.pur rfl rfl rfl (Pur.move rfl) ?_
        refine JO.pur rfl rfl rfl (Pur.move rfl) ?_
        refine JO.pur rfl rfl rfl (Pur.mulW rfl rfl) ?_
        refine JO.pur rfl rfl rfl (Pur.assign rfl) ?_
        refine JO.pur rfl rfl rfl (Pur.assign rfl) ?_
        refine JO.nil ?_
        refine J.ret rfl rfl ?_
        first
        | (exfalso; rcases ho with e | e | e | e | e | e <;> (simp_all; done))
        | exact ⟨_, _, ⟨rfl, rfl⟩, by simp_all [opV, wr] <;> rfl, SubC.out⟩
      · try simp only [bSimp, bSimp2, ne_eq] at h28
        refine J.condF rfl rfl ?_
        refine J.seq rfl ?_
        refine J.seq rfl ?_
        refine J.region rfl ?_
        refine JO.pur rfl rfl rfl (Pur.eqlT rfl rfl) ?_
        refine JO.pur rfl rfl rfl (Pur.assign rfl) ?_
        refine JO.nil ?_
        refine J.splitB 33 rfl (fun h33 => ?_) (fun h33 => ?_)
        · try simp only [bSimp, bSimp2, ne_eq] at h33
          exfalso; revert h33; rcases ho with e | e | e | e | e | e <;> (rw [e]; decide)
        · try simp only [bSimp, bSimp2, ne_eq] at h33
          refine J.condF rfl rfl ?_
          refine J.region rfl ?_
          refine JO.pur rfl rfl rfl (Pur.eqlT rfl rfl) ?_
          refine JO.pur rfl rfl rfl (Pur.assign rfl) ?_
          refine JO.nil ?_
          refine J.splitB 33 rfl (fun h33 => ?_) (fun h33 => ?_)
          · try simp only [bSimp, bSimp2, ne_eq] at h33
            exfalso; revert h33; rcases ho with e | e | e | e | e | e <;> (rw [e]; decide)
          · try simp only [bSimp, bSimp2, ne_eq] at h33
            refine J.condF rfl rfl ?_
            refine J.seq rfl ?_
            refine J.region rfl ?_
            refine JO.pur rfl rfl rfl (Pur.eqlT rfl rfl) ?_
            refine JO.pur rfl rfl rfl (Pur.assign rfl) ?_
            refine JO.nil ?_
            refine J.splitB 46 rfl (fun h46 => ?_) (fun h46 => ?_)
            · try simp only [bSimp, bSimp2, ne_eq] at h46
              exfalso; revert h46; rcases ho with e | e | e | e | e | e <;> (rw [e]; decide)
            · try simp only [bSimp, bSimp2, ne_eq] at h46
              refine J.condF rfl rfl ?_
              refine J.seq rfl ?_
              refine J.region rfl ?_
              refine JO.pur rfl rfl rfl (Pur.eqlT rfl rfl) ?_
              refine JO.pur rfl rfl rfl (Pur.assign rfl) ?_
              refine JO.nil ?_
              refine J.splitB 52 rfl (fun h52 => ?_) (fun h52 => ?_)
              · try simp only [bSimp, bSimp2, ne_eq] at h52
                exfalso; revert h52; rcases ho with e | e | e | e | e | e <;> (rw [e]; decide)
              · try simp only [bSimp, bSimp2, ne_eq] at h52
                refine J.condF rfl rfl ?_
                refine J.seq rfl ?_
                refine J.region rfl ?_
                refine JO.pur rfl rfl rfl (Pur.eqlT rfl rfl) ?_
                refine JO.pur rfl rfl rfl (Pur.assign rfl) ?_
                refine JO.nil ?_
                refine J.splitB 58 rfl (fun h58 => ?_) (fun h58 => ?_)
                · try simp only [bSimp, bSimp2, ne_eq] at h58
                  exfalso; revert h58; rcases ho with e | e | e | e | e | e <;> (rw [e]; decide)
                · try simp only [bSimp, bSimp2, ne_eq] at h58
                  refine J.condF rfl rfl ?_
                  refine J.seq rfl ?_
                  refine J.seq rfl ?_
                  refine J.region rfl ?_
                  refine JO.pur rfl rfl rfl (Pur.eqlT rfl rfl) ?_
                  refine JO.pur rfl rfl rfl (Pur.assign rfl) ?_
                  refine JO.nil ?_
                  refine J.splitB 64 rfl (fun h64 => ?_) (fun h64 => ?_)
                  · try simp only [bSimp, bSimp2, ne_eq] at h64
                    refine J.condT rfl rfl ?_
                    refine J.skip rfl ?_
                    refine J.condT rfl rfl ?_
                    refine J.seq rfl ?_
                    refine J.region rfl ?_
                    refine JO.pur rfl rfl rfl (Pur.move rfl) ?_
                    refine JO.pur rfl rfl rfl (Pur.move rfl) ?_
                    refine JO.pur rfl rfl rfl (Pur.min2 rfl rfl) ?_
                    refine JO.pur rfl rfl rfl (Pur.assign rfl) ?_
                    refine JO.pur rfl rfl rfl (Pur.assign rfl) ?_
                    refine JO.nil ?_
                    refine J.ret rfl rfl ?_
                    first
                    | (exfalso; rcases ho with e | e | e | e | e | e <;> (simp_all; done))
                    | exact ⟨_, _, ⟨rfl, rfl⟩, by simp_all [opV, wr] <;> rfl, SubC.out⟩
                  · try simp only [bSimp, bSimp2, ne_eq] at h64
                    refine J.condF rfl rfl ?_
                    refine J.region rfl ?_
                    refine JO.pur rfl rfl rfl (Pur.eqlT rfl rfl) ?_
                    refine JO.pur rfl rfl rfl (Pur.assign rfl) ?_
                    refine JO.nil ?_
                    refine J.splitB 64 rfl (fun h64 => ?_) (fun h64 => ?_)
                    · try simp only [bSimp, bSimp2, ne_eq] at h64
                      refine J.condT rfl rfl ?_
                      refine J.seq rfl ?_
                      refine J.region rfl ?_
                      refine JO.pur rfl rfl rfl (Pur.move rfl) ?_
                      refine JO.pur rfl rfl rfl (Pur.move rfl) ?_
                      refine JO.pur rfl rfl rfl (Pur.min2 rfl rfl) ?_
                      refine JO.pur rfl rfl rfl (Pur.assign rfl) ?_
                      refine JO.pur rfl rfl rfl (Pur.assign rfl) ?_
                      refine JO.nil ?_
                      refine J.ret rfl rfl ?_
                      first
                      | (exfalso; rcases ho with e | e | e | e | e | e <;> (simp_all; done))
                      | exact ⟨_, _, ⟨rfl, rfl⟩, by simp_all [opV, wr] <;> rfl, SubC.out⟩
                    · try simp only [bSimp, bSimp2, ne_eq] at h64
                      refine J.condF rfl rfl ?_
                      refine J.seq rfl ?_
                      refine J.seq rfl ?_
                      refine J.region rfl ?_
                      refine JO.pur rfl rfl rfl (Pur.eqlT rfl rfl) ?_
                      refine JO.pur rfl rfl rfl (Pur.assign rfl) ?_
                      refine JO.nil ?_
                      refine J.splitB 70 rfl (fun h70 => ?_) (fun h70 => ?_)
                      · try simp only [bSimp, bSimp2, ne_eq] at h70
                        refine J.condT rfl rfl ?_
                        refine J.skip rfl ?_
                        refine J.condT rfl rfl ?_
                        refine J.seq rfl ?_
                        refine J.region rfl ?_
                        refine JO.pur rfl rfl rfl (Pur.move rfl) ?_
                        refine JO.pur rfl rfl rfl (Pur.move rfl) ?_
                        refine JO.pur rfl rfl rfl (Pur.max2 rfl rfl) ?_
                        refine JO.pur rfl rfl rfl (Pur.assign rfl) ?_
                        refine JO.pur rfl rfl rfl (Pur.assign rfl) ?_
                        refine JO.nil ?_
                        refine J.ret rfl rfl ?_
                        first
                        | (exfalso; rcases ho with e | e | e | e | e | e <;> (simp_all; done))
                        | exact ⟨_, _, ⟨rfl, rfl⟩, by simp_all [opV, wr] <;> rfl, SubC.out⟩
                      · try simp only [bSimp, bSimp2, ne_eq] at h70
                        refine J.condF rfl rfl ?_
                        refine J.region rfl ?_
                        refine JO.pur rfl rfl rfl (Pur.eqlT rfl rfl) ?_
                        refine JO.pur rfl rfl rfl (Pur.assign rfl) ?_
                        refine JO.nil ?_
                        refine J.splitB 70 rfl (fun h70 => ?_) (fun h70 => ?_)
                        · try simp only [bSimp, bSimp2, ne_eq] at h70
                          refine J.condT rfl rfl ?_
                          refine J.seq rfl ?_
                          refine J.region rfl ?_
                          refine JO.pur rfl rfl rfl (Pur.move rfl) ?_
                          refine JO.pur rfl rfl rfl (Pur.move rfl) ?_
                          refine JO.pur rfl rfl rfl (Pur.max2 rfl rfl) ?_
                          refine JO.pur rfl rfl rfl (Pur.assign rfl) ?_
                          refine JO.pur rfl rfl rfl (Pur.assign rfl) ?_
                          refine JO.nil ?_
                          refine J.ret rfl rfl ?_
                          first
                          | (exfalso; rcases ho with e | e | e | e | e | e <;> (simp_all; done))
                          | exact ⟨_, _, ⟨rfl, rfl⟩, by simp_all [opV, wr] <;> rfl, SubC.out⟩
                        · try simp only [bSimp, bSimp2, ne_eq] at h70
                          refine J.condF rfl rfl ?_
                          refine J.seq rfl ?_
                          refine J.region rfl ?_
                          refine JO.pur rfl rfl rfl (Pur.eqlT rfl rfl) ?_
                          refine JO.pur rfl rfl rfl (Pur.assign rfl) ?_
                          refine JO.nil ?_
                          refine J.splitB 76 rfl (fun h76 => ?_) (fun h76 => ?_)
                          · try simp only [bSimp, bSimp2, ne_eq] at h76
                            exfalso; revert h76; rcases ho with e | e | e | e | e | e <;> (rw [e]; decide)
                          · try simp only [bSimp, bSimp2, ne_eq] at h76
                            refine J.condF rfl rfl ?_
                            refine J.skip rfl ?_
                            refine J.inBlock ?_
                            refine J.seq rfl ?_
                            refine J.region rfl ?_
                            refine JO.pur rfl rfl rfl (Pur.move rfl) ?_
                            refine JO.pur rfl rfl rfl (Pur.assign rfl) ?_
                            refine JO.pur rfl rfl rfl (Pur.assign rfl) ?_
                            refine JO.nil ?_
                            refine J.ret rfl rfl ?_
                            first
                            | (exfalso; rcases ho with e | e | e | e | e | e <;> (simp_all; done))
                            | exact ⟨_, _, ⟨rfl, rfl⟩, by simp_all [opV, wr] <;> rfl, SubC.out⟩

end Go.Proofs.Ytoikjjpleonllaa

/- The text G2. -/
set_option linter.unusedVariables false
set_option linter.unusedSimpArgs false
set_option maxRecDepth 10000
namespace Go.Proofs.Ytoikjjpleonllaa
open Go Go.KK Gr

theorem pOp_ok {L : List Asn} {op : ByteArray} {a b : Int} {la : Option Addr} {n cap : Nat} [SlIn intE L la [a, b]] (ho : okOp op) (hn : n = 2) :
    CallS Try.prog 91 [.string op, .slice la n cap].toArray L (fun v M => v = .tuple #[.int .i64 (opV op a b), .bool true, .int .i64 0] ∧ M = L) := by
  subst hn
  refine CallS.ent ?_
  refine CallS.enter Try.func91 rfl rfl rfl rfl rfl ?_
  refine J.seq rfl ?_
  refine J.region rfl ?_
  refine JO.pur rfl rfl rfl (Pur.assign rfl) ?_
  refine JO.pur rfl rfl rfl (Pur.assign rfl) ?_
  refine JO.pur rfl rfl rfl (Pur.assign rfl) ?_
  refine JO.nil ?_
  refine J.seq rfl ?_
  refine J.region rfl ?_
  refine JO.pur rfl rfl rfl (Pur.move rfl) ?_
  refine JO.effR rfl rfl rfl (Eff.call rfl (arity_ok ho)) ?_
  refine JO.pur rfl rfl rfl (Pur.assign rfl) ?_
  refine JO.nil ?_
  refine J.seq rfl ?_
  refine J.seq rfl ?_
  refine J.region rfl ?_
  refine JO.pur rfl rfl rfl (Pur.move rfl) ?_
  refine JO.pur rfl rfl rfl (Pur.eqlI rfl rfl) ?_
  refine JO.pur rfl rfl rfl (Pur.move rfl) ?_
  refine JO.setv (u' := .bool false) 12 rfl (congrArg Value.bool (decide_eq_false (by decide))) ?_
  refine JO.pur rfl rfl rfl (Pur.move rfl) ?_
  refine JO.pur rfl rfl rfl (Pur.len rfl) ?_
  refine JO.pur rfl rfl rfl (Pur.move rfl) ?_
  refine JO.pur rfl rfl rfl (Pur.neqI rfl rfl) ?_
  refine JO.pur rfl rfl rfl (Pur.pickF rfl rfl) ?_
  refine JO.nil ?_
  refine J.setv (u' := .bool false) 17 rfl (congrArg Value.bool (decide_eq_false (by simp))) ?_
  refine J.condF rfl rfl ?_
  refine J.skip rfl ?_
  refine J.seq rfl ?_
  refine J.region rfl ?_
  refine JO.pur rfl rfl rfl (Pur.move rfl) ?_
  refine JO.pur rfl rfl rfl (Pur.move rfl) ?_
  refine JO.effR rfl rfl rfl (Eff.call rfl (eOp_ok (a := a) (b := b) ho rfl)) ?_
  refine JO.pur rfl rfl rfl (Pur.move rfl) ?_
  refine JO.pur rfl rfl rfl (Pur.extract rfl rfl) ?_
  refine JO.pur rfl rfl rfl (Pur.extract rfl rfl) ?_
  refine JO.pur rfl rfl rfl (Pur.assign rfl) ?_
  refine JO.pur rfl rfl rfl (Pur.assign rfl) ?_
  refine JO.nil ?_
  refine J.seq rfl ?_
  refine J.region rfl ?_
  refine JO.pur rfl rfl rfl (Pur.move rfl) ?_
  refine JO.pur rfl rfl rfl (Pur.move rfl) ?_
  refine JO.pur rfl rfl rfl (Pur.assign rfl) ?_
  refine JO.pur rfl rfl rfl (Pur.assign rfl) ?_
  refine JO.pur rfl rfl rfl (Pur.assign rfl) ?_
  refine JO.nil ?_
  refine J.ret rfl rfl ?_
  refine ⟨_, _, ⟨rfl, rfl⟩, rfl, SubC.out⟩

theorem join_ok {L : List Asn} {p : Nat} {kind op : ByteArray} {root sent : Int} {am af : Option Addr} {n cm k cf : Nat} [hb : BlkIn L p (.cells #[.string kind, .string op, .int .i64 root, .slice am n cm, .slice af k cf, .int .i64 sent] 47)] {a b : Int} (ho : okOp op) :
    CallS Try.prog 82 [.pointer (some ⟨p, 0, none⟩), .int .i64 a, .int .i64 b].toArray L (fun v M => v = .int .i64 (opV op a b) ∧ M = L) := by
  refine CallS.ent ?_
  refine CallS.enter Try.func82 rfl rfl rfl rfl rfl ?_
  refine J.seq rfl ?_
  refine J.region rfl ?_
  refine JO.pur rfl rfl rfl (Pur.assign rfl) ?_
  refine JO.nil ?_
  refine J.seq rfl ?_
  refine J.region rfl ?_
  refine JO.pur rfl rfl rfl (Pur.move rfl) ?_
  refine JO.pur rfl rfl rfl (Pur.nilCheck rfl) ?_
  refine JO.pur rfl rfl rfl (Pur.fieldAddr rfl) ?_
  refine JO.pur rfl rfl rfl (Pur.load rfl (CellIn.blk rfl)) ?_
  refine JO.pur rfl rfl rfl (Pur.move rfl) ?_
  refine JO.pur rfl rfl rfl (Pur.move rfl) ?_
  refine JO.eff rfl rfl rfl (Eff.buildSlice intE [a, b] rfl rfl rfl rfl rfl rfl rfl) ?_
  rintro _ _ ⟨b17, rfl, -, rfl⟩
  refine JO.effR rfl rfl rfl (Eff.call rfl (pOp_ok (a := a) (b := b) ho rfl)) ?_
  refine JO.pur rfl rfl rfl (Pur.move rfl) ?_
  refine JO.pur rfl rfl rfl (Pur.extract rfl rfl) ?_
  refine JO.pur rfl rfl rfl (Pur.extract rfl rfl) ?_
  refine JO.pur rfl rfl rfl (Pur.extract rfl rfl) ?_
  refine JO.pur rfl rfl rfl (Pur.assign rfl) ?_
  refine JO.pur rfl rfl rfl (Pur.assign rfl) ?_
  refine JO.pur rfl rfl rfl (Pur.assign rfl) ?_
  refine JO.nil ?_
  refine J.seq rfl ?_
  refine J.region rfl ?_
  refine JO.pur rfl rfl rfl (Pur.move rfl) ?_
  refine JO.pur rfl rfl rfl (Pur.assign rfl) ?_
  refine JO.nil ?_
  refine J.ret rfl rfl ?_
  refine ⟨_, _, ⟨rfl, rfl⟩, rfl, SubC.out⟩

theorem put_ok {L : List Asn} {p : Nat} {am : Option Addr} {cm : Nat} {bs : List Nat} {g : Gs} {m : Ms} (hf : g.fly.length ≤ 1000000) :
    CallS Try.prog 84 [.pointer (some ⟨p, 0, none⟩), .agg #[.int .i64 (m.fr : Int), .int .i64 (m.to : Int), .int .i64 m.v, .bool m.up, .int .i64 (m.rd : Int)]].toArray (GB p am cm bs g :: L) (fun v M => v = .tuple #[] ∧ M = GB p am cm bs (put g m) :: L) := by
  refine CallS.ent ?_
  refine CallS.enter Try.func84 rfl rfl rfl rfl rfl ?_
  refine GB_open fun af cf hb => ?_
  refine J.seq rfl ?_
  refine J.region rfl ?_
  refine JO.eff rfl rfl rfl (Eff.box (cs := [_, _, _, _, _]) rfl rfl) ?_
  rintro _ _ ⟨b3, rfl, rfl⟩
  refine JO.nil ?_
  refine J.seq rfl ?_
  refine J.mask0 (n := 11) [7, 10] rfl Try.mixed rfl (by kernel_rfl) ?_
  refine JM.takeF 0 (.inr (fun _ h => h)) rfl (by kernel_rfl) rfl rfl rfl (m' := 1) rfl (Pur.move rfl) ?_
  refine JM.take 1 (fun _ h => h) rfl (by kernel_rfl) rfl rfl rfl (m' := 3) rfl (Pur.move rfl) ?_
  refine JM.take 2 (fun _ h => h) rfl (by kernel_rfl) rfl rfl rfl (m' := 7) rfl (Pur.nilCheck rfl) ?_
  refine JM.take 3 (fun _ h => h) rfl (by kernel_rfl) rfl rfl rfl (m' := 15) rfl (Pur.fieldAddr rfl) ?_
  refine JM.take 4 (fun _ h => h) rfl (by kernel_rfl) rfl rfl rfl (m' := 31) rfl (Pur.load rfl (CellIn.blk rfl)) ?_
  refine JM.take 5 (fun _ h => h) rfl (by kernel_rfl) rfl rfl rfl (m' := 63) rfl (Pur.loadA rfl rfl rfl CellsIn.blk) ?_
  refine JM.one (i := 6) (by kernel_rfl) ?_
  refine JMi.eff rfl rfl rfl rfl (m' := 127) rfl (Eff.buildSlice msgE [m] rfl rfl rfl rfl rfl rfl rfl) ?_
  rintro _ _ ⟨b10, rfl, -, rfl⟩
  refine ⟨.inr (fun _ h => h.tail), ?_⟩
  refine JM.one (i := 7) (by kernel_rfl) ?_
  refine JMi.eff rfl rfl rfl rfl (m' := 255) rfl (Eff.append rfl rfl rfl rfl (by first | rfl | omega | (simp; done) | (simp; omega)) (by first | rfl | omega | (simp; done) | (simp; omega)) (by decide) (by simp; omega) (by simp; omega) (fun h => by cases h)) ?_
  rintro _ _ ⟨a11, c11, rfl, rfl⟩
  refine ⟨.inl (by simp), ?_⟩
  refine JM.takeF 8 (.inl (by kernel_rfl)) rfl (by kernel_rfl) rfl rfl rfl (m' := 511) rfl (Pur.nilCheck rfl) ?_
  refine JM.takeF 9 (.inl (by kernel_rfl)) rfl (by kernel_rfl) rfl rfl rfl (m' := 1023) rfl (Pur.fieldAddr rfl) ?_
  refine JM.one (i := 10) (by kernel_rfl) ?_
  refine JMi.effN rfl rfl rfl (m' := 2047) rfl (Eff.storeB rfl rfl rfl (.tail (.tail (.tail (.tail .head))))) ?_
  rintro _ _ ⟨rfl, rfl⟩
  refine ⟨.inl (by simp), ?_⟩
  refine JM.done rfl ?_
  refine J.region rfl ?_
  refine JO.pur rfl rfl rfl (Pur.move rfl) ?_
  refine JO.pur rfl rfl rfl (Pur.nilCheck rfl) ?_
  refine JO.pur rfl rfl rfl (Pur.fieldAddr rfl) ?_
  refine JO.pur rfl rfl rfl (Pur.load rfl (CellIn.blk rfl)) ?_
  refine JO.pur rfl rfl rfl (Pur.addW rfl rfl) ?_
  refine JO.pur rfl rfl rfl (Pur.nilCheck rfl) ?_
  refine JO.pur rfl rfl rfl (Pur.fieldAddr rfl) ?_
  refine JO.effN rfl rfl (Eff.storeB rfl rfl rfl (.tail (.tail (.tail (.tail (.tail .head)))))) ?_
  rintro _ _ ⟨rfl, rfl⟩
  refine JO.nil ?_
  refine J.fin rfl ?_
  refine ⟨_, _, ⟨rfl, rfl⟩, rfl, fun h s => ?_⟩
  have e : g.fly.length + 1 = (g.fly ++ [m]).length := by simp
  simp only [List.length_singleton] at s
  rw [e] at s
  have s2 : Sat h (blk p (.cells #[.string g.kind, .string g.op, .int .i64 g.root, .slice am g.ms.length cm, .slice a11 (g.fly ++ [m]).length c11, .int .i64 (IntKind.i64.wrap (g.sent + 1))] 47) :: sl memE am cm (g.ms.zip bs) :: sl msgE a11 c11 (g.fly ++ [m]) :: star (List.zipWith mpA bs g.ms) :: L) := SubC.out h s
  exact GB_mk (g := put g m) hb s2

theorem send_ok {L : List Asn} {p : Nat} {am : Option Addr} {cm : Nat} {bs : List Nat} {g : Gs} {i : Nat} (hw : wf g) (hi : i < g.ms.length) (hf : g.fly.length ≤ 1000000) :
    CallS Try.prog 79 [.pointer (some ⟨p, 0, none⟩), .int .i64 (i : Int)].toArray (GB p am cm bs g :: L) (fun v M => v = .tuple #[] ∧ M = GB p am cm bs (send g i) :: L) := by
  have hr3 := hw.2.2.1 _ (mem_mem hi)
  have hp8 := pow_le hr3
  have hn8 := hw.2.1
  obtain ⟨w, hw2⟩ : ∃ w, w = 2 ^ (mem g i).r := ⟨_, rfl⟩
  rw [← hw2] at hp8
  refine CallS.ent ?_
  refine CallS.enter Try.func79 rfl rfl rfl rfl rfl ?_
  refine GB_open fun af cf hb => ?_
  obtain ⟨b, hbi⟩ : ∃ b, bs[i]? = some b := ⟨_, List.getElem?_eq_getElem (by omega)⟩
  have hzm := zip_get (mem_get hi) hbi
  refine J.seq rfl ?_
  refine J.region rfl ?_
  refine JO.pur rfl rfl rfl (Pur.move rfl) ?_
  refine JO.pur rfl rfl rfl (Pur.nilCheck rfl) ?_
  refine JO.pur rfl rfl rfl (Pur.fieldAddr rfl) ?_
  refine JO.pur rfl rfl rfl (Pur.load rfl (CellIn.blk rfl)) ?_
  refine JO.pur rfl rfl rfl (Pur.move rfl) ?_
  refine JO.pur rfl rfl rfl (Pur.idx rfl rfl rfl (by first | rfl | (simp; done) | omega | (rw [List.length_zip]; omega)) rfl (by rw [List.length_zip]; omega)) ?_
  refine JO.pur rfl rfl rfl (Pur.loadA rfl rfl rfl (CellsIn.el rfl hzm)) ?_
  refine JO.setv (u' := memV ((mem g i), b)) 12 rfl rfl ?_
  refine JO.eff rfl rfl rfl (Eff.alloc (cs := [_, _, _, _, _]) rfl) ?_
  rintro _ _ ⟨b4, rfl, rfl⟩
  refine JO.effN rfl rfl (Eff.storeBA (cs' := [_, _, _, _, _]) rfl rfl (by rfl) (by rfl) (by rfl)) ?_
  rintro _ _ ⟨rfl, rfl⟩
  refine JO.nil ?_
  refine J.seq rfl ?_
  refine J.region rfl ?_
  refine JO.pur rfl rfl rfl (Pur.move rfl) ?_
  refine JO.pur rfl rfl rfl (Pur.fieldAddr rfl) ?_
  refine JO.pur rfl rfl rfl (Pur.load rfl (CellIn.blk rfl)) ?_
  refine JO.setv (u' := .int .i64 ((mem g i).r : Int)) 15 rfl rfl ?_
  refine JO.pur rfl rfl rfl (Pur.shl rfl rfl rfl (by omega) (shl_ok hr3)) ?_
  refine JO.setv (u' := .int .i64 (w : Int)) 16 rfl (congrArg (Value.int .i64) (by rw [hw2]; exact shl_nat _)) ?_
  refine JO.pur rfl rfl rfl (Pur.add rfl rfl (wr64 (by omega))) ?_
  refine JO.setv (u' := .int .i64 ((i + w : Nat) : Int)) 17 rfl rfl ?_
  refine JO.pur rfl rfl rfl (Pur.assign rfl) ?_
  refine JO.nil ?_
  refine J.seq rfl ?_
  refine J.region rfl ?_
  refine JO.pur rfl rfl rfl (Pur.move rfl) ?_
  refine JO.pur rfl rfl rfl (Pur.move rfl) ?_
  refine JO.pur rfl rfl rfl (Pur.nilCheck rfl) ?_
  refine JO.pur rfl rfl rfl (Pur.fieldAddr rfl) ?_
  refine JO.pur rfl rfl rfl (Pur.load rfl (CellIn.blk rfl)) ?_
  refine JO.pur rfl rfl rfl (Pur.len rfl) ?_
  refine JO.pur rfl rfl rfl (Pur.lss rfl rfl) ?_
  refine JO.nil ?_
  refine J.splitB 24 rfl (fun h24 => ?_) (fun h24 => ?_)
  · try simp only [bSimp, bSimp2, ne_eq] at h24
    have hlt : i + w < g.ms.length := by omega
    refine J.condT rfl rfl ?_
    refine J.region rfl ?_
    refine JO.pur rfl rfl rfl (Pur.move rfl) ?_
    refine JO.pur rfl rfl rfl (Pur.move rfl) ?_
    refine JO.pur rfl rfl rfl (Pur.move rfl) ?_
    refine JO.pur rfl rfl rfl (Pur.fieldAddr rfl) ?_
    refine JO.pur rfl rfl rfl (Pur.load rfl (CellIn.blk rfl)) ?_
    refine JO.setv (u' := .int .i64 (mem g i).v) 29 rfl rfl ?_
    refine JO.pur rfl rfl rfl (Pur.fieldAddr rfl) ?_
    refine JO.pur rfl rfl rfl (Pur.load rfl (CellIn.blk rfl)) ?_
    refine JO.setv (u' := .int .i64 ((mem g i).r : Int)) 31 rfl rfl ?_
    refine JO.pur rfl rfl rfl (Pur.build (cs := [_, _, _, _, _]) rfl rfl) ?_
    refine JO.imp (M := GB p am cm bs g :: L) (fun h s => GB_mk (af := af) (cf := cf) hb (SubC.out (M := blk p (gC g.kind g.op g.root am g.ms.length cm af g.fly.length cf g.sent) :: sl memE am cm (g.ms.zip bs) :: sl msgE af cf g.fly :: star (List.zipWith mpA bs g.ms) :: L) h s)) ?_
    refine JO.eff rfl rfl rfl (Eff.call rfl (put_ok (m := ⟨i, i + w, (mem g i).v, false, (mem g i).r⟩) hf)) ?_
    rintro _ _ ⟨rfl, rfl⟩
    refine JO.nil ?_
    refine J.fin rfl ?_
    refine ⟨_, _, ⟨rfl, rfl⟩, rfl, fun h s => ?_⟩
    unfold send; rw [← hw2, if_pos hlt]
    exact SubC.out h s
  · try simp only [bSimp, bSimp2, ne_eq] at h24
    have hge : ¬ i + w < g.ms.length := by omega
    refine J.condF rfl rfl ?_
    refine J.skip rfl ?_
    refine J.fin rfl ?_
    refine ⟨_, _, ⟨rfl, rfl⟩, rfl, fun h s => ?_⟩
    unfold send; rw [← hw2, if_neg hge]
    exact GB_mk (af := af) (cf := cf) hb (SubC.out (M := blk p (gC g.kind g.op g.root am g.ms.length cm af g.fly.length cf g.sent) :: sl memE am cm (g.ms.zip bs) :: sl msgE af cf g.fly :: star (List.zipWith mpA bs g.ms) :: L) h s)

theorem none_ok {L : List Asn} {p : Nat} {kind op : ByteArray} {root sent : Int} {am af : Option Addr} {n cm k cf : Nat} [hb : BlkIn L p (.cells #[.string kind, .string op, .int .i64 root, .slice am n cm, .slice af k cf, .int .i64 sent] 47)] :
    CallS Try.prog 53 [.pointer (some ⟨p, 0, none⟩)].toArray L (fun v M => v = .bool (decide (n = 0)) ∧ M = L) := by
  refine CallS.ent ?_
  refine CallS.enter Try.func53 rfl rfl rfl rfl rfl ?_
  refine J.seq rfl ?_
  refine J.region rfl ?_
  refine JO.pur rfl rfl rfl (Pur.assign rfl) ?_
  refine JO.nil ?_
  refine J.seq rfl ?_
  refine J.region rfl ?_
  refine JO.pur rfl rfl rfl (Pur.move rfl) ?_
  refine JO.pur rfl rfl rfl (Pur.eqlPtrNil rfl) ?_
  refine JO.pur rfl rfl rfl (Pur.move rfl) ?_
  refine JO.setv (u' := .bool false) 5 rfl (congrArg Value.bool (rfl)) ?_
  refine JO.pur rfl rfl rfl (Pur.move rfl) ?_
  refine JO.pur rfl rfl rfl (Pur.nilCheck rfl) ?_
  refine JO.pur rfl rfl rfl (Pur.fieldAddr rfl) ?_
  refine JO.pur rfl rfl rfl (Pur.load rfl (CellIn.blk rfl)) ?_
  refine JO.pur rfl rfl rfl (Pur.len rfl) ?_
  refine JO.pur rfl rfl rfl (Pur.eqlI rfl rfl) ?_
  refine JO.pur rfl rfl rfl (Pur.pickF rfl rfl) ?_
  refine JO.pur rfl rfl rfl (Pur.assign rfl) ?_
  refine JO.nil ?_
  refine J.ret rfl rfl ?_
  refine ⟨_, _, ⟨rfl, rfl⟩, congrArg Value.bool (decide_eq_decide.2 (by omega)), SubC.out⟩

end Go.Proofs.Ytoikjjpleonllaa
