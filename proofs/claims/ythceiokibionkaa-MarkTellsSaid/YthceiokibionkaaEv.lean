/- A marker's blocks may turn, all other ones stay: contracts in that form. -/
import Derived.Test.YthceiokibionkaaAwake
namespace Go.Proofs.Ythceiokibionkaa
open Go.RowKit

/-- from w to w' only blocks of F, and new ones, have turned; F' is F, or new -/
structure Ev (F : Nat → Prop) (w : World) (F' : Nat → Prop) (w' : World) : Prop where
  only : Only F w w'
  sub : ∀ i, F' i → F i ∨ w.heap.size ≤ i
theorem Ev.refl (F : Nat → Prop) (w : World) : Ev F w F w := ⟨Only.refl F w, fun _ h => .inl h⟩
theorem Ev.trans {F F' F'' : Nat → Prop} {w w' w'' : World} (h : Ev F w F' w') (k : Ev F' w' F'' w'') : Ev F w F'' w'' :=
  ⟨h.only.trans_new k.only fun i hi hlt => (h.sub i hi).elim (fun h => h) (fun h => by omega),
   fun i hi => (k.sub i hi).elim (h.sub i) fun h1 => .inr (Nat.le_trans h.only.size h1)⟩
theorem Ev.of_below {F : Nat → Prop} {w w' : World} (h : Below w.heap.size w w') : Ev F w F w' := ⟨Only.of_below h, fun _ h => .inl h⟩
theorem Ev.drewN (F : Nat → Prop) (w : World) (n : Nat) : Ev F w F (w.drewN n) := ⟨(Only.refl F w).drewN n, fun _ h => .inl h⟩
theorem Ev.below {F F' : Nat → Prop} {w0 w w' : World} (h : Ev F w F' w') (hb : Below w0.heap.size w0 w) (hF : ∀ i, F i → w0.heap.size ≤ i) : Below w0.heap.size w0 w' :=
  ⟨h.only.os.trans hb.os, h.only.tape.trans hb.tape, h.only.output.trans hb.output, Nat.le_trans hb.size h.only.size, fun i hi => (h.only.block i (Nat.lt_of_lt_of_le hi hb.size) (fun h1 => by have := hF i h1; omega)).trans (hb.block i hi)⟩
theorem Ev.above {F F' : Nat → Prop} {w0 w w' : World} (h : Ev F w F' w') (hb : Below w0.heap.size w0 w) (hF : ∀ i, F i → w0.heap.size ≤ i) : ∀ i, F' i → w0.heap.size ≤ i :=
  fun i hi => (h.sub i hi).elim (hF i) fun h1 => Nat.le_trans hb.size h1

/-- a list of ints that lies outside F -/
def Dat (F : Nat → Prop) (w : World) (v : Value) (xs : List Int) : Prop := IntsR (fun i => ¬ F i) w v xs
theorem Dat.ev {F F' : Nat → Prop} {w w' : World} {v : Value} {xs : List Int} (h : Dat F w v xs) (k : Ev F w F' w') : Dat F' w' v xs :=
  (IntsR.only (F := fun i => ¬ F i ∧ i < w.heap.size) (IntsR.mono h fun i hi hl => ⟨hi, hl⟩) k.only (fun i hi => hi.1)).mono fun i hi _ h1 => (k.sub i h1).elim hi.1 fun h2 => by omega
theorem Dat.below {F : Nat → Prop} {w w' : World} {v : Value} {xs : List Int} (h : Dat F w v xs) (k : Below w.heap.size w w') : Dat F w' v xs := h.ev (Ev.of_below k)
theorem Dat.slice {F : Nat → Prop} {w : World} {v : Value} {xs : List Int} (h : Dat F w v xs) : ∃ a n c, v = .slice a n c := by obtain ⟨a, c, e, _⟩ := IntsR.open_ h; exact ⟨_, _, _, e⟩
theorem Dat.late {F : Nat → Prop} {w w' : World} {v : Value} {xs : List Int} (hF : ∀ i, F i → i < w.heap.size) (h : IntsR (fun i => w.heap.size ≤ i) w' v xs) : Dat F w' v xs :=
  IntsR.mono h fun i hi _ h1 => by have := hF i h1; have h2 : w.heap.size ≤ i := hi; omega
theorem Dat.nil (F : Nat → Prop) (w : World) : Dat F w (.slice none 0 0) [] := IntsR.nil _ _

section
variable {w : World} {bm : Nat} {F : Nat → Prop} {G B ids xs : List Int} {iv v : Value}
theorem MarkSt.facts (h : MarkSt w bm F G B) : Rise G ∧ Rise B ∧ (∀ x, x ∈ G → x ∉ B) ∧ (∀ x, x ∈ G ∨ x ∈ B → 1 ≤ x ∧ x ≤ 100000) := by
  obtain ⟨_, _, _, _, _, _, h⟩ := h; exact ⟨h.sg, h.sb, h.dis, h.rng⟩
theorem MarkSt.later {w' : World} (h : MarkSt w bm F G B) (k : Below w.heap.size w w') : MarkSt w' bm F G B :=
  h.only (T := fun i => w.heap.size ≤ i) (Only.of_below k) (fun i hi => by have := h.lt i hi; show ¬ _; omega)
theorem marked_ev (h : MarkSt w bm F G B) : Calls Try.prog 19 #[.pointer (some ⟨bm, 0, none⟩)] w fun e w' => ∃ a n c, e = .returned (.slice a n c) ∧ Dat F w' (.slice a n c) (markedL G B) ∧ Below w.heap.size w w' := by
  refine (marked_any bm F G B w h).mono ?_
  rintro e w' ⟨v, rfl, hi, hb⟩
  have hd := Dat.late h.lt hi
  obtain ⟨a, n, c, rfl⟩ := hd.slice
  exact ⟨a, n, c, rfl, hd, hb⟩
theorem scan_ev (h : MarkSt w bm F G B) (hi : Dat F w iv ids) (id : Int) (hg : id ∈ G) (hr : rightL ids = true) :
    Calls Try.prog 11 #[.pointer (some ⟨bm, 0, none⟩), .int .i64 id, iv] w fun e w' => e = .returned (.int .i64 0) ∧ ∃ F', MarkSt w' bm F' (scanG G B id ids) (putL B id) ∧ Ev F w F' w' := by
  refine (scan_any bm F _ G B id ids iv w h hg hi (fun i hi => hi) hr).mono ?_
  rintro e w' ⟨rfl, F', h1, h2, h3⟩
  exact ⟨rfl, F', h1, h2, h3⟩
theorem wrote_ev (h : MarkSt w bm F G B) (hi : Dat F w iv ids) (hr : rightL ids = true) :
    Calls Try.prog 13 #[.pointer (some ⟨bm, 0, none⟩), iv] w fun e w' => e = .returned (.int .i64 0) ∧ ∃ F', MarkSt w' bm F' (seeG G B ids) B ∧ Ev F w F' w' := by
  refine (wrote_any bm F _ G B ids iv w h hi (fun i hi => hi) hr).mono ?_
  rintro e w' ⟨rfl, F', h1, h2, h3⟩
  exact ⟨rfl, F', h1, h2, h3⟩
theorem next_ev (h : MarkSt w bm F G B) : Calls Try.prog 15 #[.pointer (some ⟨bm, 0, none⟩)] w fun e w' => e = .returned (.tuple #[.int .i64 (nextI G), .bool (nextB G)]) ∧ ∃ F', MarkSt w' bm F' G B ∧ Ev F w F' w' := by
  refine (next_any bm F G B w h).mono ?_
  rintro e w' ⟨rfl, F', h1, h2, h3⟩
  exact ⟨rfl, F', h1, h2, h3⟩
theorem list_ev (h : Dat F w v xs) (hx : I64 xs) (kind id : Int) (odd : Bool) (many : Int) (hm1 : 1 ≤ many) (hm2 : many ≤ 1000000) (hF : ∀ i, F i → i < w.heap.size) :
    Calls Try.prog 7 #[.agg #[.int .i64 kind, .int .i64 id, v, .bool odd], .int .i64 many] w fun e w' => ∃ a n c, e = .returned (.slice a n c) ∧ Dat F w' (.slice a n c) (listL xs odd many.toNat) ∧ Below w.heap.size w w' := by
  refine (list_any (fun i => ¬ F i ∧ i < w.heap.size) kind id v odd many w xs (IntsR.mono h fun i hi hl => ⟨hi, hl⟩) hx (fun i hi => hi.2) hm1 hm2).mono ?_
  rintro e w' ⟨v', rfl, hi, hb⟩
  have hd : Dat F w' v' (listL xs odd many.toNat) := IntsR.mono hi fun i hi _ h1 => by
    rcases hi with h2 | h2
    · exact h2.1 h1
    · have := hF i h1; omega
  obtain ⟨a, n, c, rfl⟩ := hd.slice
  exact ⟨a, n, c, rfl, hd, hb⟩
theorem put_ev (h : Dat F w v xs) (n : Int) (hl : xs.length ≤ 1000000000) (hF : ∀ i, F i → i < w.heap.size) :
    Calls Try.prog 22 #[v, .int .i64 n] w fun e w' => ∃ a m c, e = .returned (.slice a m c) ∧ Dat F w' (.slice a m c) (putL xs n) ∧ Below w.heap.size w w' := by
  refine (put_any (fun i => ¬ F i ∧ i < w.heap.size) v w xs n (IntsR.mono h fun i hi hl => ⟨hi, hl⟩) (fun i hi => hi.2) hl).mono ?_
  rintro e w' ⟨v', rfl, hi, hb⟩
  have hd : Dat F w' v' (putL xs n) := IntsR.mono hi fun i hi _ h1 => by
    rcases hi with h2 | h2
    · exact h2.1 h1
    · have := hF i h1; omega
  obtain ⟨a, m, c, rfl⟩ := hd.slice
  exact ⟨a, m, c, rfl, hd, hb⟩
theorem in_is (b : Bool) (h : Dat F w v xs) (n : Int) (hb : decide (n ∈ xs) = b) : Calls Try.prog 21 #[v, .int .i64 n] w fun e w' => e = .returned (.bool b) ∧ w = w' := by
  subst hb; exact in_any _ v w xs n h
theorem nums_is (b : Bool) {u : Value} {ys : List Int} {F' : Nat → Prop} (h : Dat F w v xs) (k : Dat F' w u ys) (hb : numsL xs ys = b) : Calls Try.prog 18 #[v, u] w fun e w' => e = .returned (.bool b) ∧ ∃ n, w' = w.drewN n := by
  subst hb; exact nums_any _ _ v u w xs ys h k
end

/-! ### the calls' data -/
structure CallD where
  kind : Int
  id : Int
  lv : Value
  xs : List Int
  odd : Bool
/-- a list of calls, all of whose memory lies in the first n blocks -/
def CallsR (w : World) (n : Nat) (v : Value) (cs : List CallD) : Prop :=
  ∃ a cap, v = .slice a cs.length cap ∧ cs.length ≤ 9223372036854775807 ∧ (0 < cs.length → ∃ b off, a = some ⟨b, off, none⟩ ∧ b < n ∧ ∀ j c, cs[j]? = some c →
    (w.cell? ⟨b, off + j * 4, none⟩ = some (.int .i64 c.kind) ∧ w.cell? ⟨b, off + j * 4 + 1, none⟩ = some (.int .i64 c.id) ∧ w.cell? ⟨b, off + j * 4 + 2, none⟩ = some c.lv ∧ w.cell? ⟨b, off + j * 4 + 3, none⟩ = some (.bool c.odd)) ∧
    IntsR (fun i => i < n) w c.lv c.xs ∧ I64 c.xs ∧ I64 [c.kind, c.id])

/-! ### plain facts -/
theorem right_listL (xs : List Int) : rightL (listL xs false 12) = true := by
  unfold rightL listL
  rw [List.all_eq_true]
  intro x hx
  rw [if_neg (by simp)] at hx
  obtain ⟨y, _, rfl⟩ := List.mem_map.1 hx
  have := pickN_lt y 12 (by omega)
  simp; omega
theorem seeG_same {G B ids : List Int} (hG : Rise G) (h : ∀ x, x ∈ ids → x ∈ G ∨ x ∈ B) : seeG G B ids = G :=
  rise_ext (rise_seeG B ids G hG) hG fun x => by
    rw [mem_seeG]
    constructor
    · rintro (h1 | ⟨h1, h2⟩)
      · exact h1
      · exact (h x h1).resolve_right h2
    · exact .inl
theorem nums_black {G B : List Int} (hB : Rise B) (hd : ∀ x, x ∈ G → x ∉ B) : numsL B (markedL G B) = G.isEmpty := by
  cases G with
  | nil => simp [numsL, markedL]
  | cons g r =>
    simp only [numsL, List.isEmpty_cons, decide_eq_false_iff_not]
    intro e
    have h1 : g ∈ markedL (g :: r) B := (mem_markedL g _ _).2 (.inl (by simp))
    rw [← e] at h1
    exact hd g (by simp) h1
theorem right_markedL {G B : List Int} (h : ∀ x, x ∈ G ∨ x ∈ B → 1 ≤ x ∧ x ≤ 100000) : rightL (markedL G B) = true := by
  unfold rightL
  rw [List.all_eq_true]
  intro x hx
  simpa using h x ((mem_markedL x G B).1 hx)
end Go.Proofs.Ythceiokibionkaa
