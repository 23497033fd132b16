/- Words for memory: slices that read as lists of cells, frames, appends. Plain theorems; no condition. -/
import Derived.WalkKit
import Derived.WalkSpells
import Derived.WalkLawsBesides
import Derived.Lib.Hide
import Derived.Below
import Derived.Laws.OwnMore
import Derived.Deep.Draws
import Derived.Deep.QuietTactic
import Derived.BigQuiet
import Derived.Maps.AppendAt
import Derived.OwnWalk
namespace Go.Proofs.Ythceiokibionkaa
open Go.RowKit

theorem ret_int {k : IntKind} {a b : Int} (h : a = b) : Ending.returned (.int k a) = .returned (.int k b) := by rw [h]
theorem ret_bool {a b : Bool} (h : a = b) : Ending.returned (.bool a) = .returned (.bool b) := by rw [h]

theorem get_of_take {α : Type} {l : List α} {n j : Nat} {u : α} (h : (l.take n)[j]? = some u) : l[j]? = some u := by
  rw [List.getElem?_take] at h
  split at h
  · exact h
  · cases h

/-- Blocks of a set S, and new ones, may have turned; nothing else. -/
structure Only (S : Nat → Prop) (w w' : World) : Prop where
  os : w'.os = w.os
  tape : w'.tape = w.tape
  output : w'.output = w.output
  size : w.heap.size ≤ w'.heap.size
  block : ∀ k, k < w.heap.size → ¬ S k → w'.heap[k]? = w.heap[k]?

section
variable {S T : Nat → Prop} {w w' w'' : World}
theorem Only.refl (S : Nat → Prop) (w : World) : Only S w w := ⟨rfl, rfl, rfl, Nat.le_refl _, fun _ _ _ => rfl⟩
theorem Only.trans (h : Only S w w') (k : Only S w' w'') : Only S w w'' :=
  ⟨k.os.trans h.os, k.tape.trans h.tape, k.output.trans h.output, Nat.le_trans h.size k.size, fun i hi hS => (k.block i (Nat.lt_of_lt_of_le hi h.size) hS).trans (h.block i hi hS)⟩
/-- the second step may turn, besides, what was new behind the first -/
theorem Only.trans_new (h : Only S w w') (k : Only T w' w'') (hT : ∀ i, T i → i < w.heap.size → S i) : Only S w w'' :=
  ⟨k.os.trans h.os, k.tape.trans h.tape, k.output.trans h.output, Nat.le_trans h.size k.size, fun i hi hS => (k.block i (Nat.lt_of_lt_of_le hi h.size) (fun hh => hS (hT i hh hi))).trans (h.block i hi hS)⟩
theorem Only.mono (h : Only S w w') (hST : ∀ i, S i → T i) : Only T w w' := ⟨h.os, h.tape, h.output, h.size, fun i hi hT => h.block i hi (fun hs => hT (hST i hs))⟩
theorem Only.drewN (h : Only S w w') (n : Nat) : Only S w (w'.drewN n) := ⟨h.os, h.tape, h.output, h.size, h.block⟩
theorem Only.drew (h : Only S w w') : Only S w w'.drew := ⟨h.os, h.tape, h.output, h.size, h.block⟩
theorem Only.alloc (h : Only S w w') (o : Obj) : Only S w (w'.alloc o) :=
  ⟨h.os, h.tape, h.output, Nat.le_trans h.size (by simp), fun i hi hS => (Below.heap_alloc w' o i (Nat.lt_of_lt_of_le hi h.size)).trans (h.block i hi hS)⟩
theorem Only.setCell (h : Only S w w') {p : Addr} (hp : S p.block ∨ w.heap.size ≤ p.block) (u : Value) : Only S w (w'.setCell p u) :=
  ⟨h.os, h.tape, h.output, by simpa [World.setCell] using h.size, fun i hi hS => (Below.heap_setCell w' p u i (by rintro rfl; rcases hp with hp | hp; exact hS hp; omega)).trans (h.block i hi hS)⟩
theorem Only.of_below (h : Below w.heap.size w w') : Only S w w' := ⟨h.os, h.tape, h.output, h.size, fun i hi _ => h.block i hi⟩
theorem Only.below (h : Only (fun _ => False) w w') : Below w.heap.size w w' := ⟨h.os, h.tape, h.output, h.size, fun i hi => h.block i hi (fun h => h)⟩
theorem Only.grown {row : Option Nat} (h : Only S w w') (hg : w'.grownBy w'' row) (hr : ∀ g, row = some g → S g ∨ w.heap.size ≤ g) : Only S w w'' :=
  ⟨hg.os.trans h.os, hg.tape.trans h.tape, hg.output.trans h.output, Nat.le_trans h.size hg.size, fun i hi hS => (hg.block i (Nat.lt_of_lt_of_le hi h.size) (fun e => by rcases hr i e.symm with h1 | h1; exact hS h1; omega)).trans (h.block i hi hS)⟩
theorem Only.cell (h : Only S w w') {p : Addr} (hp : p.block < w.heap.size) (hS : ¬ S p.block) : w'.cell? p = w.cell? p := World.cell?_of_block (w := w) (h.block p.block hp hS)
theorem Only.frozen (h : Only S w w') {p : Addr} (hp : p.block < w.heap.size) (hS : ¬ S p.block) : w'.frozen? p = w.frozen? p := World.frozen?_of_block (w := w) (h.block p.block hp hS)
end

/-- A slice value of n elements of some size holds the cells xs; its block is one of F. -/
def CellsR (F : Nat → Prop) (w : World) (size : Nat) (v : Value) (n : Nat) (xs : List Value) : Prop :=
  xs.length = n * size ∧ ∃ a cap, v = .slice a n cap ∧ n ≤ cap ∧ cap ≤ maxLen ∧ (0 < n → ∃ b off, a = some ⟨b, off, none⟩ ∧ F b ∧ b < w.heap.size ∧ ∀ j u, xs[j]? = some u → w.cell? ⟨b, off + j, none⟩ = some u)

section
variable {F G : Nat → Prop} {w w' : World} {size n : Nat} {v : Value} {xs : List Value}
theorem CellsR.nil (F : Nat → Prop) (w : World) (size : Nat) : CellsR F w size (.slice none 0 0) 0 [] := ⟨by simp, none, 0, rfl, Nat.le_refl _, Nat.zero_le _, fun h => absurd h (by omega)⟩
theorem CellsR.keep (h : CellsR F w size v n xs) (hs : w.heap.size ≤ w'.heap.size) (hk : ∀ i, F i → i < w.heap.size → w'.heap[i]? = w.heap[i]?) : CellsR F w' size v n xs := by
  obtain ⟨hl, a, cap, hv, hc, hm, hx⟩ := h
  refine ⟨hl, a, cap, hv, hc, hm, fun hn => ?_⟩
  obtain ⟨b, off, ha, hF, hb, hcell⟩ := hx hn
  exact ⟨b, off, ha, hF, Nat.lt_of_lt_of_le hb hs, fun j u hu => (World.cell?_of_block (w := w) (a := ⟨b, off + j, none⟩) (hk b hF hb)).trans (hcell j u hu)⟩
theorem CellsR.mono (h : CellsR F w size v n xs) (hFG : ∀ i, F i → i < w.heap.size → G i) : CellsR G w size v n xs := by
  obtain ⟨hl, a, cap, hv, hc, hm, hx⟩ := h
  refine ⟨hl, a, cap, hv, hc, hm, fun hn => ?_⟩
  obtain ⟨b, off, ha, hF, hb, hcell⟩ := hx hn
  exact ⟨b, off, ha, hFG b hF hb, hb, hcell⟩
theorem CellsR.only {S : Nat → Prop} (h : CellsR F w size v n xs) (ho : Only S w w') (hd : ∀ i, F i → ¬ S i) : CellsR F w' size v n xs :=
  h.keep ho.size fun i hi hlt => ho.block i hlt (hd i hi)
theorem CellsR.below (h : CellsR F w size v n xs) (hb : Below w.heap.size w w') : CellsR F w' size v n xs := h.keep hb.size fun i _ hlt => hb.block i hlt
theorem CellsR.alloc (h : CellsR F w size v n xs) (o : Obj) : CellsR F (w.alloc o) size v n xs := h.keep (by simp) fun i _ hlt => Below.heap_alloc w o i hlt
theorem CellsR.drewN (h : CellsR F w size v n xs) (k : Nat) : CellsR F (w.drewN k) size v n xs := h
theorem CellsR.drew (h : CellsR F w size v n xs) : CellsR F w.drew size v n xs := h
/-- 's[:k]' -/
theorem CellsR.upto (h : CellsR F w size v n xs) {a : Option Addr} {cap k : Nat} (hv : v = .slice a n cap) (hk : k ≤ n) : CellsR F w size (.slice a k cap) k (xs.take (k * size)) := by
  obtain ⟨hl, a', cap', hv', hc, hm, hx⟩ := h
  obtain ⟨rfl, _, rfl⟩ : a = a' ∧ n = n ∧ cap = cap' := by rw [hv] at hv'; simpa using hv'
  refine ⟨by rw [List.length_take, hl]; exact Nat.min_eq_left (Nat.mul_le_mul_right _ hk), a, cap, rfl, by omega, hm, fun hn => ?_⟩
  obtain ⟨b, off, ha, hF, hb, hcell⟩ := hx (by omega)
  exact ⟨b, off, ha, hF, hb, fun j u hu => hcell j u (get_of_take hu)⟩
/-- 's[k:]' -/
theorem CellsR.from_ (h : CellsR F w size v n xs) {a : Option Addr} {cap k : Nat} (hv : v = .slice a n cap) (hk : k ≤ n) :
    CellsR F w size (.slice (if cap = k then a else a.map (·.add (k * size))) (n - k) (cap - k)) (n - k) (xs.drop (k * size)) := by
  obtain ⟨hl, a', cap', hv', hc, hm, hx⟩ := h
  obtain ⟨rfl, _, rfl⟩ : a = a' ∧ n = n ∧ cap = cap' := by rw [hv] at hv'; simpa using hv'
  refine ⟨by rw [List.length_drop, hl, Nat.sub_mul], _, _, rfl, by omega, by omega, fun hn => ?_⟩
  obtain ⟨b, off, rfl, hF, hb, hcell⟩ := hx (by omega)
  rw [if_neg (by omega)]
  refine ⟨b, off + k * size, ?_, hF, hb, fun j u hu => ?_⟩
  · simp only [Option.map, Addr.add]
    split <;> simp_all
  · rw [Nat.add_assoc]
    exact hcell _ u (by rw [← hu, List.getElem?_drop])
/-- a row of the call's own, read -/
theorem CellsR.of_own {base : Nat} {e : TypeId} (h : w.ownsRow base e size v n xs) : CellsR (fun i => v.ownBlock = some i) w size v n xs := by
  refine ⟨h.1, ?_⟩
  rcases h.2 with ⟨rfl, rfl⟩ | ⟨g, cap, cur, rfl, hb, hh, hnc, hcm, hcs, htk⟩
  · exact ⟨none, 0, rfl, Nat.le_refl _, Nat.zero_le _, fun h => absurd h (by omega)⟩
  · refine ⟨_, cap, rfl, hnc, hcm, fun hn => ⟨g, 0, rfl, rfl, (Array.getElem?_eq_some_iff.1 hh).1, fun j u hu => ?_⟩⟩
    rw [Nat.zero_add]
    have hj : j < xs.length := (List.getElem?_eq_some_iff.1 hu).1
    simp only [World.cell?, hh]
    simp
    rw [← htk] at hu
    have h2 := get_of_take hu
    simpa using h2
end

/-- A slice of ints reads as a list. -/
def IntsR (F : Nat → Prop) (w : World) (v : Value) (xs : List Int) : Prop := CellsR F w 1 v xs.length (xs.map (Value.int .i64))
section
variable {F G : Nat → Prop} {w w' : World} {v : Value} {xs : List Int}
theorem IntsR.open_ (h : IntsR F w v xs) : ∃ a cap, v = .slice a xs.length cap ∧ xs.length ≤ cap ∧ cap ≤ 9223372036854775807 ∧ (0 < xs.length → ∃ b off, a = some ⟨b, off, none⟩ ∧ F b ∧ b < w.heap.size ∧ ∀ j x, xs[j]? = some x → w.cell? ⟨b, off + j, none⟩ = some (.int .i64 x)) := by
  obtain ⟨hl, a, cap, hv, hc, hm, hx⟩ := h
  refine ⟨a, cap, hv, hc, by unfold maxLen at hm; omega, fun hn => ?_⟩
  obtain ⟨b, off, ha, hF, hb, hcell⟩ := hx hn
  exact ⟨b, off, ha, hF, hb, fun j x hj => hcell j _ (by rw [List.getElem?_map, hj]; rfl)⟩
theorem IntsR.keep (h : IntsR F w v xs) (hs : w.heap.size ≤ w'.heap.size) (hk : ∀ i, F i → i < w.heap.size → w'.heap[i]? = w.heap[i]?) : IntsR F w' v xs := CellsR.keep h hs hk
theorem IntsR.mono (h : IntsR F w v xs) (hFG : ∀ i, F i → i < w.heap.size → G i) : IntsR G w v xs := CellsR.mono h hFG
theorem IntsR.only {S : Nat → Prop} (h : IntsR F w v xs) (ho : Only S w w') (hd : ∀ i, F i → ¬ S i) : IntsR F w' v xs := CellsR.only h ho hd
theorem IntsR.below (h : IntsR F w v xs) (hb : Below w.heap.size w w') : IntsR F w' v xs := CellsR.below h hb
theorem IntsR.alloc (h : IntsR F w v xs) (o : Obj) : IntsR F (w.alloc o) v xs := CellsR.alloc h o
theorem IntsR.drewN (h : IntsR F w v xs) (k : Nat) : IntsR F (w.drewN k) v xs := h
theorem IntsR.nil (F : Nat → Prop) (w : World) : IntsR F w (.slice none 0 0) [] := CellsR.nil F w 1
theorem IntsR.upto (h : IntsR F w v xs) {a : Option Addr} {n cap k : Nat} (hv : v = .slice a n cap) (hk : k ≤ xs.length) : IntsR F w (.slice a k cap) (xs.take k) := by
  have hn : n = xs.length := by obtain ⟨_, _, _, e, _⟩ := h; rw [hv] at e; simp at e; exact e.2.1
  subst hn
  have h1 := CellsR.upto h hv hk
  unfold IntsR
  rw [List.length_take, Nat.min_eq_left hk, List.map_take]
  simpa using h1
theorem IntsR.from_ (h : IntsR F w v xs) {a : Option Addr} {n cap k : Nat} (hv : v = .slice a n cap) (hk : k ≤ xs.length) : IntsR F w (.slice (if cap = k then a else a.map (·.add k)) (n - k) (cap - k)) (xs.drop k) := by
  have hn : n = xs.length := by obtain ⟨_, _, _, e, _⟩ := h; rw [hv] at e; simp at e; exact e.2.1
  subst hn
  have h1 := CellsR.from_ h hv hk
  unfold IntsR
  rw [List.length_drop, List.map_drop]
  simpa using h1
theorem IntsR.cells {n : Nat} (h : IntsR F w v xs) (hn : xs.length = n) : CellsR F w 1 v n (xs.map (Value.int .i64)) := by subst hn; exact h
theorem IntsR.of_own {base : Nat} {e : TypeId} {n : Nat} (h : w.ownsRow base e 1 v n (xs.map (Value.int .i64))) : IntsR (fun i => v.ownBlock = some i) w v xs := by
  have hn : xs.length = n := by simpa using h.1
  subst hn
  exact CellsR.of_own h
end

/-! ### append onto a row of the call's own, from whatever source -/
section
variable {P : Program} (w : World)
theorem run_append_src_nil (base : Nat) (t ty e : TypeId) (i : TypeInfo) (size : Nat) (ht : P.underlying t = some (.slice e)) (hi : P.info? e = some i)
    (v : Value) (n : Nat) (xs : List Value) (hown : w.ownsRow base e size v n xs) (c : Nat) : (Builtin.append_ #[t, t] ty #[v, .slice none 0 c]).run P w = .ok v w := by
  rcases hown.2 with ⟨rfl, rfl⟩ | ⟨g, cap, cur, rfl, _, _, hnc, _⟩
  · simp [Builtin.append_, run_underlying ht, sizeOf, typeInfo, hi, Builtin.lenOf, Builtin.firstCells]
  · simp [Builtin.append_, run_underlying ht, sizeOf, typeInfo, hi, Builtin.lenOf, Builtin.firstCells, hnc, storeCells]

theorem run_append_cells {F : Nat → Prop} (base : Nat) (t ty e : TypeId) (i : TypeInfo) (z : Value) (size bytes : Nat) (ht : P.underlying t = some (.slice e)) (hi : P.info? e = some i) (hz : i.zero = some z)
    (hsize : i.size = size) (hby : i.bytes = bytes) (hzs : z.cells.size = size) (hsz : 0 < size)
    (v : Value) (n : Nat) (xs : List Value) (hown : w.ownsRow base e size v n xs)
    (s : Value) (m : Nat) (news : List Value) (hr : CellsR F w size s m news) (h1 : ∀ u ∈ news, u.oneCell' = true)
    (h63 : n + m ≤ maxLen) (hbytes : (n + m) * bytes ≤ 140737488355328) (hbase : base ≤ w.heap.size) :
    ∃ v' w', (Builtin.append_ #[t, t] ty #[v, s]).run P w = .ok v' w' ∧ w'.ownsRow base e size v' (n + m) (xs ++ news) ∧ w.grownBy w' v.ownBlock ∧
      (v'.ownBlock = v.ownBlock ∨ v'.ownBlock = some w.heap.size) := by
  obtain ⟨hl, A, cap, rfl, hmc, hcm, hx⟩ := hr
  rcases Nat.eq_zero_or_pos m with h0 | h0
  · subst h0
    have hn : news = [] := List.eq_nil_of_length_eq_zero (by simpa using hl)
    subst hn
    rcases A with _ | ad
    · exact ⟨v, w, run_append_src_nil w base t ty e i size ht hi v n xs hown cap, by simpa using hown, World.grownBy.refl w _, .inl rfl⟩
    · obtain ⟨v', w', hrun, h2, h3, _, h5⟩ := run_append_own_at (P := P) w base t ty e i z size bytes ht hi hz hsize hby hzs hsz v n xs hown ad 0 cap [] (by simp) (by simp) (by simp) h63 hbytes hbase
      exact ⟨v', w', hrun, h2, h3, h5⟩
  · obtain ⟨b, off, rfl, _, _, hcell⟩ := hx h0
    obtain ⟨v', w', hrun, h2, h3, _, h5⟩ := run_append_own_at (P := P) w base t ty e i z size bytes ht hi hz hsize hby hzs hsz v n xs hown ⟨b, off, none⟩ m cap news hl (fun j u hu => by
      have := hcell j u hu
      unfold Addr.add
      split
      · rename_i h; subst h; simpa using this
      · exact this) h1 h63 hbytes hbase
    exact ⟨v', w', hrun, h2, h3, h5⟩

theorem wpList_append_cells {F : Nat → Prop} {ops : Array Oper} {rest : List Oper} {o : Oper} {a : Act} {Q : Exit → Act → World → Prop} (hgd : o.guard = none) (s x : Operand) (t : TypeId)
    (ho : o.op = .call { callee := .builtin .append, args := #[s, x], argTypes := #[t, t] })
    (base : Nat) (e : TypeId) (i : TypeInfo) (z : Value) (size bytes : Nat) (ht : P.underlying t = some (.slice e)) (hi : P.info? e = some i) (hz : i.zero = some z)
    (hsize : i.size = size) (hby : i.bytes = bytes) (hzs : z.cells.size = size) (hsz : 0 < size)
    (v : Value) (n : Nat) (xs : List Value) (hs : a.eval s = v) (hown : w.ownsRow base e size v n xs)
    (sv : Value) (m : Nat) (news : List Value) (hx : a.eval x = sv) (hr : CellsR F w size sv m news) (h1 : ∀ u ∈ news, u.oneCell' = true)
    (h63 : n + m ≤ maxLen) (hbytes : (n + m) * bytes ≤ 140737488355328) (hbase : base ≤ w.heap.size)
    (h : ∀ v' w', w'.ownsRow base e size v' (n + m) (xs ++ news) → w.grownBy w' v.ownBlock → (v'.ownBlock = v.ownBlock ∨ v'.ownBlock = some w.heap.size) → wpList P ops Q rest (a.put o.dst v') w') : wpList P ops Q (o :: rest) a w :=
  wpList_plain hgd fun _ hK => by
    obtain ⟨v', w', hrun, h2, h3, h4⟩ := run_append_cells (P := P) w base t o.type e i z size bytes ht hi hz hsize hby hzs hsz v n xs hown sv m news hr h1 h63 hbytes hbase
    unfold Oper.wp execOp
    simp only [ho, resolve, invoke, builtin, Sem.run_bind, Sem.run_pure, Result.andThen_ok, List.map_toArray, List.map_cons, List.map_nil, hs, hx, hrun]
    exact hK _ _ (h v' w' h2 h3 h4)
theorem ownsRow_slice {w : World} {base : Nat} {e : TypeId} {size n : Nat} {v : Value} {xs : List Value} (h : w.ownsRow base e size v n xs) : ∃ a c, v = .slice a n c ∧ n ≤ c ∧ c ≤ maxLen := by
  rcases h.2 with ⟨rfl, rfl⟩ | ⟨g, cap, cur, rfl, _, _, h1, h2, _⟩
  · exact ⟨none, 0, rfl, Nat.le_refl _, Nat.zero_le _⟩
  · exact ⟨_, _, rfl, h1, h2⟩
/-- the same, the new value written out -/
theorem wpList_append_slice {F : Nat → Prop} {ops : Array Oper} {rest : List Oper} {o : Oper} {a : Act} {Q : Exit → Act → World → Prop} (hgd : o.guard = none) (s x : Operand) (t : TypeId)
    (ho : o.op = .call { callee := .builtin .append, args := #[s, x], argTypes := #[t, t] })
    (base : Nat) (e : TypeId) (i : TypeInfo) (z : Value) (size bytes : Nat) (ht : P.underlying t = some (.slice e)) (hi : P.info? e = some i) (hz : i.zero = some z)
    (hsize : i.size = size) (hby : i.bytes = bytes) (hzs : z.cells.size = size) (hsz : 0 < size)
    (v : Value) (n : Nat) (xs : List Value) (hs : a.eval s = v) (hown : w.ownsRow base e size v n xs)
    (sv : Value) (m : Nat) (news : List Value) (hx : a.eval x = sv) (hr : CellsR F w size sv m news) (h1 : ∀ u ∈ news, u.oneCell' = true)
    (h63 : n + m ≤ maxLen) (hbytes : (n + m) * bytes ≤ 140737488355328) (hbase : base ≤ w.heap.size)
    (h : ∀ a' c' w', w'.ownsRow base e size (.slice a' (n + m) c') (n + m) (xs ++ news) → w.grownBy w' v.ownBlock → ((Value.slice a' (n + m) c').ownBlock = v.ownBlock ∨ (Value.slice a' (n + m) c').ownBlock = some w.heap.size) → wpList P ops Q rest (a.put o.dst (.slice a' (n + m) c')) w') : wpList P ops Q (o :: rest) a w :=
  wpList_append_cells w hgd s x t ho base e i z size bytes ht hi hz hsize hby hzs hsz v n xs hs hown sv m news hx hr h1 h63 hbytes hbase fun v' w' h2 h3 h4 => by
    obtain ⟨a', c', rfl, _, _⟩ := ownsRow_slice h2
    exact h a' c' w' h2 h3 h4
end
end Go.Proofs.Ythceiokibionkaa
