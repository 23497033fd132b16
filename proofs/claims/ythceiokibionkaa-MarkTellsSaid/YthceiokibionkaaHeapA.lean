/- container/heap over a marker's numbers: the methods. -/
import Derived.Test.YthceiokibionkaaMarkA
import Derived.Test.YthceiokibionkaaHeapP
import Derived.RegionTactic
import Derived.BigRegion
namespace Go.Proofs.Ythceiokibionkaa
open Go.RowKit

theorem m_push (p : Addr) (w : World) : (method 207 57 (.pointer (some p)) "Push").run Try.prog w = .ok (72, .pointer (some p)) w := by kernel_rfl
theorem m_pop (p : Addr) (w : World) : (method 207 57 (.pointer (some p)) "Pop").run Try.prog w = .ok (71, .pointer (some p)) w := by kernel_rfl
theorem load_heaped (p : Addr) (w : World) (a : Option Addr) (n c : Nat) (h : w.cell? p = some (.slice a n c)) : (loadVar 47 p).run Try.prog w = .ok (.slice a n c) w := by
  have e : (loadVar 47 p).run Try.prog w = (load p).run Try.prog w := by kernel_rfl
  rw [e]
  simp [go_sem, h]
theorem m_value (p : Addr) (w : World) (a : Option Addr) (n c : Nat) (h : w.cell? p = some (.slice a n c)) (k : Nat) (name : String) (f : FuncId)
    (hi : ((Try.prog.info? 57).map fun i => (i.methods.find? (·.name == name)).map fun m => (m.path, m.func)) = some (some (#[], some (f, false)))) :
    (method (k + 1) 57 (.pointer (some p)) name).run Try.prog w = .ok (f, .slice a n c) w := by
  have h1 := load_heaped p w a n c h
  have hw : ∀ (nm : String) (w : World), (Builtin.ssaWrapNilChk_ #[57] 57 #[.pointer (some p), strVal "", strVal nm]).run Try.prog w = .ok (.pointer (some p)) w := fun _ _ => rfl
  cases hI : Try.prog.info? 57 with
  | none => rw [hI] at hi; cases hi
  | some I =>
    rw [hI] at hi
    simp only [Option.map_some, Option.some.injEq] at hi
    cases hM : I.methods.find? (·.name == name) with
    | none => rw [hM] at hi; cases hi
    | some M =>
      rw [hM] at hi
      simp only [Option.map_some, Option.some.injEq, Prod.mk.injEq] at hi
      obtain ⟨hp, hf⟩ := hi
      simp [method, typeInfo, hI, hM, hp, hf, follow, receiverAt, Place.get, run_underlying Try.underlying57, hw, asAddr, h1]
theorem i_len : ((Try.prog.info? 57).map fun i => (i.methods.find? (·.name == "Len")).map fun m => (m.path, m.func)) = some (some (#[], some (68, false))) := by kernel_rfl
theorem m_len (p : Addr) (w : World) (a : Option Addr) (n c : Nat) (h : w.cell? p = some (.slice a n c)) : (method 207 57 (.pointer (some p)) "Len").run Try.prog w = .ok (68, .slice a n c) w :=
  m_value p w a n c h 206 _ _ i_len
theorem i_less : ((Try.prog.info? 57).map fun i => (i.methods.find? (·.name == "Less")).map fun m => (m.path, m.func)) = some (some (#[], some (69, false))) := by kernel_rfl
theorem m_less (p : Addr) (w : World) (a : Option Addr) (n c : Nat) (h : w.cell? p = some (.slice a n c)) : (method 207 57 (.pointer (some p)) "Less").run Try.prog w = .ok (69, .slice a n c) w :=
  m_value p w a n c h 206 _ _ i_less
theorem i_swap : ((Try.prog.info? 57).map fun i => (i.methods.find? (·.name == "Swap")).map fun m => (m.path, m.func)) = some (some (#[], some (70, false))) := by kernel_rfl
theorem m_swap (p : Addr) (w : World) (a : Option Addr) (n c : Nat) (h : w.cell? p = some (.slice a n c)) : (method 207 57 (.pointer (some p)) "Swap").run Try.prog w = .ok (70, .slice a n c) w :=
  m_value p w a n c h 206 _ _ i_swap
theorem len_any (a : Option Addr) (n c : Nat) (w : World) : Calls Try.prog 68 #[.slice a n c] w fun e w' => e = .returned (.int .i64 n) ∧ w = w' := by
  go_enter Try.func68, Try.ntmps68
  go_wp2
  go_ret
  exact ⟨rfl, rfl⟩

theorem less_any (g n cap : Nat) (i j : Int) (x y : Int) (w : World) (hi0 : 0 ≤ i) (hi : i < n) (hj0 : 0 ≤ j) (hj : j < n) (hn : n ≤ 9223372036854775807) (hx : w.cell? ⟨g, i.toNat, none⟩ = some (.int .i64 x)) (hy : w.cell? ⟨g, j.toNat, none⟩ = some (.int .i64 y)) :
    Calls Try.prog 69 #[.slice (some ⟨g, 0, none⟩) n cap, .int .i64 i, .int .i64 j] w fun e w' => e = .returned (.bool (decide (x < y))) ∧ ∃ d, w' = w.drewN d := by
  obtain ⟨i, rfl⟩ := Int.eq_ofNat_of_zero_le hi0
  obtain ⟨j, rfl⟩ := Int.eq_ofNat_of_zero_le hj0
  rw [Int.toNat_natCast] at hx hy
  go_enter Try.func69, Try.ntmps69
  go_wp2
  go_quiet (fail)
  go_wp2
  go_ret
  exact ⟨rfl, _, rfl⟩

set_option maxHeartbeats 1000000 in
theorem swap_ne (g n cap i j : Nat) (x y : Int) (w : World) (hi : i < n) (hj : j < n) (hij : i ≠ j) (hn : n ≤ 9223372036854775807) (hx : w.cell? ⟨g, i, none⟩ = some (.int .i64 x)) (hy : w.cell? ⟨g, j, none⟩ = some (.int .i64 y))
    (hfi : w.frozen? ⟨g, i, none⟩ = false) (hfj : w.frozen? ⟨g, j, none⟩ = false) :
    Calls Try.prog 70 #[.slice (some ⟨g, 0, none⟩) n cap, .int .i64 i, .int .i64 j] w fun e w' => e = .returned (.tuple #[]) ∧ w' = ((w.setCell ⟨g, i, none⟩ (.int .i64 y)).setCell ⟨g, j, none⟩ (.int .i64 x)).drew := by
  have hi' : (i : Int) < n := by omega
  have hj' : (j : Int) < n := by omega
  have hji : ¬ j = i := fun e => hij e.symm
  have hij' : ¬ i = j := hij
  go_enter Try.func70, Try.ntmps70
  go_wp2
  go_region
  all_goals (go_end0; exact ⟨rfl, rfl⟩)

set_option maxHeartbeats 1000000 in
theorem swap_eq (g n cap i : Nat) (x : Int) (w : World) (hi : i < n) (hn : n ≤ 9223372036854775807) (hx : w.cell? ⟨g, i, none⟩ = some (.int .i64 x)) (hfi : w.frozen? ⟨g, i, none⟩ = false) :
    Calls Try.prog 70 #[.slice (some ⟨g, 0, none⟩) n cap, .int .i64 i, .int .i64 i] w fun e w' => e = .returned (.tuple #[]) ∧ w' = ((w.setCell ⟨g, i, none⟩ (.int .i64 x)).setCell ⟨g, i, none⟩ (.int .i64 x)).drew := by
  have hi' : (i : Int) < n := by omega
  obtain ⟨u, hu⟩ := cell?_setCell_some (w := w.drew) (p := ⟨g, i, none⟩) (x := .int .i64 x) (q := ⟨g, i, none⟩) (v := .int .i64 x) (by go_simp)
  go_enter Try.func70, Try.ntmps70
  go_wp2
  go_region
  all_goals (go_end0; exact ⟨rfl, rfl⟩)

/-- a marker's block, whose first field is a slice of numbers of its own -/
structure HeapAt (w : World) (bm : Nat) (m1 m2 v : Value) (xs : List Int) : Prop where
  blk : w.heap[bm]? = some (.cells #[v, m1, m2] 50 (0, 0))
  own : w.ownsRow 0 3 1 v xs.length (xs.map (Value.int .i64))
section
variable {w w' : World} {bm : Nat} {m1 m2 v : Value} {xs : List Int}
theorem HeapAt.lt (h : HeapAt w bm m1 m2 v xs) : bm < w.heap.size := (Array.getElem?_eq_some_iff.1 h.blk).1
theorem HeapAt.cell (h : HeapAt w bm m1 m2 v xs) : w.cell? ⟨bm, 0, none⟩ = some v := by simp [World.cell?, h.blk]
theorem HeapAt.free (h : HeapAt w bm m1 m2 v xs) : w.frozen? ⟨bm, 0, none⟩ = false := by simp [World.frozen?, h.blk]
theorem HeapAt.ne (h : HeapAt w bm m1 m2 v xs) : v.ownBlock ≠ some bm := by
  intro e
  rcases h.own.2 with ⟨rfl, _⟩ | ⟨g, cap, cur, rfl, _, hg, _⟩
  · simp [Value.ownBlock] at e
  · have : g = bm := by simpa [Value.ownBlock] using e
    subst this
    rw [h.blk] at hg
    simp at hg
theorem HeapAt.form (h : HeapAt w bm m1 m2 v xs) (hx : 0 < xs.length) : ∃ g cap, v = .slice (some ⟨g, 0, none⟩) xs.length cap ∧ g ≠ bm ∧ g < w.heap.size ∧ xs.length ≤ 9223372036854775807 ∧ (∀ k, k < xs.length → w.cell? ⟨g, k, none⟩ = some (.int .i64 (hget xs k))) ∧ ∀ k, w.frozen? ⟨g, k, none⟩ = false := by
  have hne := h.ne
  rcases h.own.2 with ⟨rfl, h0⟩ | ⟨g, cap, cur, rfl, hb, hg, hnc, hcm, hcs, htk⟩
  · omega
  · refine ⟨g, cap, rfl, fun e => hne (by simp [Value.ownBlock, e]), (Array.getElem?_eq_some_iff.1 hg).1, by unfold maxLen at hcm; omega, fun k hk => ?_, fun k => h.own.frozenAt k⟩
    rw [h.own.cellAt k (by omega), List.getElem?_map, hget_some hk]; rfl
theorem HeapAt.drewN (h : HeapAt w bm m1 m2 v xs) (d : Nat) : HeapAt (w.drewN d) bm m1 m2 v xs := ⟨h.blk, h.own⟩
theorem HeapAt.only {S : Nat → Prop} (h : HeapAt w bm m1 m2 v xs) (ho : Only S w w') (h1 : ¬ S bm) (h2 : ∀ g, v.ownBlock = some g → ¬ S g) : HeapAt w' bm m1 m2 v xs := by
  refine ⟨(ho.block bm h.lt h1).trans h.blk, ?_⟩
  have hlt := h.own.lt
  refine ⟨h.own.1, ?_⟩
  rcases h.own.2 with ⟨rfl, h0⟩ | ⟨g, cap, cur, rfl, hb, hg, hnc, hcm, hcs, htk⟩
  · exact .inl ⟨rfl, h0⟩
  · exact .inr ⟨g, cap, cur, rfl, hb, (ho.block g (hlt g rfl).2 (h2 g rfl)).trans hg, hnc, hcm, hcs, htk⟩
theorem HeapAt.set {g cap : Nat} (h : HeapAt w bm m1 m2 v xs) (hv : v = .slice (some ⟨g, 0, none⟩) xs.length cap) (k : Nat) (x : Int) : HeapAt (w.setCell ⟨g, k, none⟩ (.int .i64 x)) bm m1 m2 v (xs.set k x) := by
  have hne := h.ne
  subst hv
  have hg : bm ≠ g := fun e => hne (by simp [Value.ownBlock, e])
  refine ⟨(Below.heap_setCell w _ _ bm hg).trans h.blk, ?_⟩
  have h1 := (h.own.stored k (.int .i64 x)).1
  rw [List.length_set]
  simpa [List.map_set] using h1
theorem HeapAt.swap {g cap i j : Nat} (h : HeapAt w bm m1 m2 v xs) (hv : v = .slice (some ⟨g, 0, none⟩) xs.length cap) : HeapAt ((w.setCell ⟨g, i, none⟩ (.int .i64 (hget xs j))).setCell ⟨g, j, none⟩ (.int .i64 (hget xs i))).drew bm m1 m2 v (swapL xs i j) := by
  have h1 := (h.set hv i (hget xs j)).set (g := g) (cap := cap) (by rw [List.length_set]; exact hv) j (hget xs i)
  exact ⟨h1.blk, h1.own⟩
end
end Go.Proofs.Ythceiokibionkaa
