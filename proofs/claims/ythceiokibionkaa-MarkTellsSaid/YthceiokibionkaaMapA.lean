/- A map from int to bool that is a set: its laws. -/
import Derived.Test.YthceiokibionkaaBase
import Derived.Test.YthceiokibionkaaProg
import Derived.Maps.RangeRun
import Derived.Maps.Own
namespace Go.Proofs.Ythceiokibionkaa
open Go.RowKit
open Go.ChangeMaps (setBlock heap_setBlock_same heap_setBlock_other)

def ent (p : Int × Nat) : MapEntry := ⟨.int .i64 p.1, .bool true, p.2⟩
/-- block b is a map whose keys are S, each true -/
def SetIs (w : World) (b : Nat) (es : List (Int × Nat)) (clk : Nat) : Prop :=
  w.heap[b]? = some (.map (es.map ent).toArray clk) ∧ (es.map (·.1)).Nodup ∧ (es.map (·.2)).Nodup ∧ ∀ p ∈ es, p.2 < clk
def SetAt (w : World) (b : Nat) (S : List Int) : Prop := ∃ es clk, SetIs w b es clk ∧ es.map (·.1) = S

theorem findNow_ent (x : Int) : ∀ (es : List (Int × Nat)) (i : Nat), Instr.findNow (.int .i64) (.int .i64 x) (es.map ent) i = some (if x ∈ es.map (·.1) then some (i + (es.map (·.1)).idxOf x, .bool true) else none)
  | [], i => by simp [Instr.findNow]
  | p :: r, i => by
    by_cases h : x = p.1
    · subst h; simp [Instr.findNow, ent, Instr.sameNow]
    · have h' : (x == p.1) = false := by simpa using h
      have h2 : (p.1 == x) = false := by simpa using fun e => h e.symm
      have e : Instr.findNow (.int .i64) (.int .i64 x) ((p :: r).map ent) i = Instr.findNow (.int .i64) (.int .i64 x) (r.map ent) (i + 1) := by
        simp [Instr.findNow, ent, Instr.sameNow, h']
      rw [e, findNow_ent x r (i + 1)]
      simp only [List.map_cons, List.mem_cons, h, false_or, List.idxOf_cons, h2, cond_false]
      split <;> simp <;> omega
theorem map_eraseIdx_ent : ∀ (es : List (Int × Nat)) (i : Nat), (es.map ent).eraseIdx i = (es.eraseIdx i).map ent
  | [], i => by simp
  | p :: r, 0 => by simp
  | p :: r, i + 1 => by simp [map_eraseIdx_ent r i]
theorem keys_eraseIdx (x : Int) : ∀ (es : List (Int × Nat)), x ∈ es.map (·.1) → (es.eraseIdx ((es.map (·.1)).idxOf x)).map (·.1) = (es.map (·.1)).erase x
  | [], h => by simp at h
  | p :: r, h => by
    by_cases e : p.1 = x
    · subst e; simp
    · have e' : (p.1 == x) = false := by simpa using e
      have hr : x ∈ r.map (·.1) := by
        rcases List.mem_cons.1 (show x ∈ p.1 :: r.map (·.1) from h) with h | h
        · exact absurd h.symm e
        · exact h
      simp only [List.map_cons, List.idxOf_cons, e', cond_false, List.eraseIdx_cons_succ, List.erase_cons, Bool.false_eq_true, if_false]
      rw [keys_eraseIdx x r hr]

section
variable {w w' : World} {b : Nat} {S : List Int} {es : List (Int × Nat)} {clk : Nat}
theorem SetIs.lt (h : SetIs w b es clk) : b < w.heap.size := (Array.getElem?_eq_some_iff.1 h.1).1
theorem SetAt.lt (h : SetAt w b S) : b < w.heap.size := by obtain ⟨es, clk, h, _⟩ := h; exact h.lt
theorem SetAt.nodup (h : SetAt w b S) : S.Nodup := by obtain ⟨es, clk, h, rfl⟩ := h; exact h.2.1
theorem SetIs.same (h : SetIs w b es clk) (hk : w'.heap[b]? = w.heap[b]?) : SetIs w' b es clk := ⟨hk.trans h.1, h.2⟩
theorem SetAt.same (h : SetAt w b S) (hk : w'.heap[b]? = w.heap[b]?) : SetAt w' b S := by obtain ⟨es, clk, h, e⟩ := h; exact ⟨es, clk, h.same hk, e⟩
theorem SetAt.only {T : Nat → Prop} (h : SetAt w b S) (ho : Only T w w') (hb : ¬ T b) : SetAt w' b S := h.same (ho.block b h.lt hb)
theorem SetAt.drewN (h : SetAt w b S) (n : Nat) : SetAt (w.drewN n) b S := h
theorem SetAt.made (w : World) : SetAt (w.alloc (.map #[] 0)) w.heap.size [] := ⟨[], 0, ⟨(MapKept.heap_alloc w _).1, by simp, by simp, by simp⟩, rfl⟩

theorem run_findKey (x : Int) (es : List (Int × Nat)) (w : World) : (Instr.findKey 3 (.int .i64 x) (es.map ent)).run Try.prog w = .ok (if x ∈ es.map (·.1) then some ((es.map (·.1)).idxOf x, .bool true) else none) w := by
  simp only [Instr.findKey, Sem.run_bind, run_underlying Try.underlying3, Result.andThen_ok, findNow_ent x es 0, Nat.zero_add]
  rfl
theorem run_checkKey (e : Bool) (x : Int) (w : World) : (Instr.checkKey e 10000 3 (.int .i64 x)).run Try.prog w = .ok () w := by
  show (Instr.checkKey e (9999 + 1) 3 (.int .i64 x)).run Try.prog w = .ok () w
  rw [Instr.checkKey]
  simp only [Sem.run_bind, run_underlying Try.underlying3, Result.andThen_ok]
  rfl
theorem zero_bool (w : World) : (zeroValue 4).run Try.prog w = .ok (.bool false) w := by kernel_rfl

theorem SetAt.lookup (h : SetAt w b S) (x : Int) : (Instr.lookup 48 (.map (some b)) (.int .i64 x) false).run Try.prog w = .ok (.bool (decide (x ∈ S))) w := by
  obtain ⟨es, clk, h, rfl⟩ := h
  simp only [Instr.lookup, Sem.run_bind, run_underlying Try.underlying48, Result.andThen_ok, MapKept.run_getObj_map h.1, Sem.run_pure, run_checkKey, run_findKey]
  by_cases hx : x ∈ es.map (·.1)
  · simp [hx]
  · simp [hx, zero_bool]
theorem SetAt.lookup_nil (x : Int) (w : World) : (Instr.lookup 48 (.map none) (.int .i64 x) false).run Try.prog w = .ok (.bool false) w := by
  have e := run_findKey x [] w
  simp only [Instr.lookup, Sem.run_bind, run_underlying Try.underlying48, Result.andThen_ok, Sem.run_pure, run_checkKey]
  simp only [List.map_nil] at e
  simp [e, zero_bool]
theorem SetAt.len (h : SetAt w b S) (ty : TypeId) : (Builtin.len_ #[48] ty #[.map (some b)]).run Try.prog w = .ok (.int .i64 S.length) w := by
  obtain ⟨es, clk, h, rfl⟩ := h
  simp [Builtin.len_, run_underlying Try.underlying48, MapKept.run_getObj_map h.1, goInt]
theorem SetAt.store (h : SetAt w b S) (x : Int) (hx : x ∉ S) : ∃ w', (Instr.mapUpdate 48 (.map (some b)) (.int .i64 x) (.bool true)).run Try.prog w = .ok () w' ∧ SetAt w' b (S ++ [x]) ∧ Only (fun i => i = b) w w' := by
  obtain ⟨es, clk, h, rfl⟩ := h
  refine ⟨setBlock w b (.map ((es ++ [(x, clk)]).map ent).toArray (clk + 1)), ?_, ⟨es ++ [(x, clk)], clk + 1, ⟨heap_setBlock_same h.1 _, ?_, ?_, ?_⟩, by simp⟩, ⟨rfl, rfl, rfl, by simp [setBlock], fun i _ hi => heap_setBlock_other h.1 _ hi⟩⟩
  · simp only [Instr.mapUpdate, Sem.run_bind, run_underlying Try.underlying48, Result.andThen_ok, MapKept.run_getObj_map h.1, run_checkKey, run_findKey, hx, if_false, MapKept.run_setObj_map _ h.1]
    simp [ent]
    rfl
  · rw [List.map_append, List.nodup_append]
    refine ⟨h.2.1, by simp, ?_⟩
    intro a ha c hc
    simp at hc; subst hc
    rintro rfl; exact hx ha
  · rw [List.map_append, List.nodup_append]
    refine ⟨h.2.2.1, by simp, ?_⟩
    intro a ha c hc
    simp at hc; subst hc
    obtain ⟨p, hp, rfl⟩ := List.mem_map.1 ha
    have := h.2.2.2 p hp
    omega
  · intro p hp
    rcases List.mem_append.1 hp with hp | hp
    · have := h.2.2.2 p hp; omega
    · simp at hp; subst hp; simp
theorem SetAt.drop (h : SetAt w b S) (x : Int) (hx : x ∈ S) (ty : TypeId) : ∃ w', (Builtin.delete_ #[48, 3] ty #[.map (some b), .int .i64 x]).run Try.prog w = .ok (.tuple #[]) w' ∧ SetAt w' b (S.erase x) ∧ Only (fun i => i = b) w w' := by
  obtain ⟨es, clk, h, rfl⟩ := h
  have hsub : (es.eraseIdx ((es.map (·.1)).idxOf x)).Sublist es := List.eraseIdx_sublist _ _
  refine ⟨setBlock w b (.map ((es.eraseIdx ((es.map (·.1)).idxOf x)).map ent).toArray clk), ?_, ⟨es.eraseIdx ((es.map (·.1)).idxOf x), clk, ⟨heap_setBlock_same h.1 _, h.2.1.sublist (hsub.map _), h.2.2.1.sublist (hsub.map _), fun p hp => h.2.2.2 p (hsub.subset hp)⟩, ?_⟩, ⟨rfl, rfl, rfl, by simp [setBlock], fun i _ hi => heap_setBlock_other h.1 _ hi⟩⟩
  · simp only [Builtin.delete_]
    simp [run_underlying Try.underlying48, MapKept.run_getObj_map h.1, run_checkKey, run_findKey, hx, MapKept.run_setObj_map _ h.1, map_eraseIdx_ent]
    rfl
  · exact keys_eraseIdx x es hx
end
end Go.Proofs.Ythceiokibionkaa
