/- Ranging over a set; sorting a row of the call's own. -/
import Derived.Test.YthceiokibionkaaMapA
import Derived.Test.YthceiokibionkaaShelf
import Derived.Sort.OwnSortedInts
namespace Go.Proofs.Ythceiokibionkaa
open Go.RowKit
open Go.ChangeMaps (setBlock)

theorem mem_leftOf {es V : List (Int × Nat)} {e : MapEntry} (h : e ∈ (leftOf (es.map ent).toArray (V.map (·.2)).toArray).toList) : ∃ p, p ∈ es ∧ p.2 ∉ V.map (·.2) ∧ e = ent p := by
  unfold leftOf at h
  simp only [Array.mem_toList_iff, Array.mem_filter, List.mem_toArray, List.mem_map] at h
  obtain ⟨⟨p, hp, rfl⟩, h2⟩ := h
  refine ⟨p, hp, ?_, rfl⟩
  simpa [ent] using h2
theorem leftOf_empty {es V : List (Int × Nat)} (h : (leftOf (es.map ent).toArray (V.map (·.2)).toArray).size = 0) : ∀ p ∈ es, p.2 ∈ V.map (·.2) := by
  intro p hp
  have h1 : leftOf (es.map ent).toArray (V.map (·.2)).toArray = #[] := Array.eq_empty_of_size_eq_zero h
  unfold leftOf at h1
  rw [Array.filter_eq_empty_iff] at h1
  have := h1 (ent p) (by simp; exact ⟨p.1, p.2, hp, rfl⟩)
  simpa [ent] using this

theorem inj_of_nodup_map {α β : Type} {f : α → β} : ∀ {l : List α}, (l.map f).Nodup → ∀ {x y : α}, x ∈ l → y ∈ l → f x = f y → x = y
  | [], _, _, _, h, _, _ => by simp at h
  | a :: r, hn, x, y, hx, hy, he => by
    rw [List.map_cons, List.nodup_cons] at hn
    rcases List.mem_cons.1 hx with h1 | h1 <;> rcases List.mem_cons.1 hy with h2 | h2
    · rw [h1, h2]
    · exact absurd (List.mem_map.2 ⟨y, h2, by rw [← he, h1]⟩) hn.1
    · exact absurd (List.mem_map.2 ⟨x, h1, by rw [he, h2]⟩) hn.1
    · exact inj_of_nodup_map hn.2 h1 h2 he
theorem nodup_of_map {α β : Type} (f : α → β) : ∀ {l : List α}, (l.map f).Nodup → l.Nodup
  | [], _ => List.nodup_nil
  | a :: r, hn => by
    rw [List.map_cons, List.nodup_cons] at hn
    exact List.nodup_cons.2 ⟨fun h => hn.1 (List.mem_map.2 ⟨a, h, rfl⟩), nodup_of_map f hn.2⟩
theorem setBlock_only {w : World} {r : Nat} (o : Obj) : Only (fun i => i = r) w (setBlock w r o) :=
  ⟨rfl, rfl, rfl, by simp [setBlock], fun i _ hi => by
    have h : ¬ r = i := fun e => hi e.symm
    simp [setBlock, Array.getElem?_setIfInBounds, h]⟩
theorem setBlock_at {w : World} {r : Nat} (o : Obj) (hr : r < w.heap.size) : (setBlock w r o).heap[r]? = some o := by simp [setBlock, Array.getElem?_setIfInBounds, hr]

def IterAt (w : World) (r bg : Nat) (V : List (Int × Nat)) (clk : Nat) : Prop := w.heap[r]? = some (.mapIter (some bg) clk (V.map (·.2)).toArray clk)

theorem range_step {w : World} {r bg : Nat} {es V : List (Int × Nat)} {clk : Nat} (hs : SetIs w bg es clk) (hit : IterAt w r bg V clk) (hV : ∀ p ∈ V, p ∈ es) (hn : (V.map (·.2)).Nodup) (ty : TypeId) :
    ((V.map (·.1)).Perm (es.map (·.1)) ∧ (Instr.next (.pointer (some ⟨r, 0, none⟩)) false ty).run Try.prog w = .ok (.tuple #[.bool false]) w) ∨
    ∃ p w1, p ∈ es ∧ p.2 ∉ V.map (·.2) ∧ (Instr.next (.pointer (some ⟨r, 0, none⟩)) false ty).run Try.prog w = .ok (.tuple #[.bool true, .int .i64 p.1, .bool true]) w1 ∧
      IterAt w1 r bg (V ++ [p]) clk ∧ SetIs w1 bg es clk ∧ Only (fun i => i = r) w w1 ∧ (Instr.entry (.pointer (some ⟨r, 0, none⟩))).run Try.prog w1 = .ok (.tuple #[.int .i64 p.1, .bool true]) w1 := by
  have hrb : r ≠ bg := by rintro rfl; have := hs.1; rw [hit] at this; simp at this
  have hrl : r < w.heap.size := (Array.getElem?_eq_some_iff.1 hit).1
  rcases run_next_at (P := Try.prog) w ty r bg clk clk _ _ clk hit hs.1 (fun x hx => by
      simp only [List.mem_map] at hx
      obtain ⟨p, hp, rfl⟩ := hx
      exact hs.2.2.2 p hp) (Nat.le_refl _) with ⟨h0, hrun⟩ | ⟨e, he, w1, hw1, hrun⟩
  · refine .inl ⟨?_, hrun⟩
    have h1 := leftOf_empty h0
    have hVn : V.Nodup := nodup_of_map _ hn
    have hEn : es.Nodup := nodup_of_map _ hs.2.2.1
    refine List.Perm.map _ ((List.perm_ext_iff_of_nodup hVn hEn).2 fun p => ⟨hV p, fun hp => ?_⟩)
    obtain ⟨q, hq, hqp⟩ := List.mem_map.1 (h1 p hp)
    have : q = p := inj_of_nodup_map hs.2.2.1 (hV q hq) hp hqp
    rw [← this]; exact hq
  · obtain ⟨p, hp, hpv, rfl⟩ := mem_leftOf he
    have hw1h : w1.heap = w.heap := by rcases hw1 with rfl | rfl <;> rfl
    have hw1o : Only (fun i => i = r) w w1 := by
      rcases hw1 with rfl | rfl
      · exact Only.refl _ _
      · exact (Only.refl _ _).drew
    have hit1 : IterAt (setBlock w1 r (.mapIter (some bg) clk ((V.map (·.2)).toArray.push p.2) clk)) r bg (V ++ [p]) clk := by
      unfold IterAt
      rw [setBlock_at _ (by rw [hw1h]; exact hrl)]; simp
    have hon : Only (fun i => i = r) w (setBlock w1 r (.mapIter (some bg) clk ((V.map (·.2)).toArray.push p.2) clk)) := hw1o.trans (setBlock_only _)
    have hs1 := hs.same (hon.block bg hs.lt (fun e => hrb e.symm))
    refine .inr ⟨p, _, hp, hpv, hrun, hit1, hs1, hon, ?_⟩
    have := run_entry_at (P := Try.prog) _ r bg clk (V.map (·.2)).toArray _ clk (ent p) (setBlock_at _ (by rw [hw1h]; exact hrl)) hs1.1 (by simp; exact ⟨p.1, p.2, hp, rfl⟩) (by
      have e : (es.map ent).toArray.toList.map (·.born) = es.map (·.2) := by simp [ent, Function.comp_def]
      rw [e]; exact hs.2.2.1)
    exact this

def sortL (xs : List Int) : List Int := xs.mergeSort fun x y => decide (x ≤ y)
theorem sort_own {base : Nat} {v : Value} {xs : List Int} {w : World} (h : w.ownsRow base 3 1 v xs.length (xs.map (Value.int .i64))) (hbig : xs.length ≤ 1000000000) :
    Calls Try.prog 29 #[v] w fun e w' => e = .returned (.tuple #[]) ∧ w'.ownsRow base 3 1 v xs.length ((sortL xs).map (Value.int .i64)) ∧ w.grownBy w' v.ownBlock := by
  rcases h.2 with ⟨rfl, h0⟩ | ⟨g, cap, cur, rfl, hbase, hb, h1, h2, h3, h4⟩
  · have : xs = [] := List.eq_nil_of_length_eq_zero h0
    subst this
    refine (Try.slices_Sort_int_none none 0 w).mono ?_
    rintro e w' ⟨rfl, rfl⟩
    exact ⟨rfl, by simpa [sortL] using h, World.grownBy.refl _ _⟩
  · refine (Try.slices_Sort_int g 0 cap xs w (holds_of_blockI hb (by simpa using h4)) (Array.getElem?_eq_some_iff.1 hb).1 (by omega)).mono ?_
    rintro e w' ⟨rfl, n, os, rfl⟩
    exact ⟨rfl, ownsRow_sortedI (by simp) hbase hb h1 h2 h3, grownBy_sortedI _⟩
theorem mem_sortL (x : Int) (xs : List Int) : x ∈ sortL xs ↔ x ∈ xs := (List.mergeSort_perm xs _).mem_iff
theorem rise_sortL {xs : List Int} (h : xs.Nodup) : (sortL xs).Pairwise (· < ·) := by
  have h1 : (sortL xs).Pairwise (fun a b => decide (a ≤ b) = true) := List.pairwise_mergeSort (fun a b c => by simp; omega) (fun a b => by simp; omega) xs
  have h2 : (sortL xs).Nodup := (List.mergeSort_perm xs _).nodup_iff.2 h
  exact List.Pairwise.imp₂ (fun a b hab hne => by simp at hab; omega) h1 h2
end Go.Proofs.Ythceiokibionkaa
