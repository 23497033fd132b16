/- list: of raw numbers, right ones; its contract. -/
import Derived.Test.YthceiokibionkaaMarkA
namespace Go.Proofs.Ythceiokibionkaa
open Go.RowKit

def listL (xs : List Int) (odd : Bool) (many : Nat) : List Int := if odd then xs.take 12 else (xs.take 12).map fun x => 1 + (pickN x many : Int)
def I64 (xs : List Int) : Prop := ∀ x ∈ xs, -9223372036854775808 ≤ x ∧ x ≤ 9223372036854775807
theorem list_step {ys : List Int} {k many : Nat} {x : Int} (hx : ys[k]? = some x) :
    ((ys.take k).map fun x => 1 + (pickN x many : Int)).map (Value.int .i64) ++ [Value.int .i64 (1 + (pickN x many : Int))] = ((ys.take (k + 1)).map fun x => 1 + (pickN x many : Int)).map (Value.int .i64) := by
  rw [List.take_add_one, hx]; simp

theorem one_new (w : World) (u : Value) (t : TypeId) : CellsR (fun _ => True) (w.alloc (.cells #[u] t)) 1 (.slice (some ⟨w.heap.size, 0, none⟩) 1 1) 1 [u] :=
  ⟨rfl, _, _, rfl, Nat.le_refl _, by unfold maxLen; omega, fun _ => ⟨_, 0, rfl, trivial, by simp, fun j u' hu => by
    have hj : j = 0 := by have := (List.getElem?_eq_some_iff.1 hu).1; simp at this; omega
    subst hj; simp at hu; subst hu; simp⟩⟩

set_option maxHeartbeats 1000000 in
theorem list_odd (F : Nat → Prop) (kind id : Int) (lv : Value) (many : Int) (w : World) (xs : List Int) (hr : IntsR F w lv xs) (hF : ∀ i, F i → i < w.heap.size) :
    Calls Try.prog 7 #[.agg #[.int .i64 kind, .int .i64 id, lv, .bool true], .int .i64 many] w fun e w' => ∃ v', e = .returned v' ∧ IntsR (fun i => F i ∨ w.heap.size ≤ i) w' v' (listL xs true many.toNat) ∧ Below w.heap.size w w' := by
  obtain ⟨a, cap, rfl, hcap, hm, hc⟩ := hr.open_
  clear hc
  have HR := Lib.hid hr; clear hr
  by_cases hl : 12 < xs.length
  · go_enter Try.func7, Try.ntmps7
    go_wp2_with fail
    go_ret
    refine ⟨_, rfl, ?_, (Below.refl _ _).alloc (Nat.le_refl _) _⟩
    exact ((HR.out.upto rfl (k := 12) (by omega)).alloc _).mono fun i hi _ => .inl hi
  · go_enter Try.func7, Try.ntmps7
    go_wp2_with fail
    go_ret
    refine ⟨_, rfl, ?_, (Below.refl _ _).alloc (Nat.le_refl _) _⟩
    have h := (HR.out.alloc (.cells #[Value.int IntKind.i64 kind, Value.int IntKind.i64 id, Value.slice a xs.length cap, Value.bool true] 24)).mono (G := fun i => F i ∨ w.heap.size ≤ i) fun i hi _ => .inl hi
    have e : listL xs true many.toNat = xs := by simp only [listL, if_true]; exact List.take_of_length_le (by omega)
    rw [e]; exact h

set_option maxHeartbeats 1000000 in
theorem list_even (F : Nat → Prop) (kind id : Int) (lv : Value) (many : Int) (w : World) (xs : List Int) (hr : IntsR F w lv xs) (hx : I64 xs) (hF : ∀ i, F i → i < w.heap.size) (hm1 : 1 ≤ many) (hm2 : many ≤ 1000000) :
    Calls Try.prog 7 #[.agg #[.int .i64 kind, .int .i64 id, lv, .bool false], .int .i64 many] w fun e w' => ∃ v', e = .returned v' ∧ IntsR (fun i => F i ∨ w.heap.size ≤ i) w' v' (listL xs false many.toNat) ∧ Below w.heap.size w w' := by
  obtain ⟨i0, hi0, hz0, hz1, hz2⟩ := info_parts int_info
  obtain ⟨a, cap, rfl, hcap, hm, hc⟩ := hr.open_
  have HC := Lib.hid hc; clear hc hr
  have HX := Lib.hid hx; clear hx
  obtain ⟨ys, hys⟩ : ∃ ys, ys = xs.take 12 := ⟨_, rfl⟩
  have HD := Lib.hid hys; clear hys
  by_cases hl : 12 < xs.length
  · have HY : Hid (ys.length = 12) := by
      have h : ys.length = 12 := by rw [HD.out, List.length_take]; omega
      exact h
    go_enter Try.func7, Try.ntmps7
    go_wp2_with fail
    go_loopw [6, 7] (fun o i wr => ∃ k : Nat, k ≤ 12 ∧ i = .int .i64 k ∧ Hid (wr.ownsRow (w.heap.size + 1) 3 1 o k (((ys.take k).map fun x => 1 + (pickN x many.toNat : Int)).map (Value.int .i64))) ∧ Hid (Below w.heap.size w wr) ∧ w.heap.size + 1 ≤ wr.heap.size) (fun _ i _ => 12 - (intOf i).toNat)
    case atStart => exact ⟨0, Nat.zero_le _, rfl, by exact (World.ownsRow_nil _ _ _ _), by exact ((Below.refl _ _).alloc (Nat.le_refl _) _), by simp⟩
    case round =>
      obtain ⟨k, hk, rfl, hown, hbel, hsz⟩ := hrel
      by_cases hlt : k < 12
      · obtain ⟨b, off, rfl, _, hbl, hcell⟩ := HC.out (by omega)
        obtain ⟨x, hx⟩ : ∃ x, ys[k]? = some x := ⟨_, List.getElem?_eq_getElem (by rw [HY.out]; exact hlt)⟩
        have hcx : wr.cell? ⟨b, off + k, none⟩ = some (.int .i64 x) := by
          rw [hbel.out.cell (p := ⟨b, off + k, none⟩) hbl]
          exact hcell k x (by have := hx; rw [HD.out] at this; exact get_of_take this)
        obtain ⟨hx1, hx2⟩ := HX.out x (by have h := List.mem_of_getElem? hx; rw [HD.out] at h; exact List.mem_of_mem_take h)
        have hpl := pickN_lt x many.toNat (by omega)
        have HXX := Lib.hid hx
        clear hcell hx
        go_wp2_with (first
          | (go_at_call 9; refine (pick_any _ _ _ (by omega) (by omega) (by omega) (by omega)).mono ?_; rintro e w' ⟨rfl, rfl⟩)
          | (at_builtin
             refine wpList_append_cells (F := fun _ => True) _ rfl (.tmp 24) (.tmp 32) _ rfl (w.heap.size + 1) 3 i0 _ 1 8 Try.underlying22 hi0 hz0 hz1 hz2 rfl (by omega) _ k _ rfl (hown.out.alloc _) _ 1 [Value.int .i64 (1 + (pickN x many.toNat : Int))] rfl ?c3 ?c4 ?c5 ?c6 ?c7 ?_
             case c3 => exact one_new _ _ _
             case c4 => intro u hu; simp at hu; subst hu; rfl
             case c5 => unfold maxLen; omega
             case c6 => omega
             case c7 => simp; omega
             intro v1 w1 ho1 hg1 hv1
             have hb1 : Hid (Below w.heap.size w w1) := by exact ((hbel.out.alloc (by omega) _).grown hg1 (by simp; omega) (fun g hg => by have := (hown.out.lt g hg).1; omega))
             have hs1 : w.heap.size + 1 ≤ w1.heap.size := by have := hg1.size; simp at this; omega
             rw [list_step HXX.out] at ho1
             have HO1 := Lib.hid ho1
             clear ho1 hg1 hv1))
        go_roundw
        case rel => exact ⟨k + 1, by omega, by go_num, HO1, hb1, hs1⟩
        case measure => simp [intOf]; omega
      · go_wp2
        go_ret
        refine ⟨_, rfl, ?_, hbel.out⟩
        have hk' : k = 12 := by omega
        have h4 := hown.out
        rw [List.take_of_length_le (by rw [HY.out]; omega)] at h4
        have h5 := IntsR.of_own h4
        rw [HD.out] at h5
        have h6 := h5.mono (G := fun i => F i ∨ w.heap.size ≤ i) fun i hi _ => .inr (by have := (hown.out.lt i hi).1; omega)
        simpa [listL] using h6
  · have HY : Hid (ys.length = xs.length) := by
      have h : ys.length = xs.length := by rw [HD.out, List.length_take]; omega
      exact h
    go_enter Try.func7, Try.ntmps7
    go_wp2_with fail
    go_loopw [6, 7] (fun o i wr => ∃ k : Nat, k ≤ xs.length ∧ i = .int .i64 k ∧ Hid (wr.ownsRow (w.heap.size + 1) 3 1 o k (((ys.take k).map fun x => 1 + (pickN x many.toNat : Int)).map (Value.int .i64))) ∧ Hid (Below w.heap.size w wr) ∧ w.heap.size + 1 ≤ wr.heap.size) (fun _ i _ => xs.length - (intOf i).toNat)
    case atStart => exact ⟨0, Nat.zero_le _, rfl, by exact (World.ownsRow_nil _ _ _ _), by exact ((Below.refl _ _).alloc (Nat.le_refl _) _), by simp⟩
    case round =>
      obtain ⟨k, hk, rfl, hown, hbel, hsz⟩ := hrel
      by_cases hlt : k < xs.length
      · obtain ⟨b, off, rfl, _, hbl, hcell⟩ := HC.out (by omega)
        obtain ⟨x, hx⟩ : ∃ x, ys[k]? = some x := ⟨_, List.getElem?_eq_getElem (by rw [HY.out]; exact hlt)⟩
        have hcx : wr.cell? ⟨b, off + k, none⟩ = some (.int .i64 x) := by
          rw [hbel.out.cell (p := ⟨b, off + k, none⟩) hbl]
          exact hcell k x (by have := hx; rw [HD.out] at this; exact get_of_take this)
        obtain ⟨hx1, hx2⟩ := HX.out x (by have h := List.mem_of_getElem? hx; rw [HD.out] at h; exact List.mem_of_mem_take h)
        have hpl := pickN_lt x many.toNat (by omega)
        have HXX := Lib.hid hx
        clear hcell hx
        go_wp2_with (first
          | (go_at_call 9; refine (pick_any _ _ _ (by omega) (by omega) (by omega) (by omega)).mono ?_; rintro e w' ⟨rfl, rfl⟩)
          | (at_builtin
             refine wpList_append_cells (F := fun _ => True) _ rfl (.tmp 24) (.tmp 32) _ rfl (w.heap.size + 1) 3 i0 _ 1 8 Try.underlying22 hi0 hz0 hz1 hz2 rfl (by omega) _ k _ rfl (hown.out.alloc _) _ 1 [Value.int .i64 (1 + (pickN x many.toNat : Int))] rfl ?c3 ?c4 ?c5 ?c6 ?c7 ?_
             case c3 => exact one_new _ _ _
             case c4 => intro u hu; simp at hu; subst hu; rfl
             case c5 => unfold maxLen; omega
             case c6 => omega
             case c7 => simp; omega
             intro v1 w1 ho1 hg1 hv1
             have hb1 : Hid (Below w.heap.size w w1) := by exact ((hbel.out.alloc (by omega) _).grown hg1 (by simp; omega) (fun g hg => by have := (hown.out.lt g hg).1; omega))
             have hs1 : w.heap.size + 1 ≤ w1.heap.size := by have := hg1.size; simp at this; omega
             rw [list_step HXX.out] at ho1
             have HO1 := Lib.hid ho1
             clear ho1 hg1 hv1))
        go_roundw
        case rel => exact ⟨k + 1, by omega, by go_num, HO1, hb1, hs1⟩
        case measure => simp [intOf]; omega
      · go_wp2
        go_ret
        refine ⟨_, rfl, ?_, hbel.out⟩
        have hk' : k = xs.length := by omega
        have h4 := hown.out
        rw [List.take_of_length_le (by rw [HY.out]; omega)] at h4
        have h5 := IntsR.of_own h4
        rw [HD.out] at h5
        have h6 := h5.mono (G := fun i => F i ∨ w.heap.size ≤ i) fun i hi _ => .inr (by have := (hown.out.lt i hi).1; omega)
        simpa [listL] using h6

theorem list_any (F : Nat → Prop) (kind id : Int) (lv : Value) (odd : Bool) (many : Int) (w : World) (xs : List Int) (hr : IntsR F w lv xs) (hx : I64 xs) (hF : ∀ i, F i → i < w.heap.size) (hm1 : 1 ≤ many) (hm2 : many ≤ 1000000) :
    Calls Try.prog 7 #[.agg #[.int .i64 kind, .int .i64 id, lv, .bool odd], .int .i64 many] w fun e w' => ∃ v', e = .returned v' ∧ IntsR (fun i => F i ∨ w.heap.size ≤ i) w' v' (listL xs odd many.toNat) ∧ Below w.heap.size w w' := by
  cases odd
  · exact list_even F kind id lv many w xs hr hx hF hm1 hm2
  · exact list_odd F kind id lv many w xs hr hF
end Go.Proofs.Ythceiokibionkaa
