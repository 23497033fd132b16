/- The document's marker: Marked, Scan. -/
import Derived.Test.YthceiokibionkaaRefA
import Derived.Test.YthceiokibionkaaMarkF
namespace Go.Proofs.Ythceiokibionkaa
open Go.RowKit

theorem markedL_step {G B : List Int} {k : Nat} {x : Int} (hx : G[k]? = some x) : markedL (G.take (k + 1)) B = putL (markedL (G.take k) B) x := by
  unfold markedL; rw [List.take_add_one, hx]; simp [List.foldl_append]

set_option maxHeartbeats 2000000 in
theorem rmarked_any (rm : Nat) (R : Nat → Prop) (G B : List Int) (w : World) (h : RefSt w rm R G B) (hB : Rise B) (hr : ∀ x, x ∈ G ∨ x ∈ B → 1 ≤ x ∧ x ≤ 100000) :
    Calls Try.prog 20 #[.pointer (some ⟨rm, 0, none⟩)] w fun e w' => ∃ v', e = .returned v' ∧ IntsR (fun i => R i ∨ w.heap.size ≤ i) w' v' (markedL G B) ∧ Below w.heap.size w w' := by
  obtain ⟨gv, bv, hblk, hrm, hlt, hg, hb⟩ := h
  have hc0 : w.cell? ⟨rm, 0, none⟩ = some gv := by simp [World.cell?, hblk]
  have hc1 : w.cell? ⟨rm, 1, none⟩ = some bv := by simp [World.cell?, hblk]
  have hrl := hlt rm hrm
  obtain ⟨ga, gcap, rfl, hgc, hgm, hgcell⟩ := hg.open_
  have HSHORT : Hid (∀ k, (markedL (G.take k) B).length ≤ 1000000000) := by
    have h1 : ∀ k, (markedL (G.take k) B).length ≤ 1000000000 := fun k => rise_short (rise_markedL _ _ hB) fun x hx => hr x ((mem_markedL x _ _).1 hx |>.imp List.mem_of_mem_take (fun h => h))
    exact h1
  have START : Hid (IntsR (fun i => R i ∨ w.heap.size ≤ i) w bv (markedL (G.take 0) B)) := hb.mono fun i hi _ => .inl hi.1
  have HG := Lib.hid hgcell
  have HC0 := Lib.hid hc0
  have HLT := Lib.hid hlt
  generalize hn : G.length = n at *
  have HN := Lib.hid hn
  clear hblk hg hb hB hr hgcell hn hlt
  obtain ⟨ba, bl, bc, rfl⟩ : ∃ ba bl bc, bv = .slice ba bl bc := by obtain ⟨x, y, e, _⟩ := START.out.open_; exact ⟨_, _, _, e⟩
  go_enter Try.func20, Try.ntmps20
  go_wp2_with fail
  go_loopw [3, 4] (fun o iv wr => ∃ (k : Nat), k ≤ n ∧ iv = .int .i64 k ∧ Hid (IntsR (fun i => R i ∨ w.heap.size ≤ i) wr o (markedL (G.take k) B)) ∧ Hid (Below w.heap.size w wr)) (fun _ iv _ => n - (intOf iv).toNat)
  case atStart => exact ⟨0, Nat.zero_le _, rfl, START, by exact (Below.refl _ w)⟩
  case round =>
    obtain ⟨k, hk, rfl, HO, HB⟩ := hrel
    have hcr : wr.cell? ⟨rm, 0, none⟩ = some (.slice ga n gcap) := by rw [HB.out.cell (p := ⟨rm, 0, none⟩) hrl]; exact HC0.out
    by_cases hlt : k < n
    · obtain ⟨b, off, rfl, hFb, hbl, hcell⟩ := HG.out (by omega)
      obtain ⟨x, hx⟩ : ∃ x, G[k]? = some x := ⟨_, List.getElem?_eq_getElem (by rw [HN.out]; exact hlt)⟩
      have hcx : wr.cell? ⟨b, off + k, none⟩ = some (.int .i64 x) := by
        rw [HB.out.cell (p := ⟨b, off + k, none⟩) hbl]
        exact hcell k x hx
      have HM : Hid (markedL (G.take (k + 1)) B = putL (markedL (G.take k) B) x) := markedL_step hx
      have HPUT := Lib.hid (put_any (fun i => (R i ∨ w.heap.size ≤ i) ∧ i < wr.heap.size) u3 wr _ x (HO.out.mono fun i hi h => ⟨hi, h⟩) (fun i hi => hi.2) (HSHORT.out k))
      have hsz := HB.out.size
      clear hcell hx hbl hFb
      go_wp2_with fail
      refine HPUT.out.mono ?_
      rintro e w1 ⟨v', rfl, hi1, hb1⟩
      have HI1 : Hid (IntsR (fun i => R i ∨ w.heap.size ≤ i) w1 v' (markedL (G.take (k + 1)) B)) := by
        rw [HM.out]
        refine hi1.mono fun i hi _ => ?_
        rcases hi with h | h
        · exact h.1
        · right; omega
      have HB1 : Hid (Below w.heap.size w w1) := HB.out.trans (hb1.mono hsz)
      clear hi1 hb1
      go_wp2_with fail
      go_roundw
      case rel => exact ⟨k + 1, by omega, by go_num, HI1, HB1⟩
      case measure => simp [intOf]; omega
    · go_wp2_with fail
      go_ret
      refine ⟨_, rfl, ?_, HB.out⟩
      have h := HO.out
      rw [List.take_of_length_le (by rw [HN.out]; omega)] at h
      exact h

theorem filter_step {G : List Int} {k : Nat} {x id : Int} (hx : G[k]? = some x) : (G.take (k + 1)).filter (· ≠ id) = (G.take k).filter (· ≠ id) ++ (if x = id then [] else [x]) := by
  rw [List.take_add_one, hx, List.filter_append]
  by_cases h : x = id <;> simp [h]

theorem rscan_white (rm : Nat) (R : Nat → Prop) (G B : List Int) (id : Int) (iv : Value) (w : World) (h : RefSt w rm R G B) (hg : id ∉ G) :
    Calls Try.prog 12 #[.pointer (some ⟨rm, 0, none⟩), .int .i64 id, iv] w fun e w' => e = .returned (.int .i64 190) ∧ w = w' := by
  obtain ⟨gv, bv, hblk, _, _, hgi, _⟩ := h
  have hc0 : w.cell? ⟨rm, 0, none⟩ = some gv := by simp [World.cell?, hblk]
  have H1 := in_any _ gv w G id hgi
  rw [decide_eq_false hg] at H1
  have H1 := Lib.hid H1
  clear hblk hgi
  go_enter Try.func12, Try.ntmps12
  go_wp2_with fail
  refine H1.out.mono ?_
  rintro e w' ⟨rfl, rfl⟩
  go_wp2_with fail
  go_ret
  exact ⟨rfl, rfl⟩
theorem rscan_bad (rm : Nat) (R Fi : Nat → Prop) (G B ids : List Int) (id : Int) (iv : Value) (w : World) (h : RefSt w rm R G B) (hg : id ∈ G) (hi : IntsR Fi w iv ids) (hr : rightL ids = false) :
    Calls Try.prog 12 #[.pointer (some ⟨rm, 0, none⟩), .int .i64 id, iv] w fun e w' => e = .returned (.int .i64 2) ∧ w = w' := by
  obtain ⟨gv, bv, hblk, _, _, hgi, _⟩ := h
  have hc0 : w.cell? ⟨rm, 0, none⟩ = some gv := by simp [World.cell?, hblk]
  have H1 := in_any _ gv w G id hgi
  rw [decide_eq_true hg] at H1
  have H1 := Lib.hid H1
  have H2 := rright_any Fi iv w ids hi
  rw [hr] at H2
  have H2 := Lib.hid H2
  clear hblk hgi hi
  go_enter Try.func12, Try.ntmps12
  go_wp2_with fail
  refine H1.out.mono ?_
  rintro e w' ⟨rfl, rfl⟩
  go_wp2_with fail
  refine H2.out.mono ?_
  rintro e w' ⟨rfl, rfl⟩
  go_wp2_with fail
  go_ret
  exact ⟨rfl, rfl⟩

set_option maxHeartbeats 2000000 in
theorem rscan_any (rm : Nat) (R Fi : Nat → Prop) (G B ids : List Int) (id : Int) (iv : Value) (w : World) (h : RefSt w rm R G B) (hg : id ∈ G) (hi : IntsR Fi w iv ids) (hd : ∀ i, Fi i → i ≠ rm) (hr : rightL ids = true) (hG : Rise G) (hB : Rise B) (hrng : ∀ x, x ∈ G ∨ x ∈ B → 1 ≤ x ∧ x ≤ 100000) :
    Calls Try.prog 12 #[.pointer (some ⟨rm, 0, none⟩), .int .i64 id, iv] w (RefPost rm R (.int .i64 0) (scanG G B id ids) (putL B id) w) := by
  obtain ⟨i0, hi0, hz0, hz1, hz2⟩ := info_parts int_info
  obtain ⟨gv, bv, hblk, hrm, hlt, hgi, hbi⟩ := h
  have hc0 : w.cell? ⟨rm, 0, none⟩ = some gv := by simp [World.cell?, hblk]
  have hrl := hlt rm hrm
  have H1 := in_any _ gv w G id hgi
  rw [decide_eq_true hg] at H1
  have H1 := Lib.hid H1
  have H2 := rright_any Fi iv w ids hi
  rw [hr] at H2
  have H2 := Lib.hid H2
  obtain ⟨ga, gcap, rfl, hgc, hgm, hgcell⟩ := hgi.open_
  have hgl : G.length ≤ 1000000000 := rise_short hG fun x hx => hrng x (.inl hx)
  have hbl : B.length ≤ 1000000000 := rise_short hB fun x hx => hrng x (.inr hx)
  have HBL := Lib.hid hbl
  have HGC := Lib.hid hgcell
  have HBLK := Lib.hid hblk
  have HBI := Lib.hid hbi
  have HLT := Lib.hid hlt
  have HRM := Lib.hid hrm
  have HI := Lib.hid hi
  have HD := Lib.hid hd
  have HG := Lib.hid hG
  have HRNG := Lib.hid hrng
  have HR := Lib.hid hr
  generalize hn : G.length = n at *
  have HN := Lib.hid hn
  have HIDG := Lib.hid hg
  clear hblk hlt hgi hbi hi hd hG hB hrng hgcell hn hbl hr hg hrm
  go_enter Try.func12, Try.ntmps12
  go_wp2_with fail
  refine H1.out.mono ?_
  rintro e w' ⟨rfl, rfl⟩
  go_wp2_with fail
  refine H2.out.mono ?_
  rintro e w' ⟨rfl, rfl⟩
  go_wp2_with fail
  go_loopw [9, 10] (fun o iv wr => ∃ (k : Nat), k ≤ n ∧ iv = .int .i64 k ∧ Hid (∃ q, q ≤ k ∧ wr.ownsRow w.heap.size 3 1 o q (((G.take k).filter (· ≠ id)).map (Value.int .i64))) ∧ Hid (Below w.heap.size w wr)) (fun _ iv _ => n - (intOf iv).toNat)
  case atStart => exact ⟨0, Nat.zero_le _, rfl, by { have h : ∃ q, q ≤ 0 ∧ w.ownsRow w.heap.size 3 1 (.slice none 0 0) q (((G.take 0).filter (· ≠ id)).map (Value.int .i64)) := ⟨0, Nat.le_refl _, World.ownsRow_nil _ _ _ _⟩; exact h }, by exact (Below.refl _ w)⟩
  case round =>
    obtain ⟨k, hk, rfl, HO, HB⟩ := hrel
    have hcr : wr.cell? ⟨rm, 0, none⟩ = some (.slice ga n gcap) := by rw [HB.out.cell (p := ⟨rm, 0, none⟩) hrl]; exact hc0
    have hsz := HB.out.size
    by_cases hlt : k < n
    · obtain ⟨b, off, rfl, hFb, hbl, hcell⟩ := HGC.out (by omega)
      obtain ⟨x, hx⟩ : ∃ x, G[k]? = some x := ⟨_, List.getElem?_eq_getElem (by rw [HN.out]; exact hlt)⟩
      have hcx : wr.cell? ⟨b, off + k, none⟩ = some (.int .i64 x) := by
        rw [HB.out.cell (p := ⟨b, off + k, none⟩) hbl]
        exact hcell k x hx
      have hfs := filter_step (id := id) hx
      clear hcell hbl hFb
      obtain ⟨q, hq, hrow⟩ := HO.out
      have HROW := Lib.hid hrow
      by_cases hxi : x = id
      · have hne : (x != id) = false := by simpa using hxi
        rw [if_pos hxi, List.append_nil] at hfs
        have HO1 : Hid (∃ q, q ≤ k + 1 ∧ wr.ownsRow w.heap.size 3 1 u9 q (((G.take (k + 1)).filter (· ≠ id)).map (Value.int .i64))) := by
          have h : ∃ q, q ≤ k + 1 ∧ wr.ownsRow w.heap.size 3 1 u9 q (((G.take (k + 1)).filter (· ≠ id)).map (Value.int .i64)) := ⟨q, by omega, by rw [hfs]; exact hrow⟩
          exact h
        clear hfs hrow hx hxi
        go_wp2_with fail
        go_roundw
        case rel => exact ⟨k + 1, by omega, by go_num, HO1, HB⟩
        case measure => simp [intOf]; omega
      · have hne : (x != id) = true := by simpa using hxi
        rw [if_neg hxi] at hfs
        have HFS := Lib.hid hfs
        clear hfs hrow hx hxi
        go_wp2_with (first
          | (at_builtin
             refine wpList_append_cells (F := fun _ => True) _ rfl (.tmp 41) (.tmp 49) _ rfl w.heap.size 3 i0 _ 1 8 Try.underlying22 hi0 hz0 hz1 hz2 rfl (by omega) _ q _ rfl (HROW.out.alloc _) _ 1 [Value.int .i64 x] rfl ?c3 ?c4 ?c5 ?c6 ?c7 ?_
             case c3 => exact one_new _ _ _
             case c4 => intro u hu; simp at hu; subst hu; rfl
             case c5 => unfold maxLen; omega
             case c6 => omega
             case c7 => simp; omega
             intro v1 w1 ho1 hg1 hv1
             have HB1 : Hid (Below w.heap.size w w1) := by exact ((HB.out.alloc (by omega) _).grown hg1 (by simp; omega) (fun g hg => (HROW.out.lt g hg).1))
             have HO1 : Hid (∃ q, q ≤ k + 1 ∧ w1.ownsRow w.heap.size 3 1 v1 q (((G.take (k + 1)).filter (· ≠ id)).map (Value.int .i64))) := by
               have h : ∃ q, q ≤ k + 1 ∧ w1.ownsRow w.heap.size 3 1 v1 q (((G.take (k + 1)).filter (· ≠ id)).map (Value.int .i64)) := ⟨q + 1, by omega, by rw [HFS.out, List.map_append]; exact ho1⟩
               exact h
             clear ho1 hg1 hv1))
        go_roundw
        case rel => exact ⟨k + 1, by omega, by go_num, HO1, HB1⟩
        case measure => simp [intOf]; omega
    · obtain ⟨q, hq, hrow⟩ := HO.out
      rw [List.take_of_length_le (by rw [HN.out]; omega)] at hrow
      have hgri := (IntsR.of_own hrow).mono (G := fun i => w.heap.size ≤ i) fun i hi _ => (hrow.lt i hi).1
      obtain ⟨la, lc, hls, _, _⟩ := ownsRow_slice hrow
      have hblk1 := (HB.out.block rm hrl).trans HBLK.out
      have hf0 : wr.frozen? ⟨rm, 0, none⟩ = false := by simp [World.frozen?, hblk1]
      subst hls
      obtain ⟨w1, hw1⟩ : ∃ w1, w1 = wr.setCell ⟨rm, 0, none⟩ (.slice la q lc) := ⟨_, rfl⟩
      have hblk2 : w1.heap[rm]? = some (.cells #[.slice la q lc, bv] 54 (0, 0)) := by rw [hw1]; simp [World.setCell, Array.getElem?_modify, hblk1]
      have ho1 : Only (fun i => i = rm) w w1 := by rw [hw1]; exact (Only.of_below (S := fun i => i = rm) HB.out).setCell (p := ⟨rm, 0, none⟩) (.inl rfl) _
      have hsz1 : w1.heap.size = wr.heap.size := by rw [hw1]; simp [World.setCell]
      have hbi1 : IntsR (fun i => R i ∧ i ≠ rm) w1 bv B := HBI.out.only ho1 (fun i hi => hi.2)
      have hcb1 : w1.cell? ⟨rm, 1, none⟩ = some bv := by simp [World.cell?, hblk2]
      have hgri1 : IntsR (fun i => w.heap.size ≤ i) w1 (.slice la q lc) (G.filter (· ≠ id)) := by
        rw [hw1]
        exact hgri.keep (by simp [World.setCell]) fun i hi _ => Below.heap_setCell _ _ _ i (by have h : w.heap.size ≤ i := hi; show i ≠ rm; omega)
      have HPUT := Lib.hid (put_any _ bv w1 B id hbi1 (fun i hi => by have := HLT.out i hi.1; omega) HBL.out)
      have HCB := Lib.hid hcb1
      have HBLK2 := Lib.hid hblk2
      have HO1 := Lib.hid ho1
      have HGRI1 := Lib.hid hgri1
      have HW1 := Lib.hid hw1
      rw [hw1] at hcb1 HPUT
      clear hrow hgri hblk1 hblk2 ho1 hbi1 hgri1 hw1
      go_wp2_with fail
      refine HPUT.out.mono ?_
      rintro e w2 ⟨v2, rfl, hi2, hb2⟩
      rw [← HW1.out] at hi2 hb2
      obtain ⟨pa, pc, hv2, _⟩ := hi2.open_
      subst hv2
      generalize hpl : (putL B id).length = pl at *
      have hrl1 : rm < w1.heap.size := by omega
      have hblk3 := (hb2.block rm hrl1).trans HBLK2.out
      have hcb2 : w2.cell? ⟨rm, 1, none⟩ = some bv := by simp [World.cell?, hblk3]
      have hfb2 : w2.frozen? ⟨rm, 1, none⟩ = false := by simp [World.frozen?, hblk3]
      obtain ⟨w3, hw3⟩ : ∃ w3, w3 = w2.setCell ⟨rm, 1, none⟩ (.slice pa pl pc) := ⟨_, rfl⟩
      have hsz3 : w3.heap.size = w2.heap.size := by rw [hw3]; simp [World.setCell]
      have hsz2 := hb2.size
      have ho2 : Only (fun i => i = rm) w w2 := HO1.out.trans (Only.of_below (S := fun i => i = rm) hb2)
      have ho3 : Only (fun i => i = rm) w w3 := by rw [hw3]; exact ho2.setCell (p := ⟨rm, 1, none⟩) (.inl rfl) _
      have hst3 : RefSt w3 rm (fun i => (R i ∨ w.heap.size ≤ i) ∧ i < w3.heap.size) (G.filter (· ≠ id)) (putL B id) := by
        refine ⟨.slice la q lc, .slice pa pl pc, ?_, ⟨.inl HRM.out, by omega⟩, fun i hi => hi.2, ?_, ?_⟩
        · rw [hw3]; simp [World.setCell, Array.getElem?_modify, hblk3]
        · refine ((HGRI1.out.below hb2).keep (w' := w3) (by omega) fun i hi _ => by rw [hw3]; exact Below.heap_setCell _ _ _ i (by have h : w.heap.size ≤ i := hi; show i ≠ rm; omega)).mono fun i hi hl => ⟨⟨.inr hi, hl⟩, by omega⟩
        · refine (hi2.mono (G := fun i => (R i ∧ i ≠ rm) ∨ w1.heap.size ≤ i) fun i hi _ => hi).keep (w' := w3) (by omega) (fun i hi _ => by
            rw [hw3]
            refine Below.heap_setCell _ _ _ i ?_
            rcases hi with h | h
            · exact h.2
            · show i ≠ rm; omega) |>.mono fun i hi hl => ?_
          rcases hi with h | h
          · exact ⟨⟨.inl h.1, hl⟩, h.2⟩
          · exact ⟨⟨.inr (by omega), hl⟩, by omega⟩
      have HSEE := Lib.hid (rsee_any rm _ Fi (G.filter (· ≠ id)) (putL B id) ids iv w3 hst3 (HI.out.only ho3 HD.out) HD.out HR.out (HG.out.erase id) (fun x hx => by simp at hx; exact HRNG.out x (.inl hx.1)))
      have HO3 := Lib.hid ho3
      have HSZ : Hid (w.heap.size ≤ w3.heap.size) := ho3.size
      rw [hw3] at HSEE
      have HW3 := Lib.hid hw3
      clear hi2 hb2 hblk3 hpl hw3 hsz3 ho2 ho3 hst3
      go_wp2_with fail
      refine HSEE.out.mono ?_
      rintro e w4 ⟨rfl, R', h1, h2, h3⟩
      rw [← HW3.out] at h2 h3
      have HX1 := Lib.hid h1
      have HX2 := Lib.hid h2
      have HX3 := Lib.hid h3
      clear h1 h2 h3
      go_wp2_with fail
      go_ret
      refine ⟨rfl, R', HX1.out, HO3.out.trans HX2.out, fun i hi => ?_⟩
      rcases HX3.out i hi with h | h
      · exact h.1
      · have := HSZ.out; exact .inr (by omega)
end Go.Proofs.Ythceiokibionkaa
