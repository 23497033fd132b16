/- The program's marker: New, Scan, Wrote, Done; and of none. -/
import Derived.Test.YthceiokibionkaaMarkC
namespace Go.Proofs.Ythceiokibionkaa
open Go.RowKit

def NewPost (ids : List Int) (w : World) (e : Ending) (w' : World) : Prop :=
  ∃ bm F', e = .returned (.tuple #[.pointer (some ⟨bm, 0, none⟩), .int .i64 0]) ∧ MarkSt w' bm F' (seeG [] [] ids) [] ∧ Below w.heap.size w w' ∧ ∀ i, F' i → w.heap.size ≤ i

theorem Fresh.made (w : World) : Fresh (w.alloc (.cells #[.slice none 0 0, .map none, .map none] 50)) w.heap.size := heap_alloc_new w _

set_option maxHeartbeats 1000000 in
theorem new_any (Fi : Nat → Prop) (ids : List Int) (iv : Value) (w : World) (hi : IntsR Fi w iv ids) (hr : rightL ids = true) :
    Calls Try.prog 6 #[iv] w (NewPost ids w) := by
  have H1 := Lib.hid (right_any Fi iv w ids hi)
  obtain ⟨u, hu⟩ : ∃ u, u = w.alloc (.cells #[.slice none 0 0, .map none, .map none] 50) := ⟨_, rfl⟩
  have hf : Fresh u w.heap.size := by rw [hu]; exact Fresh.made w
  have hi' : IntsR (fun i => Fi i ∧ i < w.heap.size) u iv ids := by
    rw [hu]; exact (hi.mono fun i h h2 => ⟨h, h2⟩).alloc _
  have H2 := Lib.hid (see_fresh w.heap.size (fun i => Fi i ∧ i < w.heap.size) ids iv u hf hi' (fun i h => by omega) hr)
  have HU := Lib.hid hu
  rw [hu] at H2
  clear hi hi' hf hu
  rw [hr] at H1
  go_enter Try.func6, Try.ntmps6
  go_wp2_with fail
  refine (H1.out).mono ?_
  rintro e w' ⟨rfl, rfl⟩
  go_wp2_with fail
  refine (H2.out).mono ?_
  rintro e w1 ⟨rfl, F', hm, ho, hs⟩
  have HM := Lib.hid hm
  have HO := Lib.hid ho
  have HS := Lib.hid hs
  clear hm ho hs
  go_wp2_with fail
  go_ret2
  refine ⟨w.heap.size, F', rfl, HM.out, ?_, ?_⟩
  · have hb : Below w.heap.size w (w.alloc (.cells #[.slice none 0 0, .map none, .map none] 50)) := (Below.refl _ _).alloc (Nat.le_refl _) _
    exact ⟨HO.out.os.trans hb.os, HO.out.tape.trans hb.tape, HO.out.output.trans hb.output, Nat.le_trans hb.size HO.out.size, fun k hk => (HO.out.block k (by simp; omega) (by omega)).trans (hb.block k hk)⟩
  · intro i hi
    rcases HS.out i hi with h | h
    · omega
    · simp at h; omega
theorem new_bad (Fi : Nat → Prop) (ids : List Int) (iv : Value) (w : World) (hi : IntsR Fi w iv ids) (hr : rightL ids = false) :
    Calls Try.prog 6 #[iv] w fun e w' => e = .returned (.tuple #[.pointer none, .int .i64 2]) ∧ w = w' := by
  have H1 := Lib.hid (right_any Fi iv w ids hi)
  rw [hr] at H1
  clear hi
  go_enter Try.func6, Try.ntmps6
  go_wp2_with fail
  refine (H1.out).mono ?_
  rintro e w' ⟨rfl, rfl⟩
  go_wp2_with fail
  go_ret2
  exact ⟨rfl, rfl⟩

theorem wrote_bad (Fi : Nat → Prop) (ids : List Int) (iv : Value) (p : Addr) (w : World) (hi : IntsR Fi w iv ids) (hr : rightL ids = false) :
    Calls Try.prog 13 #[.pointer (some p), iv] w fun e w' => e = .returned (.int .i64 2) ∧ w = w' := by
  have H1 := Lib.hid (right_any Fi iv w ids hi)
  rw [hr] at H1
  clear hi
  go_enter Try.func13, Try.ntmps13
  go_wp2_with fail
  refine (H1.out).mono ?_
  rintro e w' ⟨rfl, rfl⟩
  go_wp2_with fail
  go_ret
  exact ⟨rfl, rfl⟩
def WrotePost (bm : Nat) (F : Nat → Prop) (G B : List Int) (w : World) (e : Ending) (w' : World) : Prop :=
  e = .returned (.int .i64 0) ∧ ∃ F', MarkSt w' bm F' G B ∧ Only F w w' ∧ ∀ i, F' i → F i ∨ w.heap.size ≤ i
theorem wrote_any (bm : Nat) (F Fi : Nat → Prop) (G B ids : List Int) (iv : Value) (w : World) (h : MarkSt w bm F G B) (hi : IntsR Fi w iv ids) (hd : ∀ i, Fi i → ¬ F i) (hr : rightL ids = true) :
    Calls Try.prog 13 #[.pointer (some ⟨bm, 0, none⟩), iv] w (WrotePost bm F (seeG G B ids) B w) := by
  have H1 := Lib.hid (right_any Fi iv w ids hi)
  have H2 := Lib.hid (see_any bm F Fi G B ids iv w h hi hd hr)
  rw [hr] at H1
  clear hi h hd
  go_enter Try.func13, Try.ntmps13
  go_wp2_with fail
  refine (H1.out).mono ?_
  rintro e w' ⟨rfl, rfl⟩
  go_wp2_with fail
  refine (H2.out).mono ?_
  rintro e w1 ⟨rfl, hx⟩
  have HX := Lib.hid hx
  clear hx
  go_wp2_with fail
  go_ret
  exact ⟨rfl, HX.out⟩

theorem done_any (bm : Nat) (F : Nat → Prop) (G B : List Int) (w : World) (h : MarkSt w bm F G B) :
    Calls Try.prog 16 #[.pointer (some ⟨bm, 0, none⟩)] w fun e w' => e = .returned (.bool G.isEmpty) ∧ w = w' := by
  obtain ⟨v, bg, bb, xs, SG, SB, hst⟩ := h
  have hc1 : w.cell? ⟨bm, 1, none⟩ = some (.map (some bg)) := by simp [World.cell?, hst.heap.blk]
  have hl := fun ty => hst.gs.len ty
  cases hG : G with
  | nil =>
    have hS : SG = [] := List.eq_nil_iff_forall_not_mem.2 fun x hx => by have := (hst.mg x).1 hx; rw [hG] at this; simp at this
    rw [hS] at hl
    clear hst
    go_enter Try.func16, Try.ntmps16
    go_wp2_with fail
    go_ret
    exact ⟨rfl, rfl⟩
  | cons g r =>
    have hS : SG.length ≠ 0 := fun e => by
      have h1 : SG = [] := List.eq_nil_of_length_eq_zero e
      have := (hst.mg g).2 (by rw [hG]; simp)
      rw [h1] at this; simp at this
    have hb : (((SG.length : Nat) : Int) == 0) = false := by simpa using hS
    clear hst
    generalize SG.length = q at *
    go_enter Try.func16, Try.ntmps16
    go_wp2_with fail
    go_ret
    exact ⟨rfl, rfl⟩

/-! ### Scan -/
theorem scan_white (bm : Nat) (F : Nat → Prop) (G B : List Int) (id : Int) (iv : Value) (w : World) (h : MarkSt w bm F G B) (hg : id ∉ G) :
    Calls Try.prog 11 #[.pointer (some ⟨bm, 0, none⟩), .int .i64 id, iv] w fun e w' => e = .returned (.int .i64 190) ∧ w = w' := by
  obtain ⟨v, bg, bb, xs, SG, SB, hst⟩ := h
  have hc1 : w.cell? ⟨bm, 1, none⟩ = some (.map (some bg)) := by simp [World.cell?, hst.heap.blk]
  have hl := hst.gs.lookup id
  have hd : decide (id ∈ SG) = false := by simpa using fun h => hg ((hst.mg id).1 h)
  rw [hd] at hl
  clear hst hd
  go_enter Try.func11, Try.ntmps11
  go_wp2_with fail
  go_ret
  exact ⟨rfl, rfl⟩
theorem scan_bad (bm : Nat) (F Fi : Nat → Prop) (G B : List Int) (id : Int) (ids : List Int) (iv : Value) (w : World) (h : MarkSt w bm F G B) (hg : id ∈ G) (hi : IntsR Fi w iv ids) (hr : rightL ids = false) :
    Calls Try.prog 11 #[.pointer (some ⟨bm, 0, none⟩), .int .i64 id, iv] w fun e w' => e = .returned (.int .i64 2) ∧ w = w' := by
  obtain ⟨v, bg, bb, xs, SG, SB, hst⟩ := h
  have hc1 : w.cell? ⟨bm, 1, none⟩ = some (.map (some bg)) := by simp [World.cell?, hst.heap.blk]
  have hl := hst.gs.lookup id
  have hd : decide (id ∈ SG) = true := by simpa using (hst.mg id).2 hg
  rw [hd] at hl
  have H1 := Lib.hid (right_any Fi iv w ids hi)
  rw [hr] at H1
  clear hst hd hi
  go_enter Try.func11, Try.ntmps11
  go_wp2_with fail
  refine (H1.out).mono ?_
  rintro e w' ⟨rfl, rfl⟩
  go_wp2_with fail
  go_ret
  exact ⟨rfl, rfl⟩
def scanG (G B : List Int) (id : Int) (ids : List Int) : List Int := seeG (G.filter (· ≠ id)) (putL B id) ids
/-- a grey number becomes black -/
theorem MarkParts.black_step {w w1 w2 : World} {bm : Nat} {F : Nat → Prop} {G B : List Int} {v : Value} {bg bb : Nat} {xs SG SB : List Int} {id : Int} (h : MarkParts w bm F G B v bg bb xs SG SB) (hg : id ∈ G)
    (hs1 : SetAt w1 bg (SG.erase id)) (ho1 : Only (fun i => i = bg) w w1) (hs2 : SetAt w2 bb (SB ++ [id])) (ho2 : Only (fun i => i = bb) w1 w2) : MarkSt w2 bm F (G.filter (· ≠ id)) (putL B id) ∧ Only F w w2 := by
  have hb : id ∉ B := h.dis id hg
  have e1 : HeapAt w1 bm (.map (some bg)) (.map (some bb)) v xs := h.heap.only ho1 (fun e => h.bg_bm e.symm) (fun g hg e => own_ne_map h.heap.own h.gs (by rw [hg, e]))
  have b1 : SetAt w1 bb SB := h.bs.only ho1 (fun e => h.ne e.symm)
  have e2 : HeapAt w2 bm (.map (some bg)) (.map (some bb)) v xs := e1.only ho2 (fun e => h.bb_bm e.symm) (fun g hg e => own_ne_map e1.own b1 (by rw [hg, e]))
  refine ⟨⟨v, bg, bb, xs, SG.erase id, SB ++ [id], ⟨e2, hs1.only ho2 h.ne, hs2, h.ne, ?_, ?_, h.sg.erase id, rise_putL id B h.sb, ?_, h.hp, h.hn, ?_, ?_, ?_, h.foot⟩⟩, ?_⟩
  · intro x
    rw [List.Nodup.mem_erase_iff h.gs.nodup, h.mg x]; simp; exact And.comm
  · intro x; rw [mem_putL, List.mem_append, h.mb x]; simp; exact Or.comm
  · intro x hx hx'
    simp at hx
    rcases (mem_putL x id B).1 hx' with h1 | h1
    · exact hx.2 h1
    · exact h.dis x hx.1 h1
  · intro x hx
    by_cases e : x = id
    · exact .inr ((mem_putL x id B).2 (.inl e))
    · exact (h.hsub x hx).imp (fun h1 => by simp [h1, e]) (fun h1 => (mem_putL x id B).2 (.inr h1))
  · intro x hx; simp at hx; exact h.hall x hx.1
  · intro x hx
    rcases hx with hx | hx
    · simp at hx; exact h.rng x (.inl hx.1)
    · rcases (mem_putL x id B).1 hx with rfl | hx
      · exact h.rng x (.inl hg)
      · exact h.rng x (.inr hx)
  · exact (ho1.mono fun i hi => (h.foot _).2 (.inr (.inl hi))).trans (ho2.mono fun i hi => (h.foot _).2 (.inr (.inr (.inl hi))))
set_option maxHeartbeats 1000000 in
theorem scan_any (bm : Nat) (F Fi : Nat → Prop) (G B : List Int) (id : Int) (ids : List Int) (iv : Value) (w : World) (h : MarkSt w bm F G B) (hg : id ∈ G) (hi : IntsR Fi w iv ids) (hdis : ∀ i, Fi i → ¬ F i) (hr : rightL ids = true) :
    Calls Try.prog 11 #[.pointer (some ⟨bm, 0, none⟩), .int .i64 id, iv] w (WrotePost bm F (scanG G B id ids) (putL B id) w) := by
  obtain ⟨v, bg, bb, xs, SG, SB, hst⟩ := h
  have hc1 : w.cell? ⟨bm, 1, none⟩ = some (.map (some bg)) := by simp [World.cell?, hst.heap.blk]
  have hl := hst.gs.lookup id
  have hin := (hst.mg id).2 hg
  have hd : decide (id ∈ SG) = true := by simpa using hin
  rw [hd] at hl
  obtain ⟨w1, hdel, hs1, ho1⟩ := hst.gs.drop id hin 0
  have b1 : SetAt w1 bb SB := hst.bs.only ho1 (fun e => hst.ne e.symm)
  obtain ⟨w2, hup, hs2, ho2⟩ := b1.store id (fun h => hst.dis id hg ((hst.mb id).1 h))
  have hc2 : w1.cell? ⟨bm, 2, none⟩ = some (.map (some bb)) := by
    rw [ho1.cell (p := ⟨bm, 2, none⟩) hst.heap.lt (fun e => hst.bg_bm e.symm)]
    simp [World.cell?, hst.heap.blk]
  obtain ⟨hst2, hon⟩ := hst.black_step hg hs1 ho1 hs2 ho2
  have H1 := Lib.hid (right_any Fi iv w ids hi)
  rw [hr] at H1
  have H2 := Lib.hid (see_any bm F Fi _ _ ids iv w2 hst2 (hi.only hon hdis) hdis hr)
  have HON := Lib.hid hon
  clear hst hd hi hs1 ho1 b1 hs2 ho2 hst2 hon hdis hin
  go_enter Try.func11, Try.ntmps11
  go_wp2_with fail
  refine (H1.out).mono ?_
  rintro e w' ⟨rfl, rfl⟩
  go_wp2_with fail
  refine (H2.out).mono ?_
  rintro e w3 ⟨rfl, F', hx1, hx2, hx3⟩
  have HX1 := Lib.hid hx1
  have HX2 := Lib.hid hx2
  have HX3 := Lib.hid hx3
  clear hx1 hx2 hx3
  go_wp2_with fail
  go_ret
  exact ⟨rfl, F', HX1.out, HON.out.trans HX2.out, fun i hi => (HX3.out i hi).imp (fun h => h) fun h => by have := HON.out.size; omega⟩
end Go.Proofs.Ythceiokibionkaa
