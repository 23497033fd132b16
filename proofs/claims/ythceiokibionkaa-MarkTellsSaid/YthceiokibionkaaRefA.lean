/- The document's marker: its state in memory; see, New, Next, Wrote, Done. -/
import Derived.Test.YthceiokibionkaaMarkP
import Derived.Deep.RegionWith
namespace Go.Proofs.Ythceiokibionkaa
open Go.RowKit

/-- the document's marker at block rm, whose blocks are R: it knows G grey, B black -/
def RefSt (w : World) (rm : Nat) (R : Nat → Prop) (G B : List Int) : Prop :=
  ∃ gv bv, w.heap[rm]? = some (.cells #[gv, bv] 54 (0, 0)) ∧ R rm ∧ (∀ i, R i → i < w.heap.size) ∧ IntsR (fun i => R i ∧ i ≠ rm) w gv G ∧ IntsR (fun i => R i ∧ i ≠ rm) w bv B
section
variable {w w' : World} {rm : Nat} {R : Nat → Prop} {G B : List Int}
theorem RefSt.lt (h : RefSt w rm R G B) : ∀ i, R i → i < w.heap.size := by obtain ⟨_, _, _, _, h, _⟩ := h; exact h
theorem RefSt.only {T : Nat → Prop} (h : RefSt w rm R G B) (ho : Only T w w') (hd : ∀ i, R i → ¬ T i) : RefSt w' rm R G B := by
  obtain ⟨gv, bv, h1, h2, h3, h4, h5⟩ := h
  exact ⟨gv, bv, (ho.block rm (h3 rm h2) (hd rm h2)).trans h1, h2, fun i hi => Nat.lt_of_lt_of_le (h3 i hi) ho.size, h4.only ho (fun i hi => hd i hi.1), h5.only ho (fun i hi => hd i hi.1)⟩
theorem RefSt.drewN (h : RefSt w rm R G B) (n : Nat) : RefSt (w.drewN n) rm R G B := h.only (T := fun _ => False) ((Only.refl _ w).drewN n) (fun _ _ h => h)
/-- Put's list is stored as the grey ones -/
theorem RefSt.grey {w1 : World} {gv bv v' : Value} {G' : List Int} (h1 : w.heap[rm]? = some (.cells #[gv, bv] 54 (0, 0))) (h2 : R rm) (h3 : ∀ i, R i → i < w.heap.size) (h5 : IntsR (fun i => R i ∧ i ≠ rm) w bv B)
    (hi : IntsR (fun i => (R i ∧ i ≠ rm) ∨ w.heap.size ≤ i) w1 v' G') (hb : Below w.heap.size w w1) :
    RefSt (w1.setCell ⟨rm, 0, none⟩ v') rm (fun i => (R i ∨ w.heap.size ≤ i) ∧ i < w1.heap.size) G' B ∧ Only (fun i => i = rm) w (w1.setCell ⟨rm, 0, none⟩ v') := by
  have hrm := h3 rm h2
  have e1 := (hb.block rm hrm).trans h1
  have hsz : (w1.setCell ⟨rm, 0, none⟩ v').heap.size = w1.heap.size := by simp [World.setCell]
  refine ⟨⟨v', bv, by simp [World.setCell, Array.getElem?_modify, e1], ⟨.inl h2, by have := hb.size; omega⟩, fun i hi => by rw [hsz]; exact hi.2, ?_, ?_⟩, ?_⟩
  · refine (hi.mono (G := fun i => ((R i ∨ w.heap.size ≤ i) ∧ i < w1.heap.size) ∧ i ≠ rm) fun i h hlt => ?_).keep (by rw [hsz]; exact Nat.le_refl _) fun i h _ => Below.heap_setCell _ _ _ i h.2
    rcases h with h | h
    · exact ⟨⟨.inl h.1, hlt⟩, h.2⟩
    · exact ⟨⟨.inr h, hlt⟩, by omega⟩
  · refine ((h5.below hb).mono (G := fun i => ((R i ∨ w.heap.size ≤ i) ∧ i < w1.heap.size) ∧ i ≠ rm) fun i h hlt => ⟨⟨.inl h.1, hlt⟩, h.2⟩).keep (by rw [hsz]; exact Nat.le_refl _) fun i h _ => Below.heap_setCell _ _ _ i h.2
  · exact (Only.of_below (S := fun i => i = rm) hb).setCell (p := ⟨rm, 0, none⟩) (.inl rfl) _
end
def RefPost (rm : Nat) (R : Nat → Prop) (v : Value) (G B : List Int) (w : World) (e : Ending) (w' : World) : Prop :=
  e = .returned v ∧ ∃ R', RefSt w' rm R' G B ∧ Only (fun i => i = rm) w w' ∧ ∀ i, R' i → R i ∨ w.heap.size ≤ i
theorem rise_short {G : List Int} (h : Rise G) (hr : ∀ x ∈ G, 1 ≤ x ∧ x ≤ 100000) : G.length ≤ 1000000000 := by
  have := short_of_range 100000 G h.nodup hr; omega

set_option maxHeartbeats 2000000 in
theorem rsee_any (rm : Nat) (R Fi : Nat → Prop) (G B ids : List Int) (iv : Value) (w : World) (h : RefSt w rm R G B) (hi : IntsR Fi w iv ids) (hd : ∀ i, Fi i → i ≠ rm) (hr : rightL ids = true) (hG : Rise G) (hGr : ∀ x ∈ G, 1 ≤ x ∧ x ≤ 100000) :
    Calls Try.prog 26 #[.pointer (some ⟨rm, 0, none⟩), iv] w (RefPost rm R (.tuple #[]) (seeG G B ids) B w) := by
  obtain ⟨a, cap, rfl, hcap, hm, hc⟩ := hi.open_
  have HC := Lib.hid hc; clear hc hi
  have HD := Lib.hid hd; clear hd
  have HR : Hid (∀ x ∈ ids, 1 ≤ x ∧ x ≤ 100000) := by
    have h1 : ∀ x ∈ ids, 1 ≤ x ∧ x ≤ 100000 := fun x hx => rightL_mem hr hx
    exact h1
  have HG := Lib.hid hG
  have HGR := Lib.hid hGr
  clear hr hG hGr
  generalize hn : ids.length = n at *
  have HN := Lib.hid hn; clear hn
  have START : Hid (RefSt w rm R (seeG G B (ids.take 0)) B) := h
  clear h
  go_enter Try.func26, Try.ntmps26
  go_wp2_with fail
  go_loopw [4, 5] (fun iv _ wr => ∃ (k : Nat) (R' : Nat → Prop), k ≤ n ∧ iv = .int .i64 k ∧ Hid (RefSt wr rm R' (seeG G B (ids.take k)) B) ∧ Hid (Only (fun i => i = rm) w wr) ∧ Hid (∀ i, R' i → R i ∨ w.heap.size ≤ i)) (fun iv _ _ => n - (intOf iv).toNat)
  case atStart => exact ⟨0, R, Nat.zero_le _, rfl, START, by exact (Only.refl _ w), by { have h1 : ∀ i, R i → R i ∨ w.heap.size ≤ i := fun i hi => .inl hi; exact h1 }⟩
  case round =>
    obtain ⟨k, R', hk, rfl, HS, HO, HSUB⟩ := hrel
    by_cases hlt : k < n
    · obtain ⟨b, off, rfl, hFb, hbl, hcell⟩ := HC.out (by omega)
      obtain ⟨x, hx⟩ : ∃ x, ids[k]? = some x := ⟨_, List.getElem?_eq_getElem (by rw [HN.out]; exact hlt)⟩
      have hcx : wr.cell? ⟨b, off + k, none⟩ = some (.int .i64 x) := by
        rw [HO.out.cell (p := ⟨b, off + k, none⟩) hbl (HD.out b hFb)]
        exact hcell k x hx
      have HX := Lib.hid hx
      have hkn : (k : Int) < n := by omega
      clear hcell hx hbl hFb
      obtain ⟨gv, bv, hblk, hRrm, hRlt, hg, hb⟩ := HS.out
      have hc0 : wr.cell? ⟨rm, 0, none⟩ = some gv := by simp [World.cell?, hblk]
      have hc1 : wr.cell? ⟨rm, 1, none⟩ = some bv := by simp [World.cell?, hblk]
      have hf0 : wr.frozen? ⟨rm, 0, none⟩ = false := by simp [World.frozen?, hblk]
      obtain ⟨ga, gcap, hgv, _⟩ := hg.open_
      obtain ⟨ba, bcap, hbv, _⟩ := hb.open_
      have HBLK := Lib.hid hblk
      have HG1 := Lib.hid hg
      have HB1 := Lib.hid hb
      have HLT := Lib.hid hRlt
      have HRM := Lib.hid hRrm
      have hls : (seeG G B (ids.take k)).length ≤ 1000000000 := rise_short (rise_seeG B _ _ HG.out) fun y hy => by
        rcases (mem_seeG y B _ _).1 hy with h | ⟨h, _⟩
        · exact HGR.out y h
        · exact HR.out y (List.mem_of_mem_take h)
      have HLS := Lib.hid hls
      generalize hgl : (seeG G B (ids.take k)).length = gl at *
      have HGL := Lib.hid hgl
      clear hgl
      generalize B.length = bl at *
      subst hgv hbv
      clear hblk hg hb hRlt hRrm hls
      by_cases hbk : x ∈ B
      · have HIN : Hid (∀ W, IntsR (fun i => R' i ∧ i ≠ rm) W (.slice ba bl bcap) B → Calls Try.prog 21 #[.slice ba bl bcap, .int .i64 x] W fun e w' => e = .returned (.bool true) ∧ w' = W) := by
          have h1 : ∀ W, IntsR (fun i => R' i ∧ i ≠ rm) W (.slice ba bl bcap) B → Calls Try.prog 21 #[.slice ba bl bcap, .int .i64 x] W fun e w' => e = .returned (.bool true) ∧ w' = W := fun W hW => (in_any _ _ W B x hW).mono fun e w' ⟨he, hw⟩ => ⟨by rw [he]; simp [hbk], hw.symm⟩
          exact h1
        have HST : Hid (RefSt wr rm R' (seeG G B (ids.take (k + 1))) B) := by
          rw [seeG_step HX.out, if_pos hbk]; exact HS.out
        go_wp2_with fail
        go_quiet ((go_at_call 21; exact Calls.quiet_of_same (HIN.out _ HB1.out)))
        go_wp2_with fail
        go_roundw
        case rel => exact ⟨k + 1, R', by omega, by go_num, by exact (HST.out.drewN _), by exact (HO.out.drewN _), HSUB⟩
        case measure => simp [intOf]; omega
      · have HIN : Hid (∀ W, IntsR (fun i => R' i ∧ i ≠ rm) W (.slice ba bl bcap) B → Calls Try.prog 21 #[.slice ba bl bcap, .int .i64 x] W fun e w' => e = .returned (.bool false) ∧ w' = W) := by
          have h1 : ∀ W, IntsR (fun i => R' i ∧ i ≠ rm) W (.slice ba bl bcap) B → Calls Try.prog 21 #[.slice ba bl bcap, .int .i64 x] W fun e w' => e = .returned (.bool false) ∧ w' = W := fun W hW => (in_any _ _ W B x hW).mono fun e w' ⟨he, hw⟩ => ⟨by rw [he]; simp [hbk], hw.symm⟩
          exact h1
        go_wp2_with fail
        go_quiet ((go_at_call 21; exact Calls.quiet_of_same (HIN.out _ HB1.out)))
        go_wp2_with fail
        have HSG : Hid (seeG G B (ids.take (k + 1)) = putL (seeG G B (ids.take k)) x) := by
          rw [seeG_step HX.out, if_neg hbk]; exact (rfl : putL (seeG G B (ids.take k)) x = _)
        obtain ⟨W0, hW0⟩ : ∃ W0, W0 = wr.drewN nq := ⟨_, rfl⟩
        have HPUT : Hid (∀ d, Calls Try.prog 22 #[.slice ga gl gcap, .int .i64 x] (wr.drewN d) fun e w' => ∃ pa pn pc, e = .returned (.slice pa pn pc) ∧ IntsR (fun i => (R' i ∧ i ≠ rm) ∨ wr.heap.size ≤ i) w' (.slice pa pn pc) (putL (seeG G B (ids.take k)) x) ∧ Below wr.heap.size wr w') := by
          have h1 : ∀ d, Calls Try.prog 22 #[.slice ga gl gcap, .int .i64 x] (wr.drewN d) fun e w' => ∃ pa pn pc, e = .returned (.slice pa pn pc) ∧ IntsR (fun i => (R' i ∧ i ≠ rm) ∨ wr.heap.size ≤ i) w' (.slice pa pn pc) (putL (seeG G B (ids.take k)) x) ∧ Below wr.heap.size wr w' := fun d =>
            (put_any _ _ (wr.drewN d) _ x (HG1.out.drewN d) (fun i hi => HLT.out i hi.1) (by rw [HGL.out]; exact HLS.out)).mono fun e w' ⟨v', he, hi, hb⟩ => by
              obtain ⟨pa, pc, rfl, _⟩ := hi.open_
              exact ⟨_, _, _, he, hi, ⟨hb.os, hb.tape, hb.output, hb.size, hb.block⟩⟩
          exact h1
        clear hW0
        go_region_with (go_at_call 22; refine (HPUT.out _).mono ?_; rintro e w1 ⟨pa, pn, pc, rfl, hi1, hb1⟩; have hc01 : w1.cell? ⟨rm, 0, none⟩ = some (.slice ga gl gcap) := (hb1.cell (p := ⟨rm, 0, none⟩) (HLT.out rm HRM.out)).trans hc0; have hf01 : w1.frozen? ⟨rm, 0, none⟩ = false := (hb1.frozen (p := ⟨rm, 0, none⟩) (HLT.out rm HRM.out)).trans hf0; have HI1 := Lib.hid hi1; have HBB1 := Lib.hid hb1; clear hi1 hb1)
        all_goals
          go_wp2_with fail
          have hfin := RefSt.grey (R := R') HBLK.out HRM.out HLT.out HB1.out HI1.out HBB1.out
          rw [← HSG.out] at hfin
          refine ⟨⟨k + 1, _, by omega, by go_num, hfin.1, ?_, ?_⟩, by simp [intOf]; omega⟩
          · have h : Only (fun i => i = rm) w (w1.setCell ⟨rm, 0, none⟩ (.slice pa pn pc)) := HO.out.trans hfin.2
            exact h
          · have h : ∀ i, ((R' i ∨ wr.heap.size ≤ i) ∧ i < w1.heap.size) → R i ∨ w.heap.size ≤ i := fun i hi => by
              rcases hi.1 with h | h
              · exact HSUB.out i h
              · have := HO.out.size; exact .inr (by omega)
            exact h
    · go_wp2_with fail
      go_end0
      refine ⟨rfl, R', ?_, HO.out, HSUB.out⟩
      have h := HS.out
      rw [List.take_of_length_le (by rw [HN.out]; omega)] at h
      exact h

theorem rnew_any (Fi : Nat → Prop) (ids : List Int) (iv : Value) (w : World) (hi : IntsR Fi w iv ids) (hr : rightL ids = true) :
    Calls Try.prog 8 #[iv] w fun e w' => ∃ rm R', e = .returned (.tuple #[.pointer (some ⟨rm, 0, none⟩), .int .i64 0]) ∧ RefSt w' rm R' (seeG [] [] ids) [] ∧ Below w.heap.size w w' ∧ ∀ i, R' i → w.heap.size ≤ i := by
  have H1 := Lib.hid (rright_any Fi iv w ids hi)
  obtain ⟨u, hu⟩ : ∃ u, u = w.alloc (.cells #[.slice none 0 0, .slice none 0 0] 54) := ⟨_, rfl⟩
  have hf : RefSt u w.heap.size (fun i => i = w.heap.size) [] [] := by
    rw [hu]
    exact ⟨_, _, heap_alloc_new w _, rfl, fun i hi => by subst hi; simp, IntsR.nil _ _, IntsR.nil _ _⟩
  have hi' : IntsR (fun i => Fi i ∧ i < w.heap.size) u iv ids := by
    rw [hu]; exact (hi.mono fun i h h2 => ⟨h, h2⟩).alloc _
  have H2 := Lib.hid (rsee_any w.heap.size _ (fun i => Fi i ∧ i < w.heap.size) [] [] ids iv u hf hi' (fun i h => by omega) hr List.Pairwise.nil (by simp))
  rw [hu] at H2
  clear hi hi' hf hu
  rw [hr] at H1
  go_enter Try.func8, Try.ntmps8
  go_wp2_with fail
  refine (H1.out).mono ?_
  rintro e w' ⟨rfl, rfl⟩
  go_wp2_with fail
  refine (H2.out).mono ?_
  rintro e w1 ⟨rfl, R', hm, ho, hs⟩
  have HM := Lib.hid hm
  have HO := Lib.hid ho
  have HS := Lib.hid hs
  clear hm ho hs
  go_wp2_with fail
  go_ret2
  refine ⟨w.heap.size, R', rfl, HM.out, ?_, ?_⟩
  · have hb : Below w.heap.size w (w.alloc (.cells #[.slice none 0 0, .slice none 0 0] 54)) := (Below.refl _ _).alloc (Nat.le_refl _) _
    exact ⟨HO.out.os.trans hb.os, HO.out.tape.trans hb.tape, HO.out.output.trans hb.output, Nat.le_trans hb.size HO.out.size, fun k hk => (HO.out.block k (by simp; omega) (by omega)).trans (hb.block k hk)⟩
  · intro i hi
    rcases HS.out i hi with h | h
    · omega
    · simp at h; omega
theorem rnew_bad (Fi : Nat → Prop) (ids : List Int) (iv : Value) (w : World) (hi : IntsR Fi w iv ids) (hr : rightL ids = false) :
    Calls Try.prog 8 #[iv] w fun e w' => e = .returned (.tuple #[.pointer none, .int .i64 2]) ∧ w = w' := by
  have H1 := Lib.hid (rright_any Fi iv w ids hi)
  rw [hr] at H1
  clear hi
  go_enter Try.func8, Try.ntmps8
  go_wp2_with fail
  refine (H1.out).mono ?_
  rintro e w' ⟨rfl, rfl⟩
  go_wp2_with fail
  go_ret2
  exact ⟨rfl, rfl⟩
theorem rwrote_bad (Fi : Nat → Prop) (ids : List Int) (iv : Value) (p : Addr) (w : World) (hi : IntsR Fi w iv ids) (hr : rightL ids = false) :
    Calls Try.prog 14 #[.pointer (some p), iv] w fun e w' => e = .returned (.int .i64 2) ∧ w = w' := by
  have H1 := Lib.hid (rright_any Fi iv w ids hi)
  rw [hr] at H1
  clear hi
  go_enter Try.func14, Try.ntmps14
  go_wp2_with fail
  refine (H1.out).mono ?_
  rintro e w' ⟨rfl, rfl⟩
  go_wp2_with fail
  go_ret
  exact ⟨rfl, rfl⟩
theorem rwrote_any (rm : Nat) (R Fi : Nat → Prop) (G B ids : List Int) (iv : Value) (w : World) (h : RefSt w rm R G B) (hi : IntsR Fi w iv ids) (hd : ∀ i, Fi i → i ≠ rm) (hr : rightL ids = true) (hG : Rise G) (hGr : ∀ x ∈ G, 1 ≤ x ∧ x ≤ 100000) :
    Calls Try.prog 14 #[.pointer (some ⟨rm, 0, none⟩), iv] w (RefPost rm R (.int .i64 0) (seeG G B ids) B w) := by
  have H1 := Lib.hid (rright_any Fi iv w ids hi)
  have H2 := Lib.hid (rsee_any rm R Fi G B ids iv w h hi hd hr hG hGr)
  rw [hr] at H1
  clear hi h hd hG hGr
  go_enter Try.func14, Try.ntmps14
  go_wp2_with fail
  refine (H1.out).mono ?_
  rintro e w' ⟨rfl, rfl⟩
  go_wp2_with fail
  refine (H2.out).mono ?_
  rintro e w1 ⟨rfl, hx⟩
  have HX := Lib.hid hx
  clear hx
  go_wp2_with fail
  go_ret
  exact ⟨rfl, HX.out⟩
theorem rdone_any (rm : Nat) (R : Nat → Prop) (G B : List Int) (w : World) (h : RefSt w rm R G B) :
    Calls Try.prog 17 #[.pointer (some ⟨rm, 0, none⟩)] w fun e w' => e = .returned (.bool G.isEmpty) ∧ w = w' := by
  obtain ⟨gv, bv, hblk, _, _, hg, _⟩ := h
  have hc0 : w.cell? ⟨rm, 0, none⟩ = some gv := by simp [World.cell?, hblk]
  obtain ⟨ga, gcap, rfl, _⟩ := hg.open_
  clear hg hblk
  cases G with
  | nil =>
    go_enter Try.func17, Try.ntmps17
    go_wp2_with fail
    go_ret
    exact ⟨rfl, rfl⟩
  | cons g r =>
    have hb : ((((g :: r).length : Nat) : Int) == 0) = false := by simp; omega
    generalize (g :: r).length = q at *
    go_enter Try.func17, Try.ntmps17
    go_wp2_with fail
    go_ret
    exact ⟨rfl, rfl⟩
theorem rnext_any (rm : Nat) (R : Nat → Prop) (G B : List Int) (w : World) (h : RefSt w rm R G B) :
    Calls Try.prog 10 #[.pointer (some ⟨rm, 0, none⟩)] w fun e w' => e = .returned (.tuple #[.int .i64 (G.headD 0), .bool (!G.isEmpty)]) ∧ w = w' := by
  obtain ⟨gv, bv, hblk, _, _, hg, _⟩ := h
  have hc0 : w.cell? ⟨rm, 0, none⟩ = some gv := by simp [World.cell?, hblk]
  obtain ⟨ga, gcap, rfl, _, _, hcell⟩ := hg.open_
  clear hg hblk
  cases G with
  | nil =>
    clear hcell
    go_enter Try.func10, Try.ntmps10
    go_wp2_with fail
    go_ret2
    exact ⟨rfl, rfl⟩
  | cons g r =>
    obtain ⟨b, off, rfl, _, _, hc⟩ := hcell (by simp)
    have hcg := hc 0 g (by simp)
    rw [Nat.add_zero] at hcg
    have hb : ((((g :: r).length : Nat) : Int) == 0) = false := by simp; omega
    have hpos : (0 : Int) < (((g :: r).length : Nat) : Int) := by simp only [List.length_cons]; omega
    generalize (g :: r).length = q at *
    clear hc hcell
    go_enter Try.func10, Try.ntmps10
    go_wp2_with fail
    go_ret2
    exact ⟨rfl, rfl⟩
end Go.Proofs.Ythceiokibionkaa
