/- MarkStays: whatever the input, it returns true, and nothing that was there has turned. -/
import Derived.Test.YthceiokibionkaaEv
namespace Go.Proofs.Ythceiokibionkaa
open Go.RowKit

theorem pick_is (p c n : Int) (w : World) (hp : (pickN c n.toNat : Int) = p) (hc1 : -9223372036854775808 ≤ c) (hc2 : c ≤ 9223372036854775807) (hn : 1 ≤ n) (hn2 : n ≤ 1000000) :
    Calls Try.prog 9 #[.int .i64 c, .int .i64 n] w fun e w' => e = .returned (.int .i64 p) ∧ w = w' := by
  subst hp; exact pick_any c n w hc1 hc2 hn hn2
theorem Ev.blk {F F' : Nat → Prop} {w w' : World} {g : Nat} {o : Obj} (h : Ev F w F' w') (hg : w.heap[g]? = some o) (hF : ¬ F g) : w'.heap[g]? = some o ∧ ¬ F' g := by
  have hlt : g < w.heap.size := (Array.getElem?_eq_some_iff.1 hg).1
  exact ⟨(h.only.block g hlt hF).trans hg, fun h1 => (h.sub g h1).elim hF fun h2 => by omega⟩
theorem done_is {w : World} {bm : Nat} {F : Nat → Prop} {G B : List Int} (b : Bool) (h : MarkSt w bm F G B) (hb : G.isEmpty = b) :
    Calls Try.prog 16 #[.pointer (some ⟨bm, 0, none⟩)] w fun e w' => e = .returned (.bool b) ∧ w = w' := by subst hb; exact done_any bm F G B w h

theorem below_drewN {B : Nat} {a w : World} (h : Below B a w) (n : Nat) : Below B a (w.drewN n) := ⟨h.os, h.tape, h.output, h.size, h.block⟩
theorem neq_self (eb : Bool) (W : World) : (binOp .neq 4 (.bool eb) (.bool eb)).run Try.prog W = .ok (.bool false) W := by
  cases eb
  · kernel_rfl
  · kernel_rfl
theorem mem_marked_scan {G B ids : List Int} {id : Int} (hg : id ∈ G) : ∀ x, x ∈ markedL (scanG G B id ids) (putL B id) ↔ x ∈ markedL G B ∨ x ∈ ids := by
  intro x
  rw [mem_markedL, mem_markedL, scanG, mem_seeG, mem_putL]
  by_cases e : x = id
  · subst e; simp [hg]
  · simp [e]
    constructor
    · rintro ((h | ⟨h, _⟩) | h) <;> simp [h]
    · rintro ((h | h) | h)
      · exact .inl (.inl h)
      · exact .inr h
      · by_cases hb : x ∈ B
        · exact .inr hb
        · exact .inl (.inr ⟨h, hb⟩)

structure Inv (w wr : World) (bm : Nat) (F : Nat → Prop) (G B : List Int) (bv : Value) : Prop where
  st : MarkSt wr bm F G B
  above : ∀ i, F i → w.heap.size ≤ i
  black : Dat F wr bv B
  bel : Below w.heap.size w wr

set_option maxRecDepth 100000 in
set_option maxHeartbeats 8000000 in
theorem stays_any (w : World) (fv lv : Value) (fs : List Int) (cs : List CallD) (hf : IntsR (fun i => i < w.heap.size) w fv fs) (hfx : I64 fs) (hl : CallsR w w.heap.size lv cs) :
    Calls Try.prog 4 #[fv, lv] w fun e w' => e = .returned (.bool true) ∧ Below w.heap.size w w' := by
  obtain ⟨a, cap, rfl, hcap, hc⟩ := hl
  have HC := Lib.hid hc; clear hc
  obtain ⟨fa, fcap, rfl, _⟩ := hf.open_
  have HF := Lib.hid hf
  generalize hfn : fs.length = fn at *
  clear hfn
  have HFX := Lib.hid hfx
  clear hf hfx
  generalize hn : cs.length = n at *
  have HN := Lib.hid hn; clear hn
  go_enter Try.func4, Try.ntmps4
  go_wp2_with fail
  refine (awake_any _).mono ?_
  rintro e w1 ⟨rfl, hb1⟩
  have HB1 := Lib.hid hb1; clear hb1
  go_wp2_with fail
  refine (list_ev (F := fun i => w.heap.size ≤ i ∧ i < w1.heap.size) (IntsR.mono (HF.out.below HB1.out) fun i hi _ h => by have h2 : i < w.heap.size := hi; omega) HFX.out 0 0 false 12 (by omega) (by omega) (fun i hi => hi.2)).mono ?_
  rintro e w2 ⟨a2, n2, c2, rfl, hi2, hb2⟩
  have HI2 := Lib.hid hi2
  have HB2 := Lib.hid (below_then HB1.out hb2)
  clear hi2 hb2
  go_wp2_with fail
  refine (new_any _ _ _ w2 HI2.out (right_listL fs)).mono ?_
  rintro e w3 ⟨bm, F3, rfl, hst3, hb3, hs3⟩
  have INV0 : Hid (Inv w w3 bm F3 (seeG [] [] (listL fs false 12)) [] (.slice none 0 0)) := by
    have h : Inv w w3 bm F3 (seeG [] [] (listL fs false 12)) [] (.slice none 0 0) := ⟨hst3, fun i hi => Nat.le_trans HB2.out.size (hs3 i hi), Dat.nil _ _, below_then HB2.out hb3⟩
    exact h
  generalize seeG [] [] (listL fs false 12) = G0 at *
  clear hst3 hb3 hs3 HI2 HB2 HB1 HF HFX
  go_wp2_with fail
  go_loopw [8, 9] (fun bv iv wr => ∃ (k : Nat) (F : Nat → Prop) (G B : List Int), k ≤ n ∧ k ≤ 30 ∧ iv = .int .i64 k ∧ Hid (Inv w wr bm F G B bv)) (fun _ iv _ => 30 - (intOf iv).toNat)
  case atStart => exact ⟨0, F3, G0, [], Nat.zero_le _, Nat.zero_le _, rfl, INV0⟩
  case round =>
    clear INV0 F3 G0
    obtain ⟨k, F, G, B, hk, hk30, rfl, HINV⟩ := hrel
    by_cases hgo : k < n ∧ k < 30
    · obtain ⟨hkn, hkl⟩ := hgo
      obtain ⟨b, off, rfl, hbl, hcell⟩ := HC.out (by omega)
      obtain ⟨c, hcx⟩ : ∃ c, cs[k]? = some c := ⟨_, List.getElem?_eq_getElem (by rw [HN.out]; exact hkn)⟩
      obtain ⟨⟨hc0, hc1, hc2, hc3⟩, hlx, hl64, hk64⟩ := hcell k c hcx
      obtain ⟨hsG, hsB, hdis, hrng⟩ := HINV.out.st.facts
      obtain ⟨wo, rfl⟩ : ∃ wo : World, wo = wr := ⟨_, rfl⟩
      -- the call's list, outside the marker's blocks
      have HLX : Hid (Dat F wo c.lv c.xs) := by
        have h : Dat F wo c.lv c.xs := IntsR.mono (hlx.below HINV.out.bel) fun i hi _ h1 => by have := HINV.out.above i h1; have h2 : i < w.heap.size := hi; omega
        exact h
      have HL64 := Lib.hid hl64
      obtain ⟨hid1, hid2⟩ := hk64 c.id (by simp)
      have HCC : Hid (∀ W, Below w.heap.size w W → W.cell? ⟨b, off + k * 4, none⟩ = some (.int .i64 c.kind) ∧ W.cell? ⟨b, off + k * 4 + 1, none⟩ = some (.int .i64 c.id) ∧ W.cell? ⟨b, off + k * 4 + 2, none⟩ = some c.lv ∧ W.cell? ⟨b, off + k * 4 + 3, none⟩ = some (.bool c.odd)) := by
        have h : ∀ W, Below w.heap.size w W → W.cell? ⟨b, off + k * 4, none⟩ = some (.int .i64 c.kind) ∧ W.cell? ⟨b, off + k * 4 + 1, none⟩ = some (.int .i64 c.id) ∧ W.cell? ⟨b, off + k * 4 + 2, none⟩ = some c.lv ∧ W.cell? ⟨b, off + k * 4 + 3, none⟩ = some (.bool c.odd) :=
          fun W hW => ⟨(hW.cell (p := ⟨b, off + k * 4, none⟩) hbl).trans hc0, (hW.cell (p := ⟨b, off + k * 4 + 1, none⟩) hbl).trans hc1, (hW.cell (p := ⟨b, off + k * 4 + 2, none⟩) hbl).trans hc2, (hW.cell (p := ⟨b, off + k * 4 + 3, none⟩) hbl).trans hc3⟩
        exact h
      clear hcell hcx hc0 hc1 hc2 hc3 hlx hl64 hk64 HC
      obtain ⟨la, ln, lc, hlv⟩ := HLX.out.slice
      obtain ⟨kind, hkind⟩ : ∃ x, x = c.kind := ⟨_, rfl⟩
      obtain ⟨cid, hcid⟩ : ∃ x, x = c.id := ⟨_, rfl⟩
      obtain ⟨odd, hodd⟩ : ∃ x, x = c.odd := ⟨_, rfl⟩
      obtain ⟨xs, hxs⟩ : ∃ x, x = c.xs := ⟨_, rfl⟩
      rw [← hkind, ← hcid, ← hodd, hlv] at HCC
      rw [← hxs, hlv] at HLX
      rw [← hxs] at HL64
      rw [← hcid] at hid1 hid2
      clear hkind hcid hodd hxs hlv
      clear c
      have hpl := pickN_lt cid 12 (by omega)
      obtain ⟨pid, hpid⟩ : ∃ p : Int, ((pickN cid 12 : Nat) : Int) = p := ⟨_, rfl⟩
      have hp1 : 0 ≤ pid := by omega
      have hp2 : pid < 12 := by omega
      have HPID := Lib.hid hpid
      clear hpid hpl
      obtain ⟨ids, hids⟩ : ∃ ids, ids = listL xs false 12 := ⟨_, rfl⟩
      have HIDS := Lib.hid hids
      have HRI : Hid (rightL ids = true) := by rw [hids]; exact right_listL xs
      have HSG := Lib.hid hsG
      have HSB := Lib.hid hsB
      have HDIS := Lib.hid hdis
      have HRNG := Lib.hid hrng
      clear hids hsG hsB hdis hrng
      go_wp2_with fail
      -- was := m.Marked()
      refine (marked_ev HINV.out.st).mono ?_
      rintro e w1 ⟨wa, wn, wc, rfl, hwas, hb1⟩
      obtain ⟨hc0, hc1, hc2, hc3⟩ := HCC.out w1 (below_then HINV.out.bel hb1)
      have HWAS := Lib.hid hwas
      have HB1 := Lib.hid hb1
      clear hwas hb1
      go_wp2_with fail
      refine (pick_is pid cid 12 _ HPID.out (by omega) (by omega) (by omega) (by omega)).mono ?_
      rintro e w' ⟨rfl, rfl⟩
      obtain ⟨w2, hw2⟩ : ∃ w2, w2 = w1.alloc (.cells #[.int .i64 kind, .int .i64 cid, .slice la ln lc, .bool false] 24) := ⟨_, rfl⟩
      have hblk2 : w2.heap[w1.heap.size]? = some (.cells #[.int .i64 kind, .int .i64 cid, .slice la ln lc, .bool false] 24 (0, 0)) := by rw [hw2]; exact heap_alloc_new w1 _
      have hb2 : Below w1.heap.size w1 w2 := by rw [hw2]; exact (Below.refl _ _).alloc (Nat.le_refl _) _
      rw [← hw2]
      have hFlt : ∀ i, F i → i < wo.heap.size := HINV.out.st.lt
      have hs1 := HB1.out.size
      have hs2 := hb2.size
      have EV2 : Hid (Ev F wo F w2) := by
        have h : Ev F wo F w2 := (Ev.of_below HB1.out).trans (Ev.of_below hb2)
        exact h
      have HWAS2 := Lib.hid (HWAS.out.below hb2)
      have HCB2 : Hid (w2.heap[w1.heap.size]? = some (.cells #[.int .i64 kind, .int .i64 cid, .slice la ln lc, .bool false] 24 (0, 0)) ∧ ¬ F w1.heap.size) := by
        have h : w2.heap[w1.heap.size]? = some (.cells #[.int .i64 kind, .int .i64 cid, .slice la ln lc, .bool false] 24 (0, 0)) ∧ ¬ F w1.heap.size := ⟨hblk2, fun h => by have := hFlt _ h; omega⟩
        exact h
      have HLX2 := Lib.hid (HLX.out.ev EV2.out)
      have HBK2 := Lib.hid (HINV.out.black.ev EV2.out)
      have HST2 := Lib.hid ((HINV.out.st.later HB1.out).later hb2)
      have HFLT := Lib.hid hFlt
      have hcb0 : w2.cell? ⟨w1.heap.size, 0, none⟩ = some (.int .i64 kind) := by simp [World.cell?, hblk2]
      have hcb1 : w2.cell? ⟨w1.heap.size, 1, none⟩ = some (.int .i64 cid) := by simp [World.cell?, hblk2]
      have hcb2 : w2.cell? ⟨w1.heap.size, 2, none⟩ = some (.slice la ln lc) := by simp [World.cell?, hblk2]
      have hcb3 : w2.cell? ⟨w1.heap.size, 3, none⟩ = some (.bool false) := by simp [World.cell?, hblk2]
      obtain ⟨cb, hcb⟩ : ∃ cb, cb = w1.heap.size := ⟨_, rfl⟩
      rw [← hcb] at hcb0 hcb1 hcb2 hcb3 HCB2 ⊢
      clear hw2 hblk2 hb2 hFlt hc0 hc1 hc2 hc3 hcb HCC
      by_cases hg : 1 + pid ∈ G
      · have HGG := Lib.hid hg
        have HQ : Hid (decide (1 + pid ∈ markedL G B) = true) := by
          have h : decide (1 + pid ∈ markedL G B) = true := by simp only [decide_eq_true_eq]; exact (mem_markedL _ _ _).2 (.inl hg)
          exact h
        have HQ2 : Hid (decide (1 + pid ∈ B) = false) := by
          have h : decide (1 + pid ∈ B) = false := by simp only [decide_eq_false_iff_not]; exact HDIS.out _ hg
          exact h
        clear hg
        go_wp2_with fail
        refine (in_is true HWAS2.out (1 + pid) HQ.out).mono ?_
        rintro e w' ⟨rfl, rfl⟩
        go_wp2_with fail
        refine (in_is false HBK2.out (1 + pid) HQ2.out).mono ?_
        rintro e w' ⟨rfl, rfl⟩
        go_wp2_with fail
        refine (list_ev (w := w2) HLX2.out HL64.out kind cid false 12 (by omega) (by omega) (fun i hi => by have := HFLT.out i hi; omega)).mono ?_
        rintro e w3 ⟨a3, n3, c3, rfl, hi3, hb3⟩
        rw [show (12 : Int).toNat = 12 from rfl, ← HIDS.out] at hi3
        have HI3 := Lib.hid hi3
        have HB3 := Lib.hid hb3
        have hs3 := hb3.size
        clear hi3 hb3
        go_wp2_with fail
        refine (scan_ev (HST2.out.later HB3.out) HI3.out (1 + pid) HGG.out HRI.out).mono ?_
        rintro e w4 ⟨rfl, F4, hst4, hev4⟩
        have HST4 := Lib.hid hst4
        have EV24 : Hid (Ev F w2 F4 w4) := (Ev.of_below HB3.out).trans hev4
        clear hst4 hev4
        have HLB : Hid (B.length ≤ 1000000000) := rise_short HSB.out fun x hx => HRNG.out x (.inr hx)
        go_wp2_with fail
        refine (put_ev (w := w4) (HBK2.out.ev EV24.out) (1 + pid) HLB.out (fun i hi => HST4.out.lt i hi)).mono ?_
        rintro e w5 ⟨a5, n5, c5, rfl, hbk5, hb5⟩
        obtain ⟨G1, hG1⟩ : ∃ G1, G1 = scanG G B (1 + pid) ids := ⟨_, rfl⟩
        obtain ⟨B1, hB1⟩ : ∃ B1, B1 = putL B (1 + pid) := ⟨_, rfl⟩
        have HBK5 : Hid (Dat F4 w5 (.slice a5 n5 c5) B1) := by rw [hB1]; exact hbk5
        have HST5 : Hid (MarkSt w5 bm F4 G1 B1) := by rw [hG1, hB1]; exact HST4.out.later hb5
        have EV25 : Hid (Ev F w2 F4 w5) := EV24.out.trans (Ev.of_below hb5)
        have EV5 : Hid (Ev F wo F4 w5) := EV2.out.trans EV25.out
        have HF1 : Hid (Rise G1 ∧ Rise B1 ∧ (∀ x, x ∈ G1 → x ∉ B1) ∧ (∀ x, x ∈ G1 ∨ x ∈ B1 → 1 ≤ x ∧ x ≤ 100000)) := HST5.out.facts
        have HMEM : Hid (∀ x, (x ∈ markedL G1 B1 ↔ x ∈ markedL G B ∨ x ∈ ids)) := by
          rw [hG1, hB1]
          exact mem_marked_scan HGG.out
        have HMONO : Hid (∀ x, x ∈ markedL G B → x ∈ markedL G1 B1) := by
          have h : ∀ x, x ∈ markedL G B → x ∈ markedL G1 B1 := fun x hx => (HMEM.out x).2 (.inl hx)
          exact h
        clear hG1 hB1 hbk5 hb5
        have HSG1 : Hid (seeG G1 B1 (markedL G1 B1) = G1) := by
          have h : seeG G1 B1 (markedL G1 B1) = G1 := seeG_same HF1.out.1 fun x hx => (mem_markedL x G1 B1).1 hx
          exact h
        go_wp2_with fail
        -- now := m.Marked()
        refine (marked_ev HST5.out).mono ?_
        rintro e w6 ⟨na, nn, nc, rfl, hnow, hb6⟩
        have EV6 := Lib.hid (EV5.out.trans (Ev.of_below hb6))
        have HST6 := Lib.hid (HST5.out.later hb6)
        have HNOW6 := Lib.hid hnow
        have HEV56 : Hid (Ev F4 w5 F4 w6) := Ev.of_below hb6
        clear hnow hb6
        go_wp2_with fail
        refine (wrote_ev HST6.out HNOW6.out (right_markedL HF1.out.2.2.2)).mono ?_
        rintro e w7 ⟨rfl, F7, hst7, hev7⟩
        rw [HSG1.out] at hst7
        have HST7 := Lib.hid hst7
        have HEV7 := Lib.hid (HEV56.out.trans hev7)
        have HNOW7 := Lib.hid (HNOW6.out.ev hev7)
        clear hst7 hev7
        go_wp2_with fail
        refine (marked_ev HST7.out).mono ?_
        rintro e w8 ⟨aa, an, ac, rfl, hag, hb8⟩
        have HAG8 := Lib.hid hag
        have HEV8 := Lib.hid (HEV7.out.trans (Ev.of_below hb8))
        have HST8 := Lib.hid (HST7.out.later hb8)
        have HNOW8 := Lib.hid (HNOW7.out.below hb8)
        clear hag hb8
        go_wp2_with fail
        refine (nums_is true HNOW8.out HAG8.out (by simp [numsL])).mono ?_
        rintro e w' ⟨rfl, d1, rfl⟩
        obtain ⟨eb, heb⟩ : ∃ eb, G1.isEmpty = eb := ⟨_, rfl⟩
        have HEB := Lib.hid heb
        clear heb
        have hneb : ∀ W : World, (binOp .neq 4 (.bool eb) (.bool eb)).run Try.prog W = .ok (.bool false) W := fun W => neq_self eb W
        go_wp2_with fail
        refine (done_is eb (HST8.out.drewN d1) HEB.out).mono ?_
        rintro e w' ⟨rfl, rfl⟩
        go_wp2_with fail
        refine (nums_is (w := w8.drewN d1) eb ((HBK5.out.ev HEV8.out).ev (Ev.drewN _ _ d1)) (HNOW8.out.ev (Ev.drewN _ _ d1)) (by rw [← HEB.out]; exact nums_black HF1.out.2.1 HF1.out.2.2.1)).mono ?_
        rintro e w' ⟨rfl, d2, rfl⟩
        obtain ⟨w9, hw9⟩ : ∃ w9, w9 = w8.drewN (d1 + d2) := ⟨_, rfl⟩
        have HEV9 : Hid (Ev F wo F7 w9) := by rw [hw9]; exact (EV5.out.trans HEV8.out).trans (Ev.drewN _ _ _)
        have HST9 : Hid (MarkSt w9 bm F7 G1 B1) := by rw [hw9]; exact HST8.out.drewN _
        have HNOW9 : Hid (Dat F7 w9 (.slice na nn nc) (markedL G1 B1)) := by rw [hw9]; exact HNOW8.out.ev (Ev.drewN _ _ _)
        have HBK9 : Hid (Dat F7 w9 (.slice a5 n5 c5) B1) := by rw [hw9]; exact (HBK5.out.ev HEV8.out).ev (Ev.drewN _ _ _)
        have EV29 : Hid (Ev F w2 F7 w9) := by rw [hw9]; exact (EV25.out.trans HEV8.out).trans (Ev.drewN _ _ _)
        have HWAS9 : Hid (Dat F7 w9 (.slice wa wn wc) (markedL G B)) := HWAS2.out.ev EV29.out
        have HLX9 : Hid (Dat F7 w9 (.slice la ln lc) xs) := HLX2.out.ev EV29.out
        have HCB9 : Hid (w9.heap[cb]? = some (.cells #[.int .i64 kind, .int .i64 cid, .slice la ln lc, .bool false] 24 (0, 0)) ∧ ¬ F7 cb) := EV29.out.blk HCB2.out.1 HCB2.out.2
        obtain ⟨_, _, hwe, _, _, hwc⟩ := HWAS9.out.open_
        simp only [Value.slice.injEq] at hwe
        obtain ⟨rfl, hwn, rfl⟩ := hwe
        have HWN := Lib.hid hwn
        have HWC := Lib.hid hwc
        obtain ⟨_, _, hne, hncap, hnmax, hnc⟩ := HNOW9.out.open_
        simp only [Value.slice.injEq] at hne
        obtain ⟨rfl, hnn, rfl⟩ := hne
        have HNN := Lib.hid hnn
        have HNC := Lib.hid hnc
        have hwl : wn ≤ 1000000000 := by
          rw [hwn]; exact rise_short (rise_markedL G B HSB.out) fun x hx => HRNG.out x ((mem_markedL x G B).1 hx)
        have hnl : nn ≤ 1000000000 := by
          rw [hnn]; exact rise_short (rise_markedL G1 B1 HF1.out.2.1) fun x hx => HF1.out.2.2.2 x ((mem_markedL x G1 B1).1 hx)
        have HFIN : Hid (Inv w w9 bm F7 G1 B1 (.slice a5 n5 c5)) := by
          have h : Inv w w9 bm F7 G1 B1 (.slice a5 n5 c5) := ⟨HST9.out, HEV9.out.above HINV.out.bel HINV.out.above, HBK9.out, HEV9.out.below HINV.out.bel HINV.out.above⟩
          exact h
        have HW9 := Lib.hid hw9
        clear hwn hwc hnn hnc hncap hnmax hw9
        go_wp2_with fail
        rw [← HW9.out]
        clear HW9 HNOW6 HNOW7 HNOW8 HAG8 HEV7 HEV8 HEV56 HST5 HST6 HST7 HST8 EV5 EV6 HBK5 EV25
        -- what was marked is marked now
        go_loopw [18, 19] (fun iv _ wr => ∃ q : Nat, q ≤ wn ∧ iv = .int .i64 q ∧ Hid (w9 = wr)) (fun iv _ _ => wn - (intOf iv).toNat)
        case atStart => exact ⟨0, Nat.zero_le _, rfl, by exact (rfl : w9 = w9)⟩
        case round =>
          obtain ⟨q, hq, rfl, HWQ⟩ := hrel
          obtain rfl := HWQ.out
          by_cases hlt : q < wn
          · obtain ⟨sb, soff, rfl, _, _, hsc⟩ := HWC.out (by rw [← HWN.out]; omega)
            obtain ⟨x, hx⟩ : ∃ x, (markedL G B)[q]? = some x := ⟨_, List.getElem?_eq_getElem (by rw [← HWN.out]; exact hlt)⟩
            have hcx := hsc q x hx
            have HIN : Hid (decide (x ∈ markedL G1 B1) = true) := by
              have h : decide (x ∈ markedL G1 B1) = true := by
                simp only [decide_eq_true_eq]
                exact HMONO.out x (List.mem_of_getElem? hx)
              exact h
            clear hsc hx
            go_wp2_with fail
            refine (in_is true HNOW9.out x HIN.out).mono ?_
            rintro e w' ⟨rfl, rfl⟩
            go_wp2_with fail
            go_roundw
            case rel => exact ⟨q + 1, by omega, by go_num, by first | exact (rfl : w9 = w9) | exact trivial⟩
            case measure => simp [intOf]; omega
          · go_wp2_with fail
            -- what is marked now was marked, or is one of the list
            go_loopw [20, 21] (fun iv _ wr => ∃ q : Nat, q ≤ nn ∧ iv = .int .i64 q ∧ Hid (Below w9.heap.size w9 wr)) (fun iv _ _ => nn - (intOf iv).toNat)
            case atStart => exact ⟨0, Nat.zero_le _, rfl, by exact (Below.refl _ w9)⟩
            case round =>
              obtain ⟨p, hp, rfl, HBr⟩ := hrel
              have HEVr : Hid (Ev F7 w9 F7 wr) := Ev.of_below HBr.out
              by_cases hlt2 : p < nn
              · obtain ⟨tb, toff, rfl, htF, htl, htc⟩ := HNC.out (by rw [← HNN.out]; omega)
                obtain ⟨x, hx⟩ : ∃ x, (markedL G1 B1)[p]? = some x := ⟨_, List.getElem?_eq_getElem (by rw [← HNN.out]; exact hlt2)⟩
                have hcx : wr.cell? ⟨tb, toff + p, none⟩ = some (.int .i64 x) := (HEVr.out.only.cell (p := ⟨tb, toff + p, none⟩) htl htF).trans (htc p x hx)
                have hpn : (p : Int) < nn := by omega
                have HWASr := Lib.hid (HWAS9.out.ev HEVr.out)
                have HXM := Lib.hid (List.mem_of_getElem? hx)
                have htlr : tb < wr.heap.size := Nat.lt_of_lt_of_le htl HBr.out.size
                clear htc hx htF htl
                have HLXr := Lib.hid (HLX9.out.ev HEVr.out)
                have hcbr := (HEVr.out.blk HCB9.out.1 HCB9.out.2).1
                have hr0 : wr.cell? ⟨cb, 0, none⟩ = some (.int .i64 kind) := by simp [World.cell?, hcbr]
                have hr1 : wr.cell? ⟨cb, 1, none⟩ = some (.int .i64 cid) := by simp [World.cell?, hcbr]
                have hr2 : wr.cell? ⟨cb, 2, none⟩ = some (.slice la ln lc) := by simp [World.cell?, hcbr]
                have hr3 : wr.cell? ⟨cb, 3, none⟩ = some (.bool false) := by simp [World.cell?, hcbr]
                have HF7lt : Hid (∀ i, F7 i → i < wr.heap.size) := by
                  have h : ∀ i, F7 i → i < wr.heap.size := fun i hi => Nat.lt_of_lt_of_le (HST9.out.lt i hi) HEVr.out.only.size
                  exact h
                clear hcbr
                by_cases hxw : x ∈ markedL G B
                · have HQW : Hid (decide (x ∈ markedL G B) = true) := by
                    have h : decide (x ∈ markedL G B) = true := by simpa using hxw
                    exact h
                  clear hxw
                  go_wp2_with fail
                  go_quiet ((go_at_call 21; exact Calls.quiet_of_same ((in_is true (HWASr.out.ev (Ev.drewN _ _ _)) x HQW.out).mono fun _ _ h => ⟨h.1, h.2.symm⟩)))
                  go_wp2_with fail
                  go_roundw
                  case rel => exact ⟨p + 1, by omega, by go_num, by exact (below_drewN HBr.out _)⟩
                  case measure => simp [intOf]; omega
                · have HQW : Hid (decide (x ∈ markedL G B) = false) := by
                    have h : decide (x ∈ markedL G B) = false := by simpa using hxw
                    exact h
                  have HQI : Hid (decide (x ∈ ids) = true) := by
                    have h : decide (x ∈ ids) = true := by simpa using ((HMEM.out x).1 HXM.out).resolve_left hxw
                    exact h
                  clear hxw
                  have HIN1 : Hid (∀ d, Calls Try.prog 21 #[.slice wa wn wc, .int .i64 x] (wr.drewN d) fun e w' => e = .returned (.bool false) ∧ wr.drewN d = w') := by
                    have h : ∀ d, Calls Try.prog 21 #[.slice wa wn wc, .int .i64 x] (wr.drewN d) fun e w' => e = .returned (.bool false) ∧ wr.drewN d = w' := fun d => in_is false (HWASr.out.ev (Ev.drewN _ _ d)) x HQW.out
                    exact h
                  have HLIST : Hid (∀ d, Calls Try.prog 7 #[.agg #[.int .i64 kind, .int .i64 cid, .slice la ln lc, .bool false], .int .i64 12] (wr.drewN d) fun e w' => ∃ a n c, e = .returned (.slice a n c) ∧ Dat F7 w' (.slice a n c) ids ∧ Below wr.heap.size wr w') := by
                    have h : ∀ d, Calls Try.prog 7 #[.agg #[.int .i64 kind, .int .i64 cid, .slice la ln lc, .bool false], .int .i64 12] (wr.drewN d) fun e w' => ∃ a n c, e = .returned (.slice a n c) ∧ Dat F7 w' (.slice a n c) ids ∧ Below wr.heap.size wr w' := fun d =>
                      (list_ev (w := wr.drewN d) (HLXr.out.ev (Ev.drewN _ _ d)) HL64.out kind cid false 12 (by omega) (by omega) HF7lt.out).mono fun e w' ⟨a, n, c, h1, h2, h3⟩ => ⟨a, n, c, h1, by rw [HIDS.out]; exact h2, ⟨h3.os, h3.tape, h3.output, h3.size, h3.block⟩⟩
                    exact h
                  go_wp2_with fail
                  go_region_with (first
                    | (go_at_call_of 21 (Value.slice wa wn wc); refine (HIN1.out _).mono ?_; rintro e w' ⟨rfl, rfl⟩)
                    | (go_at_call 7; refine (HLIST.out _).mono ?_; rintro e w10 ⟨a10, n10, c10, rfl, hi10, hb10⟩; have hcx10 : w10.cell? ⟨tb, toff + p, none⟩ = some (.int .i64 x) := (hb10.cell (p := ⟨tb, toff + p, none⟩) htlr).trans hcx; have HI10 := Lib.hid hi10; have HB10 := Lib.hid hb10; clear hi10 hb10)
                    | (go_at_call 21; refine (in_is true HI10.out x HQI.out).mono ?_; rintro e w' ⟨rfl, rfl⟩))
                  all_goals
                    go_wp2_with fail
                    exact ⟨⟨p + 1, by omega, by go_num, by exact (HBr.out.trans (HB10.out.mono HBr.out.size))⟩, by simp [intOf]; omega⟩
              · go_wp2_with fail
                go_roundw
                case rel => exact ⟨k + 1, F7, G1, B1, by omega, by omega, by go_num, by { have h : Inv w wr bm F7 G1 B1 (.slice a5 n5 c5) := ⟨HFIN.out.st.later HBr.out, HFIN.out.above, HFIN.out.black.ev HEVr.out, HEVr.out.below HFIN.out.bel HFIN.out.above⟩; exact h }⟩
                case measure => simp [intOf]; omega
      · have HNG := Lib.hid hg
        by_cases hgb : 1 + pid ∈ B
        · have HQ : Hid (decide (1 + pid ∈ markedL G B) = true) := by
            have h : decide (1 + pid ∈ markedL G B) = true := by simp only [decide_eq_true_eq]; exact (mem_markedL _ _ _).2 (.inr hgb)
            exact h
          have HQ2 : Hid (decide (1 + pid ∈ B) = true) := by
            have h : decide (1 + pid ∈ B) = true := by simp only [decide_eq_true_eq]; exact hgb
            exact h
          clear hg hgb
          go_wp2_with fail
          refine (in_is true HWAS2.out (1 + pid) HQ.out).mono ?_
          rintro e w' ⟨rfl, rfl⟩
          go_wp2_with fail
          refine (in_is true HBK2.out (1 + pid) HQ2.out).mono ?_
          rintro e w' ⟨rfl, rfl⟩
          go_wp2_with fail
          refine (list_ev (w := w2) HLX2.out HL64.out kind cid false 12 (by omega) (by omega) (fun i hi => by have := HFLT.out i hi; omega)).mono ?_
          rintro e w3 ⟨a3, n3, c3, rfl, hi3, hb3⟩
          rw [show (12 : Int).toNat = 12 from rfl, ← HIDS.out] at hi3
          have HI3 := Lib.hid hi3
          have HB3 := Lib.hid hb3
          have hs3 := hb3.size
          clear hi3 hb3
          go_wp2_with fail
          refine (scan_white bm F G B (1 + pid) _ w3 (HST2.out.later HB3.out) HNG.out).mono ?_
          rintro e w' ⟨rfl, rfl⟩
          obtain ⟨w5, hw5⟩ : ∃ w5, w5 = w3 := ⟨_, rfl⟩
          obtain ⟨F4, hF4⟩ : ∃ F4, F4 = F := ⟨_, rfl⟩
          obtain ⟨G1, hG1⟩ : ∃ G1, G1 = G := ⟨_, rfl⟩
          obtain ⟨B1, hB1⟩ : ∃ B1, B1 = B := ⟨_, rfl⟩
          have HST5 : Hid (MarkSt w5 bm F4 G1 B1) := by rw [hw5, hF4, hG1, hB1]; exact HST2.out.later HB3.out
          have EV25 : Hid (Ev F w2 F4 w5) := by rw [hw5, hF4]; exact Ev.of_below HB3.out
          have EV5 : Hid (Ev F wo F4 w5) := EV2.out.trans EV25.out
          have HBK5 : Hid (Dat F4 w5 u8 B1) := by rw [hB1]; exact HBK2.out.ev EV25.out
          have HF1 : Hid (Rise G1 ∧ Rise B1 ∧ (∀ x, x ∈ G1 → x ∉ B1) ∧ (∀ x, x ∈ G1 ∨ x ∈ B1 → 1 ≤ x ∧ x ≤ 100000)) := HST5.out.facts
          have HMONO : Hid (∀ x, x ∈ markedL G B → x ∈ markedL G1 B1) := by
            rw [hG1, hB1]
            have h : ∀ x, x ∈ markedL G B → x ∈ markedL G B := fun _ h => h
            exact h
          have HBACK : Hid (∀ x, x ∈ markedL G1 B1 → x ∈ markedL G B) := by
            rw [hG1, hB1]
            have h : ∀ x, x ∈ markedL G B → x ∈ markedL G B := fun _ h => h
            exact h
          rw [← hw5]
          clear hw5 hF4 hG1 hB1
          have HSG1 : Hid (seeG G1 B1 (markedL G1 B1) = G1) := by
            have h : seeG G1 B1 (markedL G1 B1) = G1 := seeG_same HF1.out.1 fun x hx => (mem_markedL x G1 B1).1 hx
            exact h
          go_wp2_with fail
          -- now := m.Marked()
          refine (marked_ev HST5.out).mono ?_
          rintro e w6 ⟨na, nn, nc, rfl, hnow, hb6⟩
          have EV6 := Lib.hid (EV5.out.trans (Ev.of_below hb6))
          have HST6 := Lib.hid (HST5.out.later hb6)
          have HNOW6 := Lib.hid hnow
          have HEV56 : Hid (Ev F4 w5 F4 w6) := Ev.of_below hb6
          clear hnow hb6
          go_wp2_with fail
          refine (wrote_ev HST6.out HNOW6.out (right_markedL HF1.out.2.2.2)).mono ?_
          rintro e w7 ⟨rfl, F7, hst7, hev7⟩
          rw [HSG1.out] at hst7
          have HST7 := Lib.hid hst7
          have HEV7 := Lib.hid (HEV56.out.trans hev7)
          have HNOW7 := Lib.hid (HNOW6.out.ev hev7)
          clear hst7 hev7
          go_wp2_with fail
          refine (marked_ev HST7.out).mono ?_
          rintro e w8 ⟨aa, an, ac, rfl, hag, hb8⟩
          have HAG8 := Lib.hid hag
          have HEV8 := Lib.hid (HEV7.out.trans (Ev.of_below hb8))
          have HST8 := Lib.hid (HST7.out.later hb8)
          have HNOW8 := Lib.hid (HNOW7.out.below hb8)
          clear hag hb8
          go_wp2_with fail
          refine (nums_is true HNOW8.out HAG8.out (by simp [numsL])).mono ?_
          rintro e w' ⟨rfl, d1, rfl⟩
          obtain ⟨eb, heb⟩ : ∃ eb, G1.isEmpty = eb := ⟨_, rfl⟩
          have HEB := Lib.hid heb
          clear heb
          have hneb : ∀ W : World, (binOp .neq 4 (.bool eb) (.bool eb)).run Try.prog W = .ok (.bool false) W := fun W => neq_self eb W
          go_wp2_with fail
          refine (done_is eb (HST8.out.drewN d1) HEB.out).mono ?_
          rintro e w' ⟨rfl, rfl⟩
          go_wp2_with fail
          refine (nums_is (w := w8.drewN d1) eb ((HBK5.out.ev HEV8.out).ev (Ev.drewN _ _ d1)) (HNOW8.out.ev (Ev.drewN _ _ d1)) (by rw [← HEB.out]; exact nums_black HF1.out.2.1 HF1.out.2.2.1)).mono ?_
          rintro e w' ⟨rfl, d2, rfl⟩
          obtain ⟨w9, hw9⟩ : ∃ w9, w9 = w8.drewN (d1 + d2) := ⟨_, rfl⟩
          have HEV9 : Hid (Ev F wo F7 w9) := by rw [hw9]; exact (EV5.out.trans HEV8.out).trans (Ev.drewN _ _ _)
          have HST9 : Hid (MarkSt w9 bm F7 G1 B1) := by rw [hw9]; exact HST8.out.drewN _
          have HNOW9 : Hid (Dat F7 w9 (.slice na nn nc) (markedL G1 B1)) := by rw [hw9]; exact HNOW8.out.ev (Ev.drewN _ _ _)
          have HBK9 : Hid (Dat F7 w9 (u8) B1) := by rw [hw9]; exact (HBK5.out.ev HEV8.out).ev (Ev.drewN _ _ _)
          have EV29 : Hid (Ev F w2 F7 w9) := by rw [hw9]; exact (EV25.out.trans HEV8.out).trans (Ev.drewN _ _ _)
          have HWAS9 : Hid (Dat F7 w9 (.slice wa wn wc) (markedL G B)) := HWAS2.out.ev EV29.out
          have HLX9 : Hid (Dat F7 w9 (.slice la ln lc) xs) := HLX2.out.ev EV29.out
          have HCB9 : Hid (w9.heap[cb]? = some (.cells #[.int .i64 kind, .int .i64 cid, .slice la ln lc, .bool false] 24 (0, 0)) ∧ ¬ F7 cb) := EV29.out.blk HCB2.out.1 HCB2.out.2
          obtain ⟨_, _, hwe, _, _, hwc⟩ := HWAS9.out.open_
          simp only [Value.slice.injEq] at hwe
          obtain ⟨rfl, hwn, rfl⟩ := hwe
          have HWN := Lib.hid hwn
          have HWC := Lib.hid hwc
          obtain ⟨_, _, hne, hncap, hnmax, hnc⟩ := HNOW9.out.open_
          simp only [Value.slice.injEq] at hne
          obtain ⟨rfl, hnn, rfl⟩ := hne
          have HNN := Lib.hid hnn
          have HNC := Lib.hid hnc
          have hwl : wn ≤ 1000000000 := by
            rw [hwn]; exact rise_short (rise_markedL G B HSB.out) fun x hx => HRNG.out x ((mem_markedL x G B).1 hx)
          have hnl : nn ≤ 1000000000 := by
            rw [hnn]; exact rise_short (rise_markedL G1 B1 HF1.out.2.1) fun x hx => HF1.out.2.2.2 x ((mem_markedL x G1 B1).1 hx)
          have HFIN : Hid (Inv w w9 bm F7 G1 B1 (u8)) := by
            have h : Inv w w9 bm F7 G1 B1 (u8) := ⟨HST9.out, HEV9.out.above HINV.out.bel HINV.out.above, HBK9.out, HEV9.out.below HINV.out.bel HINV.out.above⟩
            exact h
          have HW9 := Lib.hid hw9
          clear hwn hwc hnn hnc hncap hnmax hw9
          go_wp2_with fail
          rw [← HW9.out]
          clear HW9 HNOW6 HNOW7 HNOW8 HAG8 HEV7 HEV8 HEV56 HST5 HST6 HST7 HST8 EV5 EV6 HBK5 EV25
          -- what was marked is marked now
          go_loopw [18, 19] (fun iv _ wr => ∃ q : Nat, q ≤ wn ∧ iv = .int .i64 q ∧ Hid (w9 = wr)) (fun iv _ _ => wn - (intOf iv).toNat)
          case atStart => exact ⟨0, Nat.zero_le _, rfl, by exact (rfl : w9 = w9)⟩
          case round =>
            obtain ⟨q, hq, rfl, HWQ⟩ := hrel
            obtain rfl := HWQ.out
            by_cases hlt : q < wn
            · obtain ⟨sb, soff, rfl, _, _, hsc⟩ := HWC.out (by rw [← HWN.out]; omega)
              obtain ⟨x, hx⟩ : ∃ x, (markedL G B)[q]? = some x := ⟨_, List.getElem?_eq_getElem (by rw [← HWN.out]; exact hlt)⟩
              have hcx := hsc q x hx
              have HIN : Hid (decide (x ∈ markedL G1 B1) = true) := by
                have h : decide (x ∈ markedL G1 B1) = true := by
                  simp only [decide_eq_true_eq]
                  exact HMONO.out x (List.mem_of_getElem? hx)
                exact h
              clear hsc hx
              go_wp2_with fail
              refine (in_is true HNOW9.out x HIN.out).mono ?_
              rintro e w' ⟨rfl, rfl⟩
              go_wp2_with fail
              go_roundw
              case rel => exact ⟨q + 1, by omega, by go_num, by first | exact (rfl : w9 = w9) | exact trivial⟩
              case measure => simp [intOf]; omega
            · go_wp2_with fail
              -- what is marked now was marked, or is one of the list
              go_loopw [20, 21] (fun iv _ wr => ∃ q : Nat, q ≤ nn ∧ iv = .int .i64 q ∧ Hid (Below w9.heap.size w9 wr)) (fun iv _ _ => nn - (intOf iv).toNat)
              case atStart => exact ⟨0, Nat.zero_le _, rfl, by exact (Below.refl _ w9)⟩
              case round =>
                obtain ⟨p, hp, rfl, HBr⟩ := hrel
                have HEVr : Hid (Ev F7 w9 F7 wr) := Ev.of_below HBr.out
                by_cases hlt2 : p < nn
                · obtain ⟨tb, toff, rfl, htF, htl, htc⟩ := HNC.out (by rw [← HNN.out]; omega)
                  obtain ⟨x, hx⟩ : ∃ x, (markedL G1 B1)[p]? = some x := ⟨_, List.getElem?_eq_getElem (by rw [← HNN.out]; exact hlt2)⟩
                  have hcx : wr.cell? ⟨tb, toff + p, none⟩ = some (.int .i64 x) := (HEVr.out.only.cell (p := ⟨tb, toff + p, none⟩) htl htF).trans (htc p x hx)
                  have hpn : (p : Int) < nn := by omega
                  have HWASr := Lib.hid (HWAS9.out.ev HEVr.out)
                  have HXM := Lib.hid (List.mem_of_getElem? hx)
                  have htlr : tb < wr.heap.size := Nat.lt_of_lt_of_le htl HBr.out.size
                  clear htc hx htF htl
                  have HQW : Hid (decide (x ∈ markedL G B) = true) := by
                    have h : decide (x ∈ markedL G B) = true := by simp only [decide_eq_true_eq]; exact HBACK.out x HXM.out
                    exact h
                  go_wp2_with fail
                  go_quiet ((go_at_call 21; exact Calls.quiet_of_same ((in_is true (HWASr.out.ev (Ev.drewN _ _ _)) x HQW.out).mono fun _ _ h => ⟨h.1, h.2.symm⟩)))
                  go_wp2_with fail
                  go_roundw
                  case rel => exact ⟨p + 1, by omega, by go_num, by exact (below_drewN HBr.out _)⟩
                  case measure => simp [intOf]; omega
                · go_wp2_with fail
                  go_roundw
                  case rel => exact ⟨k + 1, F7, G1, B1, by omega, by omega, by go_num, by { have h : Inv w wr bm F7 G1 B1 (u8) := ⟨HFIN.out.st.later HBr.out, HFIN.out.above, HFIN.out.black.ev HEVr.out, HEVr.out.below HFIN.out.bel HFIN.out.above⟩; exact h }⟩
                  case measure => simp [intOf]; omega
        · have HQ : Hid (decide (1 + pid ∈ markedL G B) = false) := by
            have h : decide (1 + pid ∈ markedL G B) = false := by
              simp only [decide_eq_false_iff_not]; exact fun h => ((mem_markedL _ _ _).1 h).elim hg hgb
            exact h
          clear hg hgb
          go_wp2_with fail
          refine (in_is false HWAS2.out (1 + pid) HQ.out).mono ?_
          rintro e w' ⟨rfl, rfl⟩
          go_wp2_with fail
          refine (list_ev (w := w2) HLX2.out HL64.out kind cid false 12 (by omega) (by omega) (fun i hi => by have := HFLT.out i hi; omega)).mono ?_
          rintro e w3 ⟨a3, n3, c3, rfl, hi3, hb3⟩
          rw [show (12 : Int).toNat = 12 from rfl, ← HIDS.out] at hi3
          have HI3 := Lib.hid hi3
          have HB3 := Lib.hid hb3
          have hs3 := hb3.size
          clear hi3 hb3
          go_wp2_with fail
          refine (scan_white bm F G B (1 + pid) _ w3 (HST2.out.later HB3.out) HNG.out).mono ?_
          rintro e w' ⟨rfl, rfl⟩
          obtain ⟨w5, hw5⟩ : ∃ w5, w5 = w3 := ⟨_, rfl⟩
          obtain ⟨F4, hF4⟩ : ∃ F4, F4 = F := ⟨_, rfl⟩
          obtain ⟨G1, hG1⟩ : ∃ G1, G1 = G := ⟨_, rfl⟩
          obtain ⟨B1, hB1⟩ : ∃ B1, B1 = B := ⟨_, rfl⟩
          have HST5 : Hid (MarkSt w5 bm F4 G1 B1) := by rw [hw5, hF4, hG1, hB1]; exact HST2.out.later HB3.out
          have EV25 : Hid (Ev F w2 F4 w5) := by rw [hw5, hF4]; exact Ev.of_below HB3.out
          have EV5 : Hid (Ev F wo F4 w5) := EV2.out.trans EV25.out
          have HBK5 : Hid (Dat F4 w5 u8 B1) := by rw [hB1]; exact HBK2.out.ev EV25.out
          have HF1 : Hid (Rise G1 ∧ Rise B1 ∧ (∀ x, x ∈ G1 → x ∉ B1) ∧ (∀ x, x ∈ G1 ∨ x ∈ B1 → 1 ≤ x ∧ x ≤ 100000)) := HST5.out.facts
          have HMONO : Hid (∀ x, x ∈ markedL G B → x ∈ markedL G1 B1) := by
            rw [hG1, hB1]
            have h : ∀ x, x ∈ markedL G B → x ∈ markedL G B := fun _ h => h
            exact h
          have HBACK : Hid (∀ x, x ∈ markedL G1 B1 → x ∈ markedL G B) := by
            rw [hG1, hB1]
            have h : ∀ x, x ∈ markedL G B → x ∈ markedL G B := fun _ h => h
            exact h
          rw [← hw5]
          clear hw5 hF4 hG1 hB1
          have HSG1 : Hid (seeG G1 B1 (markedL G1 B1) = G1) := by
            have h : seeG G1 B1 (markedL G1 B1) = G1 := seeG_same HF1.out.1 fun x hx => (mem_markedL x G1 B1).1 hx
            exact h
          go_wp2_with fail
          -- now := m.Marked()
          refine (marked_ev HST5.out).mono ?_
          rintro e w6 ⟨na, nn, nc, rfl, hnow, hb6⟩
          have EV6 := Lib.hid (EV5.out.trans (Ev.of_below hb6))
          have HST6 := Lib.hid (HST5.out.later hb6)
          have HNOW6 := Lib.hid hnow
          have HEV56 : Hid (Ev F4 w5 F4 w6) := Ev.of_below hb6
          clear hnow hb6
          go_wp2_with fail
          refine (wrote_ev HST6.out HNOW6.out (right_markedL HF1.out.2.2.2)).mono ?_
          rintro e w7 ⟨rfl, F7, hst7, hev7⟩
          rw [HSG1.out] at hst7
          have HST7 := Lib.hid hst7
          have HEV7 := Lib.hid (HEV56.out.trans hev7)
          have HNOW7 := Lib.hid (HNOW6.out.ev hev7)
          clear hst7 hev7
          go_wp2_with fail
          refine (marked_ev HST7.out).mono ?_
          rintro e w8 ⟨aa, an, ac, rfl, hag, hb8⟩
          have HAG8 := Lib.hid hag
          have HEV8 := Lib.hid (HEV7.out.trans (Ev.of_below hb8))
          have HST8 := Lib.hid (HST7.out.later hb8)
          have HNOW8 := Lib.hid (HNOW7.out.below hb8)
          clear hag hb8
          go_wp2_with fail
          refine (nums_is true HNOW8.out HAG8.out (by simp [numsL])).mono ?_
          rintro e w' ⟨rfl, d1, rfl⟩
          obtain ⟨eb, heb⟩ : ∃ eb, G1.isEmpty = eb := ⟨_, rfl⟩
          have HEB := Lib.hid heb
          clear heb
          have hneb : ∀ W : World, (binOp .neq 4 (.bool eb) (.bool eb)).run Try.prog W = .ok (.bool false) W := fun W => neq_self eb W
          go_wp2_with fail
          refine (done_is eb (HST8.out.drewN d1) HEB.out).mono ?_
          rintro e w' ⟨rfl, rfl⟩
          go_wp2_with fail
          refine (nums_is (w := w8.drewN d1) eb ((HBK5.out.ev HEV8.out).ev (Ev.drewN _ _ d1)) (HNOW8.out.ev (Ev.drewN _ _ d1)) (by rw [← HEB.out]; exact nums_black HF1.out.2.1 HF1.out.2.2.1)).mono ?_
          rintro e w' ⟨rfl, d2, rfl⟩
          obtain ⟨w9, hw9⟩ : ∃ w9, w9 = w8.drewN (d1 + d2) := ⟨_, rfl⟩
          have HEV9 : Hid (Ev F wo F7 w9) := by rw [hw9]; exact (EV5.out.trans HEV8.out).trans (Ev.drewN _ _ _)
          have HST9 : Hid (MarkSt w9 bm F7 G1 B1) := by rw [hw9]; exact HST8.out.drewN _
          have HNOW9 : Hid (Dat F7 w9 (.slice na nn nc) (markedL G1 B1)) := by rw [hw9]; exact HNOW8.out.ev (Ev.drewN _ _ _)
          have HBK9 : Hid (Dat F7 w9 (u8) B1) := by rw [hw9]; exact (HBK5.out.ev HEV8.out).ev (Ev.drewN _ _ _)
          have EV29 : Hid (Ev F w2 F7 w9) := by rw [hw9]; exact (EV25.out.trans HEV8.out).trans (Ev.drewN _ _ _)
          have HWAS9 : Hid (Dat F7 w9 (.slice wa wn wc) (markedL G B)) := HWAS2.out.ev EV29.out
          have HLX9 : Hid (Dat F7 w9 (.slice la ln lc) xs) := HLX2.out.ev EV29.out
          have HCB9 : Hid (w9.heap[cb]? = some (.cells #[.int .i64 kind, .int .i64 cid, .slice la ln lc, .bool false] 24 (0, 0)) ∧ ¬ F7 cb) := EV29.out.blk HCB2.out.1 HCB2.out.2
          obtain ⟨_, _, hwe, _, _, hwc⟩ := HWAS9.out.open_
          simp only [Value.slice.injEq] at hwe
          obtain ⟨rfl, hwn, rfl⟩ := hwe
          have HWN := Lib.hid hwn
          have HWC := Lib.hid hwc
          obtain ⟨_, _, hne, hncap, hnmax, hnc⟩ := HNOW9.out.open_
          simp only [Value.slice.injEq] at hne
          obtain ⟨rfl, hnn, rfl⟩ := hne
          have HNN := Lib.hid hnn
          have HNC := Lib.hid hnc
          have hwl : wn ≤ 1000000000 := by
            rw [hwn]; exact rise_short (rise_markedL G B HSB.out) fun x hx => HRNG.out x ((mem_markedL x G B).1 hx)
          have hnl : nn ≤ 1000000000 := by
            rw [hnn]; exact rise_short (rise_markedL G1 B1 HF1.out.2.1) fun x hx => HF1.out.2.2.2 x ((mem_markedL x G1 B1).1 hx)
          have HFIN : Hid (Inv w w9 bm F7 G1 B1 (u8)) := by
            have h : Inv w w9 bm F7 G1 B1 (u8) := ⟨HST9.out, HEV9.out.above HINV.out.bel HINV.out.above, HBK9.out, HEV9.out.below HINV.out.bel HINV.out.above⟩
            exact h
          have HW9 := Lib.hid hw9
          clear hwn hwc hnn hnc hncap hnmax hw9
          go_wp2_with fail
          rw [← HW9.out]
          clear HW9 HNOW6 HNOW7 HNOW8 HAG8 HEV7 HEV8 HEV56 HST5 HST6 HST7 HST8 EV5 EV6 HBK5 EV25
          -- what was marked is marked now
          go_loopw [18, 19] (fun iv _ wr => ∃ q : Nat, q ≤ wn ∧ iv = .int .i64 q ∧ Hid (w9 = wr)) (fun iv _ _ => wn - (intOf iv).toNat)
          case atStart => exact ⟨0, Nat.zero_le _, rfl, by exact (rfl : w9 = w9)⟩
          case round =>
            obtain ⟨q, hq, rfl, HWQ⟩ := hrel
            obtain rfl := HWQ.out
            by_cases hlt : q < wn
            · obtain ⟨sb, soff, rfl, _, _, hsc⟩ := HWC.out (by rw [← HWN.out]; omega)
              obtain ⟨x, hx⟩ : ∃ x, (markedL G B)[q]? = some x := ⟨_, List.getElem?_eq_getElem (by rw [← HWN.out]; exact hlt)⟩
              have hcx := hsc q x hx
              have HIN : Hid (decide (x ∈ markedL G1 B1) = true) := by
                have h : decide (x ∈ markedL G1 B1) = true := by
                  simp only [decide_eq_true_eq]
                  exact HMONO.out x (List.mem_of_getElem? hx)
                exact h
              clear hsc hx
              go_wp2_with fail
              refine (in_is true HNOW9.out x HIN.out).mono ?_
              rintro e w' ⟨rfl, rfl⟩
              go_wp2_with fail
              go_roundw
              case rel => exact ⟨q + 1, by omega, by go_num, by first | exact (rfl : w9 = w9) | exact trivial⟩
              case measure => simp [intOf]; omega
            · go_wp2_with fail
              -- what is marked now was marked, or is one of the list
              go_loopw [20, 21] (fun iv _ wr => ∃ q : Nat, q ≤ nn ∧ iv = .int .i64 q ∧ Hid (Below w9.heap.size w9 wr)) (fun iv _ _ => nn - (intOf iv).toNat)
              case atStart => exact ⟨0, Nat.zero_le _, rfl, by exact (Below.refl _ w9)⟩
              case round =>
                obtain ⟨p, hp, rfl, HBr⟩ := hrel
                have HEVr : Hid (Ev F7 w9 F7 wr) := Ev.of_below HBr.out
                by_cases hlt2 : p < nn
                · obtain ⟨tb, toff, rfl, htF, htl, htc⟩ := HNC.out (by rw [← HNN.out]; omega)
                  obtain ⟨x, hx⟩ : ∃ x, (markedL G1 B1)[p]? = some x := ⟨_, List.getElem?_eq_getElem (by rw [← HNN.out]; exact hlt2)⟩
                  have hcx : wr.cell? ⟨tb, toff + p, none⟩ = some (.int .i64 x) := (HEVr.out.only.cell (p := ⟨tb, toff + p, none⟩) htl htF).trans (htc p x hx)
                  have hpn : (p : Int) < nn := by omega
                  have HWASr := Lib.hid (HWAS9.out.ev HEVr.out)
                  have HXM := Lib.hid (List.mem_of_getElem? hx)
                  have htlr : tb < wr.heap.size := Nat.lt_of_lt_of_le htl HBr.out.size
                  clear htc hx htF htl
                  have HQW : Hid (decide (x ∈ markedL G B) = true) := by
                    have h : decide (x ∈ markedL G B) = true := by simp only [decide_eq_true_eq]; exact HBACK.out x HXM.out
                    exact h
                  go_wp2_with fail
                  go_quiet ((go_at_call 21; exact Calls.quiet_of_same ((in_is true (HWASr.out.ev (Ev.drewN _ _ _)) x HQW.out).mono fun _ _ h => ⟨h.1, h.2.symm⟩)))
                  go_wp2_with fail
                  go_roundw
                  case rel => exact ⟨p + 1, by omega, by go_num, by exact (below_drewN HBr.out _)⟩
                  case measure => simp [intOf]; omega
                · go_wp2_with fail
                  go_roundw
                  case rel => exact ⟨k + 1, F7, G1, B1, by omega, by omega, by go_num, by { have h : Inv w wr bm F7 G1 B1 (u8) := ⟨HFIN.out.st.later HBr.out, HFIN.out.above, HFIN.out.black.ev HEVr.out, HEVr.out.below HFIN.out.bel HFIN.out.above⟩; exact h }⟩
                  case measure => simp [intOf]; omega
    · go_wp2_with fail
      all_goals
        go_ret
        exact ⟨rfl, HINV.out.bel⟩
end Go.Proofs.Ythceiokibionkaa
