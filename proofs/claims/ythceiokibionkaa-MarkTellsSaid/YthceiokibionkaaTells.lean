/- MarkTells: whatever the input, it returns true, and nothing that was there has turned. -/
import Derived.Test.YthceiokibionkaaDuo
import Derived.Test.YthceiokibionkaaStays
import Derived.Deep.RegionWith
import Derived.Deep.RegionHeld3
import Derived.Deep.DeepCutAuto
import Derived.Deep.CutBlock
import Derived.Deep.LoopGhost
namespace Go.Proofs.Ythceiokibionkaa
open Go.RowKit

structure InvT (w wr : World) (bm rm : Nat) (M : Nat → Prop) (G B : List Int) : Prop where
  duo : Duo wr bm rm M G B G B
  above : ∀ i, M i → w.heap.size ≤ i
  bel : Below w.heap.size w wr

def BoolCut (w1 : World) (b : Bool) (s88 : Value) (wc : World) : Prop := s88 = .bool b ∧ w1 = wc
def IntCut (w1 : World) (s13 : Value) (wc : World) : Prop := (∃ id : Int, s13 = .int .i64 id) ∧ w1 = wc
def TellsCut (w : World) (bm rm : Nat) (s12 : Value) (wc : World) : Prop := s12 = .bool true ∧ ∃ M G B, InvT w wc bm rm M G B
theorem InvT.ev {w wr w' : World} {bm rm : Nat} {M M' : Nat → Prop} {G B G' B' : List Int} (h : InvT w wr bm rm M G B) (k : Ev M wr M' w') (hd : Duo w' bm rm M' G' B' G' B') : InvT w w' bm rm M' G' B' :=
  ⟨hd, k.above h.bel h.above, k.below h.bel h.above⟩
/-- the cells of a block of four -/
theorem four {W : World} {g : Nat} {c0 c1 c2 c3 : Value} {t : TypeId} (h : W.heap[g]? = some (.cells #[c0, c1, c2, c3] t (0, 0))) :
    W.cell? ⟨g, 0, none⟩ = some c0 ∧ W.cell? ⟨g, 1, none⟩ = some c1 ∧ W.cell? ⟨g, 2, none⟩ = some c2 ∧ W.cell? ⟨g, 3, none⟩ = some c3 := by
  simp [World.cell?, h]

set_option maxRecDepth 100000 in
set_option maxHeartbeats 8000000 in
theorem tells_any (w : World) (rk rid : Int) (rv lv : Value) (ro : Bool) (rs : List Int) (cs : List CallD) (hf : IntsR (fun i => i < w.heap.size) w rv rs) (hfx : I64 rs) (hl : CallsR w w.heap.size lv cs) :
    Calls Try.prog 3 #[.agg #[.int .i64 rk, .int .i64 rid, rv, .bool ro], lv] w fun e w' => e = .returned (.bool true) ∧ Below w.heap.size w w' := by
  obtain ⟨a, cap, rfl, hcap, hc⟩ := hl
  have HC := Lib.hid hc; clear hc
  obtain ⟨fa, fcap, rfl, _⟩ := hf.open_
  have HF := Lib.hid hf
  generalize hfn : rs.length = fn at *
  clear hfn
  have HFX := Lib.hid hfx
  clear hf hfx
  generalize hn : cs.length = n at *
  have HN := Lib.hid hn; clear hn
  obtain ⟨w0, hw0⟩ : ∃ w0, w0 = w.alloc (.cells #[.int .i64 rk, .int .i64 rid, .slice fa fn fcap, .bool ro] 24) := ⟨_, rfl⟩
  have hb0 : Below w.heap.size w w0 := by rw [hw0]; exact (Below.refl _ _).alloc (Nat.le_refl _) _
  have hbox : w0.heap[w.heap.size]? = some (.cells #[.int .i64 rk, .int .i64 rid, .slice fa fn fcap, .bool ro] 24 (0, 0)) := by rw [hw0]; exact heap_alloc_new w _
  have HBOX := Lib.hid hbox
  have hsz0 : w0.heap.size = w.heap.size + 1 := by rw [hw0]; simp
  have HB0 := Lib.hid hb0
  have HW0 := Lib.hid hw0
  clear hb0 hbox hw0
  go_enter Try.func3, Try.ntmps3
  go_wp2_with fail
  rw [← HW0.out]
  refine (awake_any _).mono ?_
  rintro e w1 ⟨rfl, hb1⟩
  have hs1 := hb1.size
  have hcell : ∀ W, Below w0.heap.size w0 W → W.heap[w.heap.size]? = some (.cells #[.int .i64 rk, .int .i64 rid, .slice fa fn fcap, .bool ro] 24 (0, 0)) := fun W hW => (hW.block w.heap.size (by omega)).trans HBOX.out
  have HCELL := Lib.hid hcell
  have hx1 := hcell w1 hb1
  have hc0 : w1.cell? ⟨w.heap.size, 0, none⟩ = some (.int .i64 rk) := by simp [World.cell?, hx1]
  have hc1 : w1.cell? ⟨w.heap.size, 1, none⟩ = some (.int .i64 rid) := by simp [World.cell?, hx1]
  have hc2 : w1.cell? ⟨w.heap.size, 2, none⟩ = some (.slice fa fn fcap) := by simp [World.cell?, hx1]
  have hc3 : w1.cell? ⟨w.heap.size, 3, none⟩ = some (.bool ro) := by simp [World.cell?, hx1]
  have HB1 := Lib.hid hb1
  clear hb1 hx1 hcell
  go_wp2_with fail
  -- m
  refine (list_ev (F := fun _ => False) (w := w1) (IntsR.mono ((HF.out.below HB0.out).below HB1.out) fun i _ _ h => h) HFX.out rk rid ro 12 (by omega) (by omega) (fun i hi => hi.elim)).mono ?_
  rintro e w2 ⟨a2, n2, c2, rfl, hi2, hb2⟩
  rw [show (12 : Int).toNat = 12 from rfl] at hi2
  obtain ⟨ids, hids⟩ : ∃ ids, ids = listL rs ro 12 := ⟨_, rfl⟩
  rw [← hids] at hi2
  have HIDS := Lib.hid hids
  have HI2 := Lib.hid hi2
  have HB2 := Lib.hid (below_then HB1.out hb2)
  clear hi2 hb2 hids
  cases hr : rightL ids
  · have HR := Lib.hid hr
    clear hr
    go_wp2_with fail
    refine (new_bad _ ids _ w2 HI2.out HR.out).mono ?_
    rintro e w' ⟨rfl, rfl⟩
    have hx2 := HCELL.out w2 HB2.out
    have hd0 : w2.cell? ⟨w.heap.size, 0, none⟩ = some (.int .i64 rk) := by simp [World.cell?, hx2]
    have hd1 : w2.cell? ⟨w.heap.size, 1, none⟩ = some (.int .i64 rid) := by simp [World.cell?, hx2]
    have hd2 : w2.cell? ⟨w.heap.size, 2, none⟩ = some (.slice fa fn fcap) := by simp [World.cell?, hx2]
    have hd3 : w2.cell? ⟨w.heap.size, 3, none⟩ = some (.bool ro) := by simp [World.cell?, hx2]
    clear hx2
    go_wp2_with fail
    refine (list_ev (F := fun _ => False) (w := w2) (IntsR.mono ((HF.out.below HB0.out).below HB2.out) fun i _ _ h => h) HFX.out rk rid ro 12 (by omega) (by omega) (fun i hi => hi.elim)).mono ?_
    rintro e w3 ⟨a3, n3, c3, rfl, hi3, hb3⟩
    rw [show (12 : Int).toNat = 12 from rfl, ← HIDS.out] at hi3
    have HI3 := Lib.hid hi3
    have HB3 := Lib.hid (below_then HB2.out hb3)
    clear hi3 hb3
    go_wp2_with fail
    refine (rnew_bad _ ids _ w3 HI3.out HR.out).mono ?_
    rintro e w' ⟨rfl, rfl⟩
    go_wp2_with fail
    go_ret
    exact ⟨rfl, below_then HB0.out HB3.out⟩
  · have HR := Lib.hid hr
    clear hr
    go_wp2_with fail
    refine (new_any _ ids _ w2 HI2.out HR.out).mono ?_
    rintro e w3 ⟨bm, F3, rfl, hst3, hb3, hs3⟩
    have HST3 := Lib.hid hst3
    have HB3 := Lib.hid (below_then HB2.out hb3)
    have HS3 := Lib.hid hs3
    have hx2 := HCELL.out w3 HB3.out
    have hd0 : w3.cell? ⟨w.heap.size, 0, none⟩ = some (.int .i64 rk) := by simp [World.cell?, hx2]
    have hd1 : w3.cell? ⟨w.heap.size, 1, none⟩ = some (.int .i64 rid) := by simp [World.cell?, hx2]
    have hd2 : w3.cell? ⟨w.heap.size, 2, none⟩ = some (.slice fa fn fcap) := by simp [World.cell?, hx2]
    have hd3 : w3.cell? ⟨w.heap.size, 3, none⟩ = some (.bool ro) := by simp [World.cell?, hx2]
    clear hx2 hst3 hb3 hs3
    go_wp2_with fail
    refine (list_ev (F := fun _ => False) (w := w3) (IntsR.mono ((HF.out.below HB0.out).below HB3.out) fun i _ _ h => h) HFX.out rk rid ro 12 (by omega) (by omega) (fun i hi => hi.elim)).mono ?_
    rintro e w4 ⟨a4, n4, c4, rfl, hi4, hb4⟩
    rw [show (12 : Int).toNat = 12 from rfl, ← HIDS.out] at hi4
    have HI4 := Lib.hid hi4
    have HB34 := Lib.hid hb4
    have HB4 := Lib.hid (below_then HB3.out hb4)
    clear hi4 hb4
    go_wp2_with fail
    refine (rnew_any _ ids _ w4 HI4.out HR.out).mono ?_
    rintro e w5 ⟨rm, R5, rfl, hst5, hb5, hs5⟩
    have INV0 : Hid (InvT w w5 bm rm (fun i => F3 i ∨ R5 i) (seeG [] [] ids) []) := by
      have hz := HB2.out.size
      have hz3 := HB34.out.size
      have h45 := below_then HB34.out hb5
      have hlt3 := HST3.out.lt
      have h : InvT w w5 bm rm (fun i => F3 i ∨ R5 i) (seeG [] [] ids) [] := by
        refine ⟨⟨F3, R5, HST3.out.later h45, hst5, fun i h1 h2 => ?_, fun i => Iff.rfl⟩, fun i hi => ?_, below_then HB0.out (below_then HB4.out hb5)⟩
        · have := hlt3 i h1; have := hs5 i h2; omega
        · rcases hi with h | h
          · have := HS3.out i h; omega
          · have := hs5 i h; have := HB4.out.size; omega
      exact h
    generalize seeG [] [] ids = G0 at *
    generalize (fun i => F3 i ∨ R5 i) = M0 at *
    clear hst5 hb5 hs5 HI2 HI4 HB2 HB1 HF HFX HB3 HB34 HB4 HST3 HS3 HIDS HR HCELL HBOX HB0 HW0
    go_wp2_with fail
    go_loopg [10] 30 (fun g iv wr => ∃ (k : Nat) (M : Nat → Prop) (G B : List Int), k ≤ n ∧ k ≤ 30 ∧ g = 30 - k ∧ iv = .int .i64 k ∧ Hid (InvT w wr bm rm M G B))
    case atStart => exact ⟨0, M0, G0, [], Nat.zero_le _, Nat.zero_le _, rfl, rfl, INV0⟩
    case round =>
      clear INV0 M0 G0
      obtain ⟨k, M, G, B, hk, hk30, rfl, rfl, HINV⟩ := hrel
      by_cases hgo : k < n ∧ k < 30
      · obtain ⟨hkn, hkl⟩ := hgo
        obtain ⟨b, off, rfl, hbl, hcell⟩ := HC.out (by omega)
        obtain ⟨c, hcx⟩ : ∃ c, cs[k]? = some c := ⟨_, List.getElem?_eq_getElem (by rw [HN.out]; exact hkn)⟩
        obtain ⟨⟨hq0, hq1, hq2, hq3⟩, hlx, hl64, hk64⟩ := hcell k c hcx
        obtain ⟨wo, rfl⟩ : ∃ wo : World, wo = wr := ⟨_, rfl⟩
        have HLX : Hid (Dat M wo c.lv c.xs) := by
          have h : Dat M wo c.lv c.xs := IntsR.mono (hlx.below HINV.out.bel) fun i hi _ h1 => by have := HINV.out.above i h1; have h2 : i < w.heap.size := hi; omega
          exact h
        have HL64 := Lib.hid hl64
        obtain ⟨hid1, hid2⟩ := hk64 c.id (by simp)
        obtain ⟨hkd1, hkd2⟩ := hk64 c.kind (by simp)
        have hc0 := (HINV.out.bel.cell (p := ⟨b, off + k * 4, none⟩) hbl).trans hq0
        have hc1 := (HINV.out.bel.cell (p := ⟨b, off + k * 4 + 1, none⟩) hbl).trans hq1
        have hc2 := (HINV.out.bel.cell (p := ⟨b, off + k * 4 + 2, none⟩) hbl).trans hq2
        have hc3 := (HINV.out.bel.cell (p := ⟨b, off + k * 4 + 3, none⟩) hbl).trans hq3
        clear hcell hcx hlx hl64 hk64 HC hq0 hq1 hq2 hq3
        obtain ⟨la, ln, lc, hlv⟩ := HLX.out.slice
        obtain ⟨kind, hkind⟩ : ∃ x, x = c.kind := ⟨_, rfl⟩
        obtain ⟨cid, hcid⟩ : ∃ x, x = c.id := ⟨_, rfl⟩
        obtain ⟨odd, hodd⟩ : ∃ x, x = c.odd := ⟨_, rfl⟩
        obtain ⟨xs, hxs⟩ : ∃ x, x = c.xs := ⟨_, rfl⟩
        rw [← hkind] at hc0 hkd1 hkd2
        rw [← hcid] at hc1 hid1 hid2
        rw [hlv] at hc2
        rw [← hodd] at hc3
        rw [← hxs, hlv] at HLX
        rw [← hxs] at HL64
        clear hkind hcid hodd hxs hlv
        clear c
        obtain ⟨w1, hw1⟩ : ∃ w1, w1 = wo.alloc (.cells #[.int .i64 kind, .int .i64 cid, .slice la ln lc, .bool odd] 24) := ⟨_, rfl⟩
        obtain ⟨cb, hcb⟩ : ∃ cb, cb = wo.heap.size := ⟨_, rfl⟩
        have hblk1 : w1.heap[cb]? = some (.cells #[.int .i64 kind, .int .i64 cid, .slice la ln lc, .bool odd] 24 (0, 0)) := by rw [hw1, hcb]; exact heap_alloc_new wo _
        have hbw1 : Below wo.heap.size wo w1 := by rw [hw1]; exact (Below.refl _ _).alloc (Nat.le_refl _) _
        have INV1 : Hid (InvT w w1 bm rm M G B) := by
          have h : InvT w w1 bm rm M G B := ⟨HINV.out.duo.later hbw1, HINV.out.above, below_then HINV.out.bel hbw1⟩
          exact h
        have HLX1 := Lib.hid (HLX.out.below hbw1)
        have HCB : Hid (w1.heap[cb]? = some (.cells #[.int .i64 kind, .int .i64 cid, .slice la ln lc, .bool odd] 24 (0, 0)) ∧ ¬ M cb) := by
          have h : w1.heap[cb]? = some (.cells #[.int .i64 kind, .int .i64 cid, .slice la ln lc, .bool odd] 24 (0, 0)) ∧ ¬ M cb := ⟨hblk1, fun h => by have := HINV.out.duo.lt cb h; omega⟩
          exact h
        have HW1 := Lib.hid hw1
        have HCBE := Lib.hid hcb
        have hpl := pickN_lt kind 4 (by omega)
        obtain ⟨pk, hpk⟩ : ∃ p : Int, ((pickN kind 4 : Nat) : Int) = p := ⟨_, rfl⟩
        have hpk1 : 0 ≤ pk := by omega
        have hpk2 : pk < 4 := by omega
        have HPK := Lib.hid hpk
        clear hw1 hcb hblk1 hbw1 hpl hpk
        go_wp2_with fail
        refine (pick_is pk kind 4 _ HPK.out (by omega) (by omega) (by omega) (by omega)).mono ?_
        rintro e w' ⟨rfl, rfl⟩
        rw [← HCBE.out, ← HW1.out]
        clear HLX HINV HW1 HPK hc0 hc1 hc2 hc3
        obtain ⟨ids, hids⟩ : ∃ ids, ids = listL xs odd 12 := ⟨_, rfl⟩
        have HIDS := Lib.hid hids
        have HFA := Lib.hid INV1.out.duo.facts
        clear hids
        obtain ⟨hc0, hc1, hc2, hc3⟩ := four HCB.out.1
        go_upto_block 2 with fail
        go_cut [12] (fun s12 wc => TellsCut w bm rm s12 wc)
        case first =>
          by_cases hp3 : pk = 3
          · subst hp3
            go_wp2_with fail
            have tok1 : True := trivial
            have HLA : Hid (∀ d, Calls Try.prog 7 #[.agg #[.int .i64 kind, .int .i64 cid, .slice la ln lc, .bool odd], .int .i64 12] (w1.drewN d) fun e w' => ∃ a n c, e = .returned (.slice a n c) ∧ Dat M w' (.slice a n c) ids ∧ Below w1.heap.size w1 w') := by
              have h : ∀ d, Calls Try.prog 7 #[.agg #[.int .i64 kind, .int .i64 cid, .slice la ln lc, .bool odd], .int .i64 12] (w1.drewN d) fun e w' => ∃ a n c, e = .returned (.slice a n c) ∧ Dat M w' (.slice a n c) ids ∧ Below w1.heap.size w1 w' := fun d =>
                (list_ev (w := w1.drewN d) (HLX1.out.ev (Ev.drewN _ _ d)) HL64.out kind cid odd 12 (by omega) (by omega) INV1.out.duo.lt).mono fun e w' ⟨a, n, c, h1, h2, h3⟩ => ⟨a, n, c, h1, by rw [HIDS.out]; exact h2, ⟨h3.os, h3.tape, h3.output, h3.size, h3.block⟩⟩
              exact h
            go_region_with (first
              | (go_at_call 7; have _t := tok1; refine (HLA.out _).mono ?_; rintro e w2 ⟨a2, n2, c2, rfl, hi2, hb2⟩; clear tok1; have HI2 := Lib.hid hi2; have HB2 := Lib.hid hb2; have HDUO2 := Lib.hid (INV1.out.duo.later hb2); have HCB2 := Lib.hid ((Ev.of_below (F := M) hb2).blk HCB.out.1 HCB.out.2); obtain ⟨hp0, hp1, hp2, hp3⟩ := four HCB2.out.1; clear hi2 hb2)
              | (go_at_call 13; refine (duo_wrote HDUO2.out HI2.out).mono ?_; rintro e w3 ⟨rfl, M3, hd3, he3⟩; have HD3 := Lib.hid hd3; have HE3 := Lib.hid he3; have HCB3 := Lib.hid (he3.blk HCB2.out.1 HCB2.out.2); obtain ⟨hr0, hr1, hr2, hr3⟩ := four HCB3.out.1; clear hd3 he3)
              | (go_at_call 7; refine (list_ev (w := w3) ((HLX1.out.below HB2.out).ev HE3.out) HL64.out kind cid odd 12 (by omega) (by omega) HD3.out.lt).mono ?_; rintro e w4 ⟨a4, n4, c4, rfl, hi4, hb4⟩; rw [show (12 : Int).toNat = 12 from rfl, ← HIDS.out] at hi4; have HI4 := Lib.hid hi4; have HB4 := Lib.hid hb4; have HDUO4 := Lib.hid (HD3.out.later hb4); clear hi4 hb4)
              | (go_at_call 14; refine (duo_rwrote HDUO4.out HI4.out HFA.out.1 HFA.out.2.2.2).mono ?_; rintro e w5 ⟨rfl, M5, hd5, he5⟩; have HFIN : Hid (InvT w w5 bm rm M5 (wroteG' G B ids) B) := INV1.out.ev ((((Ev.of_below HB2.out).trans HE3.out).trans (Ev.of_below HB4.out)).trans he5) hd5; clear hd5 he5))
            all_goals
              go_wp2_with fail
              go_meet
              case rel => exact ⟨rfl, _, _, _, HFIN.out⟩
          · by_cases hp2 : pk = 2
            · subst hp2
              obtain ⟨pid, hpid⟩ : ∃ p : Int, ((pickN cid 12 : Nat) : Int) = p := ⟨_, rfl⟩
              have hpl := pickN_lt cid 12 (by omega)
              have hpd1 : 0 ≤ pid := by omega
              have hpd2 : pid < 12 := by omega
              have HPID := Lib.hid hpid
              clear hpid hpl
              go_wp2_with fail
              refine (pick_is pid cid 12 _ HPID.out (by omega) (by omega) (by omega) (by omega)).mono ?_
              rintro e w' ⟨rfl, rfl⟩
              go_wp2_with fail
              have tok1 : True := trivial
              have HLA : Hid (∀ d, Calls Try.prog 7 #[.agg #[.int .i64 kind, .int .i64 cid, .slice la ln lc, .bool odd], .int .i64 12] (w1.drewN d) fun e w' => ∃ a n c, e = .returned (.slice a n c) ∧ Dat M w' (.slice a n c) ids ∧ Below w1.heap.size w1 w') := by
                have h : ∀ d, Calls Try.prog 7 #[.agg #[.int .i64 kind, .int .i64 cid, .slice la ln lc, .bool odd], .int .i64 12] (w1.drewN d) fun e w' => ∃ a n c, e = .returned (.slice a n c) ∧ Dat M w' (.slice a n c) ids ∧ Below w1.heap.size w1 w' := fun d =>
                  (list_ev (w := w1.drewN d) (HLX1.out.ev (Ev.drewN _ _ d)) HL64.out kind cid odd 12 (by omega) (by omega) INV1.out.duo.lt).mono fun e w' ⟨a, n, c, h1, h2, h3⟩ => ⟨a, n, c, h1, by rw [HIDS.out]; exact h2, ⟨h3.os, h3.tape, h3.output, h3.size, h3.block⟩⟩
                exact h
              go_region_with (first
                | (go_at_call 7; have _t := tok1; refine (HLA.out _).mono ?_; rintro e w2 ⟨a2, n2, c2, rfl, hi2, hb2⟩; clear tok1; have HI2 := Lib.hid hi2; have HB2 := Lib.hid hb2; have HDUO2 := Lib.hid (INV1.out.duo.later hb2); have HCB2 := Lib.hid ((Ev.of_below (F := M) hb2).blk HCB.out.1 HCB.out.2); obtain ⟨hp0, hp1, hp2, hp3⟩ := four HCB2.out.1; clear hi2 hb2)
                | (go_at_call 11; refine (duo_scan HDUO2.out HI2.out (1 + pid)).mono ?_; rintro e w3 ⟨rfl, M3, hd3, he3⟩; have HD3 := Lib.hid hd3; have HE3 := Lib.hid he3; have HCB3 := Lib.hid (he3.blk HCB2.out.1 HCB2.out.2); obtain ⟨hr0, hr1, hr2, hr3⟩ := four HCB3.out.1; clear hd3 he3)
                | (go_at_call 7; refine (list_ev (w := w3) ((HLX1.out.below HB2.out).ev HE3.out) HL64.out kind cid odd 12 (by omega) (by omega) HD3.out.lt).mono ?_; rintro e w4 ⟨a4, n4, c4, rfl, hi4, hb4⟩; rw [show (12 : Int).toNat = 12 from rfl, ← HIDS.out] at hi4; have HI4 := Lib.hid hi4; have HB4 := Lib.hid hb4; have HDUO4 := Lib.hid (HD3.out.later hb4); clear hi4 hb4)
                | (go_at_call 12; refine (duo_rscan HDUO4.out HI4.out (1 + pid) HFA.out.1 HFA.out.2.1 HFA.out.2.2.2).mono ?_; rintro e w5 ⟨rfl, M5, hd5, he5⟩; have HFIN : Hid (InvT w w5 bm rm M5 (scanG' G B (1 + pid) ids) (scanB' G B (1 + pid) ids)) := INV1.out.ev ((((Ev.of_below HB2.out).trans HE3.out).trans (Ev.of_below HB4.out)).trans he5) hd5; clear hd5 he5))
              all_goals
                go_wp2_with fail
                go_meet
                case rel => exact ⟨rfl, _, _, _, HFIN.out⟩
            · obtain ⟨nb, hnb⟩ : ∃ nb, nextB G = nb := ⟨_, rfl⟩
              obtain ⟨ni, hni⟩ : ∃ ni, nextI G = ni := ⟨_, rfl⟩
              have HNX := duo_rnext INV1.out.duo
              rw [hnb, hni] at HNX
              have HNX := Lib.hid HNX
              clear hnb hni
              rcases (by omega : pk = 0 ∨ pk = 1) with hp0 | hp0
              all_goals
                subst hp0
                go_upto_region 19 with (go_at_call 10; refine HNX.out.mono ?_; rintro e w' ⟨rfl, rfl⟩)
                go_cut [88] (fun s88 wc => BoolCut w1 (nb && !odd) s88 wc)
                case first =>
                  cases nb
                  · go_wp2_with fail
                    go_meet
                    case rel => exact ⟨rfl, rfl⟩
                  · cases odd
                    · go_wp2_with fail
                      go_meet
                      case rel => exact ⟨rfl, rfl⟩
                    · go_wp2_with fail
                      go_meet
                      case rel => exact ⟨rfl, rfl⟩
                case rest =>
                  obtain ⟨rfl, rfl⟩ := hcut
                  generalize (nb && !odd) = tb
                  go_upto_if 88 with fail
                  go_cut [13] (fun s13 wc => IntCut w1 s13 wc)
                  case first =>
                    cases tb
                    · go_wp2_with fail
                      go_meet
                      case rel => exact ⟨⟨_, rfl⟩, rfl⟩
                    · go_wp2_with fail
                      go_meet
                      case rel => exact ⟨⟨_, rfl⟩, rfl⟩
                  case rest =>
                    obtain ⟨⟨idv, rfl⟩, rfl⟩ := hcut
                    go_wp2_with fail
                    have tok1 : True := trivial
                    have HLA : Hid (∀ d, Calls Try.prog 7 #[.agg #[.int .i64 kind, .int .i64 cid, .slice la ln lc, .bool odd], .int .i64 12] (w1.drewN d) fun e w' => ∃ a n c, e = .returned (.slice a n c) ∧ Dat M w' (.slice a n c) ids ∧ Below w1.heap.size w1 w') := by
                      have h : ∀ d, Calls Try.prog 7 #[.agg #[.int .i64 kind, .int .i64 cid, .slice la ln lc, .bool odd], .int .i64 12] (w1.drewN d) fun e w' => ∃ a n c, e = .returned (.slice a n c) ∧ Dat M w' (.slice a n c) ids ∧ Below w1.heap.size w1 w' := fun d =>
                        (list_ev (w := w1.drewN d) (HLX1.out.ev (Ev.drewN _ _ d)) HL64.out kind cid odd 12 (by omega) (by omega) INV1.out.duo.lt).mono fun e w' ⟨a, n, c, h1, h2, h3⟩ => ⟨a, n, c, h1, by rw [HIDS.out]; exact h2, ⟨h3.os, h3.tape, h3.output, h3.size, h3.block⟩⟩
                      exact h
                    go_region_with (first
                      | (go_at_call 7; have _t := tok1; refine (HLA.out _).mono ?_; rintro e w2 ⟨a2, n2, c2, rfl, hi2, hb2⟩; clear tok1; have HI2 := Lib.hid hi2; have HB2 := Lib.hid hb2; have HDUO2 := Lib.hid (INV1.out.duo.later hb2); have HCB2 := Lib.hid ((Ev.of_below (F := M) hb2).blk HCB.out.1 HCB.out.2); obtain ⟨hp0, hp1, hp2, hp3⟩ := four HCB2.out.1; clear hi2 hb2)
                      | (go_at_call 11; refine (duo_scan HDUO2.out HI2.out (idv)).mono ?_; rintro e w3 ⟨rfl, M3, hd3, he3⟩; have HD3 := Lib.hid hd3; have HE3 := Lib.hid he3; have HCB3 := Lib.hid (he3.blk HCB2.out.1 HCB2.out.2); obtain ⟨hr0, hr1, hr2, hr3⟩ := four HCB3.out.1; clear hd3 he3)
                      | (go_at_call 7; refine (list_ev (w := w3) ((HLX1.out.below HB2.out).ev HE3.out) HL64.out kind cid odd 12 (by omega) (by omega) HD3.out.lt).mono ?_; rintro e w4 ⟨a4, n4, c4, rfl, hi4, hb4⟩; rw [show (12 : Int).toNat = 12 from rfl, ← HIDS.out] at hi4; have HI4 := Lib.hid hi4; have HB4 := Lib.hid hb4; have HDUO4 := Lib.hid (HD3.out.later hb4); clear hi4 hb4)
                      | (go_at_call 12; refine (duo_rscan HDUO4.out HI4.out (idv) HFA.out.1 HFA.out.2.1 HFA.out.2.2.2).mono ?_; rintro e w5 ⟨rfl, M5, hd5, he5⟩; have HFIN : Hid (InvT w w5 bm rm M5 (scanG' G B (idv) ids) (scanB' G B (idv) ids)) := INV1.out.ev ((((Ev.of_below HB2.out).trans HE3.out).trans (Ev.of_below HB4.out)).trans he5) hd5; clear hd5 he5))
                    all_goals
                      go_wp2_with fail
                      go_meet
                      case rel => exact ⟨rfl, _, _, _, HFIN.out⟩
        case rest =>
          obtain ⟨rfl, M1, G1, B1, hinv1⟩ := hcut
          have HINV1 := Lib.hid hinv1
          have HFA1 := Lib.hid hinv1.duo.facts
          clear hinv1 INV1 HFA HCB HLX1 HIDS HL64 HCBE hc0 hc1 hc2 hc3
          obtain ⟨nb, hnb⟩ : ∃ nb, nextB G1 = nb := ⟨_, rfl⟩
          obtain ⟨ni, hni⟩ : ∃ ni, nextI G1 = ni := ⟨_, rfl⟩
          obtain ⟨eb, heb⟩ : ∃ eb, G1.isEmpty = eb := ⟨_, rfl⟩
          have HEB := Lib.hid heb
          have hn1 := duo_next HINV1.out.duo
          rw [hnb, hni] at hn1
          have HN1 := Lib.hid hn1
          have HNB := Lib.hid hnb
          have HNI := Lib.hid hni
          have hneb : ∀ W : World, (binOp .neq 4 (.bool eb) (.bool eb)).run Try.prog W = .ok (.bool false) W := fun W => neq_self eb W
          have hnnb : ∀ W : World, (binOp .neq 4 (.bool nb) (.bool nb)).run Try.prog W = .ok (.bool false) W := fun W => neq_self nb W
          clear hn1 hnb hni heb
          go_wp2_with fail
          refine HN1.out.mono ?_
          rintro e w2 ⟨rfl, M2, hd2, he2⟩
          have hr2 := duo_rnext hd2
          rw [HNB.out, HNI.out] at hr2
          have HR2 := Lib.hid hr2
          have HD2 := Lib.hid hd2
          have HINV2 := Lib.hid (HINV1.out.ev he2 hd2)
          clear hr2 hd2 he2
          go_wp2_with fail
          refine HR2.out.mono ?_
          rintro e w' ⟨rfl, rfl⟩
          go_wp2_with fail
          refine (duo_done eb HD2.out HEB.out).mono ?_
          rintro e w' ⟨rfl, rfl⟩
          go_wp2_with fail
          refine (duo_rdone eb HD2.out HEB.out).mono ?_
          rintro e w' ⟨rfl, rfl⟩
          go_wp2_with fail
          refine (duo_marked HD2.out).mono ?_
          rintro e w3 ⟨a3, n3, c3, rfl, hi3, hb3⟩
          have HI3 := Lib.hid hi3
          have HB3 := Lib.hid hb3
          have HD3 := Lib.hid (HD2.out.later hb3)
          clear hi3 hb3
          go_wp2_with fail
          refine (duo_rmarked HD3.out HFA1.out.2.1 HFA1.out.2.2.2).mono ?_
          rintro e w4 ⟨a4, n4, c4, rfl, hi4, hb4⟩
          have HI4 := Lib.hid hi4
          have HB4 := Lib.hid hb4
          clear hi4 hb4
          have hnm := nums_any _ _ _ _ w4 _ _ (HI3.out.below HB4.out) HI4.out
          rw [show numsL (markedL G1 B1) (markedL G1 B1) = true from by simp [numsL]] at hnm
          have HNM := Lib.hid hnm
          clear hnm
          go_wp2_with fail
          refine HNM.out.mono ?_
          rintro e w' ⟨rfl, d, rfl⟩
          have HFIN : Hid (InvT w (w4.drewN d) bm rm M2 G1 B1) := by
            have hb : Below w2.heap.size w2 (w4.drewN d) := below_drewN (below_then HB3.out HB4.out) d
            have h : InvT w (w4.drewN d) bm rm M2 G1 B1 := ⟨HINV2.out.duo.later hb, HINV2.out.above, below_then HINV2.out.bel hb⟩
            exact h
          go_wp2_with fail
          go_roundg (30 - (k + 1))
          case measure => omega
          case rel => exact ⟨k + 1, M2, G1, B1, by omega, by omega, rfl, by go_num, HFIN⟩
      · go_wp2_with fail
        all_goals
          go_ret
          exact ⟨rfl, HINV.out.bel⟩
end Go.Proofs.Ythceiokibionkaa
