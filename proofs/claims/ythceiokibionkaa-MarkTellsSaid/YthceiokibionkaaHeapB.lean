/- container/heap over a marker's numbers: up, down. -/
import Derived.Test.YthceiokibionkaaHeapA
namespace Go.Proofs.Ythceiokibionkaa
open Go.RowKit

/-- a swap of the heap's numbers, both places alike or not -/
theorem swap_heap {bm : Nat} {m1 m2 v : Value} {xs : List Int} {w : World} {g cap : Nat} (h : HeapAt w bm m1 m2 v xs) (hv : v = .slice (some ⟨g, 0, none⟩) xs.length cap) (i j : Int) (hi0 : 0 ≤ i) (hj0 : 0 ≤ j) (hi : i.toNat < xs.length) (hj : j.toNat < xs.length) :
    Calls Try.prog 70 #[.slice (some ⟨g, 0, none⟩) xs.length cap, .int .i64 i, .int .i64 j] w fun e w' => e = .returned (.tuple #[]) ∧ HeapAt w' bm m1 m2 v (swapL xs i.toNat j.toNat) ∧ Only (fun k => k = g) w w' := by
  obtain ⟨i, rfl⟩ := Int.eq_ofNat_of_zero_le hi0
  obtain ⟨j, rfl⟩ := Int.eq_ofNat_of_zero_le hj0
  rw [Int.toNat_natCast] at *
  obtain ⟨g', cap', hv', hgb, hgs, hml, hcell, hfr⟩ := h.form (by omega)
  obtain ⟨rfl, rfl⟩ : g = g' ∧ cap = cap' := by rw [hv] at hv'; simpa using hv'
  have ho : ∀ x y : Value, Only (fun k => k = g) w (((w.setCell ⟨g, i, none⟩ x).setCell ⟨g, j, none⟩ y).drew) := fun x y => (((Only.refl (fun k => k = g) w).setCell (p := ⟨g, i, none⟩) (.inl rfl) x).setCell (p := ⟨g, j, none⟩) (.inl rfl) y).drew
  by_cases hij : i = j
  · subst hij
    refine (swap_eq g xs.length cap i _ w hi hml (hcell i hi) (hfr i)).mono ?_
    rintro e w' ⟨rfl, rfl⟩
    exact ⟨rfl, h.swap hv, ho _ _⟩
  · refine (swap_ne g xs.length cap i j _ _ w hi hj hij hml (hcell i hi) (hcell j hj) (hfr i) (hfr j)).mono ?_
    rintro e w' ⟨rfl, rfl⟩
    exact ⟨rfl, h.swap hv, ho _ _⟩

theorem swap_heap' {bm : Nat} {m1 m2 : Value} {xs : List Int} {w : World} {g cap n : Nat} (h : HeapAt w bm m1 m2 (.slice (some ⟨g, 0, none⟩) n cap) xs) (hn : xs.length = n) (i j : Int) (hi0 : 0 ≤ i) (hj0 : 0 ≤ j) (hi : i.toNat < n) (hj : j.toNat < n) :
    Calls Try.prog 70 #[.slice (some ⟨g, 0, none⟩) n cap, .int .i64 i, .int .i64 j] w fun e w' => e = .returned (.tuple #[]) ∧ HeapAt w' bm m1 m2 (.slice (some ⟨g, 0, none⟩) n cap) (swapL xs i.toNat j.toNat) ∧ Only (fun k => k = g) w w' := by
  subst hn; exact swap_heap h rfl i j hi0 hj0 hi hj

theorem less_is (b : Bool) (g n cap : Nat) (i j : Int) (x y : Int) (w : World) (hb : decide (x < y) = b) (hi0 : 0 ≤ i) (hi : i < n) (hj0 : 0 ≤ j) (hj : j < n) (hn : n ≤ 9223372036854775807) (hx : w.cell? ⟨g, i.toNat, none⟩ = some (.int .i64 x)) (hy : w.cell? ⟨g, j.toNat, none⟩ = some (.int .i64 y)) :
    Calls Try.prog 69 #[.slice (some ⟨g, 0, none⟩) n cap, .int .i64 i, .int .i64 j] w fun e w' => e = .returned (.bool b) ∧ ∃ d, w' = w.drewN d := by
  subst hb; exact less_any g n cap i j x y w hi0 hi hj0 hj hn hx hy

def UpPost (bm : Nat) (m1 m2 v : Value) (xs : List Int) (w : World) (e : Ending) (w' : World) : Prop :=
  e = .returned (.tuple #[]) ∧ ∃ ys, HeapAt w' bm m1 m2 v ys ∧ ys.Perm xs ∧ IsHeap ys ys.length ∧ Only (fun i => v.ownBlock = some i) w w'

set_option maxHeartbeats 1000000 in
theorem up_any (bm : Nat) (m1 m2 v : Value) (xs : List Int) (w : World) (j : Int) (hj0 : 0 ≤ j) (h : HeapAt w bm m1 m2 v xs) (hu : UpInv xs j.toNat) :
    Calls Try.prog 31 #[.iface 57 (.pointer (some ⟨bm, 0, none⟩)), .int .i64 j] w (UpPost bm m1 m2 v xs w) := by
  obtain ⟨j, rfl⟩ := Int.eq_ofNat_of_zero_le hj0
  rw [Int.toNat_natCast] at hu
  have hlt := hu.lt
  obtain ⟨g, cap, rfl, hgb, hgs, hml, _, _⟩ := h.form (by omega)
  generalize hn : xs.length = n at *
  have HN := Lib.hid hn; clear hn
  have HH := Lib.hid h; clear h
  have HU := Lib.hid hu; clear hu
  have hmless := fun (w : World) => m_less ⟨bm, 0, none⟩ w (some ⟨g, 0, none⟩) n cap
  have hmswap := fun (w : World) => m_swap ⟨bm, 0, none⟩ w (some ⟨g, 0, none⟩) n cap
  go_enter Try.func31, Try.ntmps31
  go_wp2_with fail
  go_loopw [1, 4] (fun jv _ wr => ∃ (k : Nat) (ys : List Int), k < n ∧ jv = .int .i64 k ∧ Hid (ys.length = n) ∧ Hid (HeapAt wr bm m1 m2 (.slice (some ⟨g, 0, none⟩) n cap) ys) ∧ Hid (ys.Perm xs) ∧ Hid (UpInv ys k) ∧ Hid (Only (fun i => i = g) w wr)) (fun jv _ _ => (intOf jv).toNat)
  case atStart => exact ⟨j, xs, hlt, rfl, HN, HH, by exact (List.Perm.refl xs), HU, by exact (Only.refl _ w)⟩
  case round =>
    obtain ⟨k, ys, hk, rfl, HY, HA, HP, HI, HO⟩ := hrel
    obtain ⟨g', cap', hv', _, _, _, hcell, hfr⟩ := HA.out.form (by rw [HY.out]; omega)
    obtain ⟨rfl, rfl⟩ : g = g' ∧ cap = cap' := by rw [HY.out] at hv'; simpa using hv'
    clear hv'
    have hcm := HA.out.cell
    have fin : ∀ w'' : World, HeapAt w'' bm m1 m2 (.slice (some ⟨g, 0, none⟩) n cap) ys → Only (fun i => i = g) w w'' → IsHeap ys ys.length → UpPost bm m1 m2 (.slice (some ⟨g, 0, none⟩) n cap) xs w (.returned (.tuple #[])) w'' :=
      fun w'' h1 h2 h3 => ⟨rfl, ys, h1, HP.out, h3, h2.mono fun i hi => by rw [hi]; rfl⟩
    have FIN := Lib.hid fin; clear fin
    by_cases hk0 : k = 0
    · subst hk0
      clear hcell hfr
      go_wp2_with fail
      go_end0
      exact FIN.out _ HA.out HO.out (up_stop HI.out (.inl rfl))
    · have hc1 := hcell k (by rw [HY.out]; exact hk)
      have hc2 := hcell ((k - 1) / 2) (by rw [HY.out]; omega)
      have HC1 := Lib.hid hc1
      have HC2 := Lib.hid hc2
      clear hcell hfr hc1 hc2
      have hd : (((k : Int) - 1) / 2 == (k : Int)) = false := by simpa using (by omega : ¬ ((k : Int) - 1) / 2 = k)
      have ht : (((k : Int) - 1) / 2).toNat = (k - 1) / 2 := by omega
      have HT := Lib.hid ht; clear ht
      by_cases hs : hget ys k < hget ys ((k - 1) / 2)
      · have hs1 : decide (hget ys k < hget ys ((k - 1) / 2)) = true := by simpa using hs
        have HS := Lib.hid hs1; clear hs1
        go_wp2_with (first
          | (go_at_call 69; refine (less_is true g n cap _ _ (hget ys k) (hget ys ((k - 1) / 2)) _ HS.out (by omega) (by omega) (by omega) (by omega) hml ?_ ?_).mono ?_; (rw [Int.toNat_natCast]; exact HC1.out); (rw [HT.out]; exact HC2.out); rintro e w' ⟨rfl, d, rfl⟩)
          | (go_at_call 70; refine (swap_heap' (HA.out.drewN d) HY.out _ _ (by omega) (by omega) (by rw [HT.out]; omega) (by omega)).mono ?_; rintro e w' ⟨rfl, ha', ho'⟩))
        rw [HT.out, Int.toNat_natCast] at ha'
        have hperm := (swapL_perm (ys := ys) (i := (k - 1) / 2) (j := k) (by rw [HY.out]; omega) (by rw [HY.out]; omega)).trans HP.out
        have HP' := Lib.hid hperm
        have HA' := Lib.hid ha'
        have hoo := ((HO.out.drewN d).trans ho')
        have HO' := Lib.hid hoo
        clear ha' ho' hperm hoo
        go_wp2_with fail
        go_roundw
        case rel => exact ⟨(k - 1) / 2, swapL ys ((k - 1) / 2) k, by omega, by go_num, by have h : (swapL ys ((k - 1) / 2) k).length = n := by { rw [swapL_length]; exact HY.out }; exact h, HA', HP', by exact (up_step HI.out (by omega) hs), HO'⟩
        case measure => simp [intOf]; omega
      · have hs1 : decide (hget ys k < hget ys ((k - 1) / 2)) = false := by simpa using hs
        have HS := Lib.hid hs1; clear hs1
        have HS2 := Lib.hid hs; clear hs
        go_wp2_with (first
          | (go_at_call 69; refine (less_is false g n cap _ _ (hget ys k) (hget ys ((k - 1) / 2)) _ HS.out (by omega) (by omega) (by omega) (by omega) hml ?_ ?_).mono ?_; (rw [Int.toNat_natCast]; exact HC1.out); (rw [HT.out]; exact HC2.out); rintro e w' ⟨rfl, d, rfl⟩))
        go_end0
        exact FIN.out _ (HA.out.drewN d) (HO.out.drewN d) (up_stop HI.out (.inr (by have := HS2.out; omega)))

theorem keep_swap {ys xs : List Int} {k j n : Nat} (hk : k < ys.length) (hj : j < ys.length) (h1 : k < n) (h2 : j < n) (h : hget ys n = hget xs n) : hget (swapL ys k j) n = hget xs n := by
  rw [hget_swapL hk hj, if_neg (by omega), if_neg (by omega)]; exact h
def DownPost (bm : Nat) (m1 m2 v : Value) (xs : List Int) (n : Nat) (w : World) (e : Ending) (w' : World) : Prop :=
  (∃ b, e = .returned (.bool b)) ∧ ∃ ys, HeapAt w' bm m1 m2 v ys ∧ ys.length = xs.length ∧ ys.Perm xs ∧ IsHeap ys n ∧ hget ys n = hget xs n ∧ Only (fun i => v.ownBlock = some i) w w'

set_option maxHeartbeats 2000000 in
theorem down_any (bm : Nat) (m1 m2 v : Value) (xs : List Int) (w : World) (nn : Int) (hn0 : 0 ≤ nn) (h : HeapAt w bm m1 m2 v xs) (hu : DownInv xs 0 nn.toNat) (hlen : nn.toNat < xs.length) (hbig : xs.length ≤ 1000000000) :
    Calls Try.prog 30 #[.iface 57 (.pointer (some ⟨bm, 0, none⟩)), .int .i64 0, .int .i64 nn] w (DownPost bm m1 m2 v xs nn.toNat w) := by
  obtain ⟨n, rfl⟩ := Int.eq_ofNat_of_zero_le hn0
  rw [Int.toNat_natCast] at *
  obtain ⟨g, cap, rfl, hgb, hgs, hml, _, _⟩ := h.form (by omega)
  generalize hn : xs.length = L at *
  have HN := Lib.hid hn; clear hn
  have HH := Lib.hid h; clear h
  have HU := Lib.hid hu; clear hu
  have hmless := fun (w : World) => m_less ⟨bm, 0, none⟩ w (some ⟨g, 0, none⟩) L cap
  have hmswap := fun (w : World) => m_swap ⟨bm, 0, none⟩ w (some ⟨g, 0, none⟩) L cap
  go_enter Try.func30, Try.ntmps30
  go_wp2_with fail
  go_loopw [7, 8, 9, 10] (fun iv _ _ _ wr => ∃ (k : Nat) (ys : List Int), k < L ∧ iv = .int .i64 k ∧ Hid (ys.length = L) ∧ Hid (HeapAt wr bm m1 m2 (.slice (some ⟨g, 0, none⟩) L cap) ys) ∧ Hid (ys.Perm xs) ∧ Hid (hget ys n = hget xs n) ∧ Hid (DownInv ys k n) ∧ Hid (Only (fun i => i = g) w wr)) (fun iv _ _ _ _ => L - (intOf iv).toNat)
  case atStart => exact ⟨0, xs, by omega, rfl, HN, HH, by exact (List.Perm.refl xs), by exact (rfl : hget xs n = hget xs n), HU, by exact (Only.refl _ w)⟩
  case round =>
    obtain ⟨k, ys, hk, rfl, HY, HA, HP, HK, HI, HO⟩ := hrel
    obtain ⟨g', cap', hv', _, _, _, hcell, hfr⟩ := HA.out.form (by rw [HY.out]; omega)
    obtain ⟨rfl, rfl⟩ : g = g' ∧ cap = cap' := by rw [HY.out] at hv'; simpa using hv'
    clear hv' hfr
    have hcm := HA.out.cell
    have HCELL := Lib.hid hcell; clear hcell
    have fin : ∀ (b : Bool) (w'' : World), HeapAt w'' bm m1 m2 (.slice (some ⟨g, 0, none⟩) L cap) ys → Only (fun i => i = g) w w'' → IsHeap ys n → DownPost bm m1 m2 (.slice (some ⟨g, 0, none⟩) L cap) xs n w (.returned (.bool b)) w'' :=
      fun b w'' h1 h2 h3 => ⟨⟨b, rfl⟩, ys, h1, by rw [HY.out, HN.out], HP.out, h3, HK.out, h2.mono fun i hi => by rw [hi]; rfl⟩
    have FIN := Lib.hid fin; clear fin
    by_cases h1n : n ≤ 2 * k + 1
    · go_wp2_with fail
      go_ret
      exact FIN.out _ _ HA.out HO.out (down_stop HI.out (fun c h1 h2 h3 => by omega))
    · by_cases h2n : 2 * k + 2 < n
      · by_cases hl : hget ys (2 * k + 2) < hget ys (2 * k + 1)
        · have hl1 : decide (hget ys (2 * k + 2) < hget ys (2 * k + 1)) = true := by simpa using hl
          have HL1 := Lib.hid hl1; clear hl1
          have HLL := Lib.hid hl; clear hl
          by_cases hs : hget ys (2 * k + 2) < hget ys k
          · have hs1 : decide (hget ys (2 * k + 2) < hget ys k) = true := by simpa using hs
            have HS := Lib.hid hs1; clear hs1
            have HS2 := Lib.hid hs; clear hs
            go_wp2_with fail
            refine (less_is true g L cap _ _ (hget ys ((2 * k + 2))) (hget ys ((2 * k + 1))) _ HL1.out (by omega) (by omega) (by omega) (by omega) hml ?_ ?_).mono ?_
            · rw [show (2 * ↑k + 1 + 1 : Int).toNat = (2 * k + 2) from by omega]; exact (HCELL.out (2 * k + 2) (by rw [HY.out]; omega))
            · rw [show (2 * ↑k + 1 : Int).toNat = (2 * k + 1) from by omega]; exact (HCELL.out (2 * k + 1) (by rw [HY.out]; omega))
            rintro e w' ⟨rfl, d1, rfl⟩
            go_wp2_with fail
            refine (less_is true g L cap _ _ (hget ys ((2 * k + 2))) (hget ys (k)) _ HS.out (by omega) (by omega) (by omega) (by omega) hml ?_ ?_).mono ?_
            · rw [show (2 * ↑k + 1 + 1 : Int).toNat = (2 * k + 2) from by omega]; exact (HCELL.out (2 * k + 2) (by rw [HY.out]; omega))
            · rw [show (↑k : Int).toNat = k from by omega]; exact (HCELL.out k (by rw [HY.out]; omega))
            rintro e w' ⟨rfl, d2, rfl⟩
            go_wp2_with fail
            refine (swap_heap' (HA.out.drewN _) HY.out _ _ (by omega) (by omega) (by omega) (by omega)).mono ?_
            rintro e w' ⟨rfl, ha', ho'⟩
            rw [show (2 * ↑k + 1 + 1 : Int).toNat = 2 * k + 2 from by omega, Int.toNat_natCast] at ha'
            have HST := Lib.hid (down_step (j := 2 * k + 2) HI.out (by omega) (by omega) (by omega) (by simpa using HS2.out) (fun c h1 h2 h3 => by have := HLL.out; rcases (by omega : c = 2 * k + 1 ∨ c = 2 * k + 2) with rfl | rfl <;> omega))
            have hperm := (swapL_perm (ys := ys) (i := k) (j := 2 * k + 2) (by rw [HY.out]; omega) (by rw [HY.out]; omega)).trans HP.out
            have HP' := Lib.hid hperm
            have HA' := Lib.hid ha'
            have HK' := Lib.hid (keep_swap (k := k) (j := 2 * k + 2) (n := n) (by rw [HY.out]; omega) (by rw [HY.out]; omega) (by omega) (by omega) HK.out)
            have HL' := Lib.hid ((swapL_length ys k (2 * k + 2)).trans HY.out)
            have hoo := ((HO.out.drewN _).trans ho')
            have HO' := Lib.hid hoo
            clear ha' ho' hperm hoo
            go_wp2_with fail
            go_roundw
            case rel => exact ⟨2 * k + 2, _, by omega, by go_num, HL', HA', HP', HK', HST, HO'⟩
            case measure => simp [intOf]; omega

          · have hs1 : decide (hget ys (2 * k + 2) < hget ys k) = false := by simpa using hs
            have HS := Lib.hid hs1; clear hs1
            have HS2 := Lib.hid hs; clear hs
            go_wp2_with fail
            refine (less_is true g L cap _ _ (hget ys ((2 * k + 2))) (hget ys ((2 * k + 1))) _ HL1.out (by omega) (by omega) (by omega) (by omega) hml ?_ ?_).mono ?_
            · rw [show (2 * ↑k + 1 + 1 : Int).toNat = (2 * k + 2) from by omega]; exact (HCELL.out (2 * k + 2) (by rw [HY.out]; omega))
            · rw [show (2 * ↑k + 1 : Int).toNat = (2 * k + 1) from by omega]; exact (HCELL.out (2 * k + 1) (by rw [HY.out]; omega))
            rintro e w' ⟨rfl, d1, rfl⟩
            go_wp2_with fail
            refine (less_is false g L cap _ _ (hget ys ((2 * k + 2))) (hget ys (k)) _ HS.out (by omega) (by omega) (by omega) (by omega) hml ?_ ?_).mono ?_
            · rw [show (2 * ↑k + 1 + 1 : Int).toNat = (2 * k + 2) from by omega]; exact (HCELL.out (2 * k + 2) (by rw [HY.out]; omega))
            · rw [show (↑k : Int).toNat = k from by omega]; exact (HCELL.out k (by rw [HY.out]; omega))
            rintro e w' ⟨rfl, d2, rfl⟩
            go_wp2_with fail
            go_ret
            exact FIN.out _ _ (HA.out.drewN _) (HO.out.drewN _) (down_stop HI.out (fun c h1 h2 h3 => by have := HLL.out; have := HS2.out; rcases (by omega : c = 2 * k + 1 ∨ c = 2 * k + 2) with rfl | rfl <;> omega))

        · have hl1 : decide (hget ys (2 * k + 2) < hget ys (2 * k + 1)) = false := by simpa using hl
          have HL1 := Lib.hid hl1; clear hl1
          have HLL := Lib.hid hl; clear hl
          by_cases hs : hget ys (2 * k + 1) < hget ys k
          · have hs1 : decide (hget ys (2 * k + 1) < hget ys k) = true := by simpa using hs
            have HS := Lib.hid hs1; clear hs1
            have HS2 := Lib.hid hs; clear hs
            go_wp2_with fail
            refine (less_is false g L cap _ _ (hget ys ((2 * k + 2))) (hget ys ((2 * k + 1))) _ HL1.out (by omega) (by omega) (by omega) (by omega) hml ?_ ?_).mono ?_
            · rw [show (2 * ↑k + 1 + 1 : Int).toNat = (2 * k + 2) from by omega]; exact (HCELL.out (2 * k + 2) (by rw [HY.out]; omega))
            · rw [show (2 * ↑k + 1 : Int).toNat = (2 * k + 1) from by omega]; exact (HCELL.out (2 * k + 1) (by rw [HY.out]; omega))
            rintro e w' ⟨rfl, d1, rfl⟩
            go_wp2_with fail
            refine (less_is true g L cap _ _ (hget ys ((2 * k + 1))) (hget ys (k)) _ HS.out (by omega) (by omega) (by omega) (by omega) hml ?_ ?_).mono ?_
            · rw [show (2 * ↑k + 1 : Int).toNat = (2 * k + 1) from by omega]; exact (HCELL.out (2 * k + 1) (by rw [HY.out]; omega))
            · rw [show (↑k : Int).toNat = k from by omega]; exact (HCELL.out k (by rw [HY.out]; omega))
            rintro e w' ⟨rfl, d2, rfl⟩
            go_wp2_with fail
            refine (swap_heap' (HA.out.drewN _) HY.out _ _ (by omega) (by omega) (by omega) (by omega)).mono ?_
            rintro e w' ⟨rfl, ha', ho'⟩
            rw [show (2 * ↑k + 1 : Int).toNat = 2 * k + 1 from by omega, Int.toNat_natCast] at ha'
            have HST := Lib.hid (down_step (j := 2 * k + 1) HI.out (by omega) (by omega) (by omega) (by simpa using HS2.out) (fun c h1 h2 h3 => by have := HLL.out; rcases (by omega : c = 2 * k + 1 ∨ c = 2 * k + 2) with rfl | rfl <;> omega))
            have hperm := (swapL_perm (ys := ys) (i := k) (j := 2 * k + 1) (by rw [HY.out]; omega) (by rw [HY.out]; omega)).trans HP.out
            have HP' := Lib.hid hperm
            have HA' := Lib.hid ha'
            have HK' := Lib.hid (keep_swap (k := k) (j := 2 * k + 1) (n := n) (by rw [HY.out]; omega) (by rw [HY.out]; omega) (by omega) (by omega) HK.out)
            have HL' := Lib.hid ((swapL_length ys k (2 * k + 1)).trans HY.out)
            have hoo := ((HO.out.drewN _).trans ho')
            have HO' := Lib.hid hoo
            clear ha' ho' hperm hoo
            go_wp2_with fail
            go_roundw
            case rel => exact ⟨2 * k + 1, _, by omega, by go_num, HL', HA', HP', HK', HST, HO'⟩
            case measure => simp [intOf]; omega

          · have hs1 : decide (hget ys (2 * k + 1) < hget ys k) = false := by simpa using hs
            have HS := Lib.hid hs1; clear hs1
            have HS2 := Lib.hid hs; clear hs
            go_wp2_with fail
            refine (less_is false g L cap _ _ (hget ys ((2 * k + 2))) (hget ys ((2 * k + 1))) _ HL1.out (by omega) (by omega) (by omega) (by omega) hml ?_ ?_).mono ?_
            · rw [show (2 * ↑k + 1 + 1 : Int).toNat = (2 * k + 2) from by omega]; exact (HCELL.out (2 * k + 2) (by rw [HY.out]; omega))
            · rw [show (2 * ↑k + 1 : Int).toNat = (2 * k + 1) from by omega]; exact (HCELL.out (2 * k + 1) (by rw [HY.out]; omega))
            rintro e w' ⟨rfl, d1, rfl⟩
            go_wp2_with fail
            refine (less_is false g L cap _ _ (hget ys ((2 * k + 1))) (hget ys (k)) _ HS.out (by omega) (by omega) (by omega) (by omega) hml ?_ ?_).mono ?_
            · rw [show (2 * ↑k + 1 : Int).toNat = (2 * k + 1) from by omega]; exact (HCELL.out (2 * k + 1) (by rw [HY.out]; omega))
            · rw [show (↑k : Int).toNat = k from by omega]; exact (HCELL.out k (by rw [HY.out]; omega))
            rintro e w' ⟨rfl, d2, rfl⟩
            go_wp2_with fail
            go_ret
            exact FIN.out _ _ (HA.out.drewN _) (HO.out.drewN _) (down_stop HI.out (fun c h1 h2 h3 => by have := HLL.out; have := HS2.out; rcases (by omega : c = 2 * k + 1 ∨ c = 2 * k + 2) with rfl | rfl <;> omega))

      · by_cases hs : hget ys (2 * k + 1) < hget ys k
        · have hs1 : decide (hget ys (2 * k + 1) < hget ys k) = true := by simpa using hs
          have HS := Lib.hid hs1; clear hs1
          have HS2 := Lib.hid hs; clear hs
          go_wp2_with fail
          refine (less_is true g L cap _ _ (hget ys ((2 * k + 1))) (hget ys (k)) _ HS.out (by omega) (by omega) (by omega) (by omega) hml ?_ ?_).mono ?_
          · rw [show (2 * ↑k + 1 : Int).toNat = (2 * k + 1) from by omega]; exact (HCELL.out (2 * k + 1) (by rw [HY.out]; omega))
          · rw [show (↑k : Int).toNat = k from by omega]; exact (HCELL.out k (by rw [HY.out]; omega))
          rintro e w' ⟨rfl, d2, rfl⟩
          go_wp2_with fail
          refine (swap_heap' (HA.out.drewN _) HY.out _ _ (by omega) (by omega) (by omega) (by omega)).mono ?_
          rintro e w' ⟨rfl, ha', ho'⟩
          rw [show (2 * ↑k + 1 : Int).toNat = 2 * k + 1 from by omega, Int.toNat_natCast] at ha'
          have HST := Lib.hid (down_step (j := 2 * k + 1) HI.out (by omega) (by omega) (by omega) (by simpa using HS2.out) (fun c h1 h2 h3 => by obtain rfl : c = 2 * k + 1 := (by omega); omega))
          have hperm := (swapL_perm (ys := ys) (i := k) (j := 2 * k + 1) (by rw [HY.out]; omega) (by rw [HY.out]; omega)).trans HP.out
          have HP' := Lib.hid hperm
          have HA' := Lib.hid ha'
          have HK' := Lib.hid (keep_swap (k := k) (j := 2 * k + 1) (n := n) (by rw [HY.out]; omega) (by rw [HY.out]; omega) (by omega) (by omega) HK.out)
          have HL' := Lib.hid ((swapL_length ys k (2 * k + 1)).trans HY.out)
          have hoo := ((HO.out.drewN _).trans ho')
          have HO' := Lib.hid hoo
          clear ha' ho' hperm hoo
          go_wp2_with fail
          go_roundw
          case rel => exact ⟨2 * k + 1, _, by omega, by go_num, HL', HA', HP', HK', HST, HO'⟩
          case measure => simp [intOf]; omega

        · have hs1 : decide (hget ys (2 * k + 1) < hget ys k) = false := by simpa using hs
          have HS := Lib.hid hs1; clear hs1
          have HS2 := Lib.hid hs; clear hs
          go_wp2_with fail
          refine (less_is false g L cap _ _ (hget ys ((2 * k + 1))) (hget ys (k)) _ HS.out (by omega) (by omega) (by omega) (by omega) hml ?_ ?_).mono ?_
          · rw [show (2 * ↑k + 1 : Int).toNat = (2 * k + 1) from by omega]; exact (HCELL.out (2 * k + 1) (by rw [HY.out]; omega))
          · rw [show (↑k : Int).toNat = k from by omega]; exact (HCELL.out k (by rw [HY.out]; omega))
          rintro e w' ⟨rfl, d2, rfl⟩
          go_wp2_with fail
          go_ret
          exact FIN.out _ _ (HA.out.drewN _) (HO.out.drewN _) (down_stop HI.out (fun c h1 h2 h3 => by obtain rfl : c = 2 * k + 1 := (by omega); have := HS2.out; omega))
end Go.Proofs.Ythceiokibionkaa
