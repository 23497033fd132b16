/- A marker's first calls: awake; and calls of no marker. -/
import Derived.Test.YthceiokibionkaaRefB
namespace Go.Proofs.Ythceiokibionkaa
open Go.RowKit

theorem next_none (w : World) : Calls Try.prog 15 #[.pointer none] w fun e w' => e = .returned (.tuple #[.int .i64 0, .bool false]) ∧ w = w' := by
  go_enter Try.func15, Try.ntmps15
  go_wp2_with fail
  go_ret2
  exact ⟨rfl, rfl⟩
theorem done_none (w : World) : Calls Try.prog 16 #[.pointer none] w fun e w' => e = .returned (.bool true) ∧ w = w' := by
  go_enter Try.func16, Try.ntmps16
  go_wp2_with fail
  go_ret
  exact ⟨rfl, rfl⟩
theorem scan_none (id iv : Value) (w : World) : Calls Try.prog 11 #[.pointer none, id, iv] w fun e w' => e = .returned (.int .i64 1) ∧ w = w' := by
  go_enter Try.func11, Try.ntmps11
  go_wp2_with fail
  go_ret
  exact ⟨rfl, rfl⟩
theorem wrote_none (iv : Value) (w : World) : Calls Try.prog 13 #[.pointer none, iv] w fun e w' => e = .returned (.int .i64 1) ∧ w = w' := by
  go_enter Try.func13, Try.ntmps13
  go_wp2_with fail
  go_ret
  exact ⟨rfl, rfl⟩
theorem marked_none (w : World) : Calls Try.prog 19 #[.pointer none] w fun e w' => e = .returned (.slice none 0 0) ∧ w = w' := by
  go_enter Try.func19, Try.ntmps19
  go_wp2_with fail
  go_ret
  exact ⟨rfl, rfl⟩

/-- a marker that was made since w0 -/
structure St (w0 w : World) (bm : Nat) (G B : List Int) : Prop where
  ex : ∃ F, MarkSt w bm F G B ∧ ∀ i, F i → w0.heap.size ≤ i
  bel : Below w0.heap.size w0 w
theorem below_then {w0 w u : World} (h : Below w0.heap.size w0 w) (k : Below w.heap.size w u) : Below w0.heap.size w0 u := h.trans (k.mono h.size)
theorem St.later {w0 w u : World} {bm : Nat} {G B : List Int} (h : St w0 w bm G B) (hu : Below w.heap.size w u) : St w0 u bm G B := by
  obtain ⟨F, hm, hF⟩ := h.ex
  exact ⟨⟨F, hm.only (T := fun i => w.heap.size ≤ i) (Only.of_below hu) (fun i hi => by have := hm.lt i hi; show ¬ _; omega), hF⟩, below_then h.bel hu⟩
theorem St.drewN {w0 w : World} {bm : Nat} {G B : List Int} (h : St w0 w bm G B) (n : Nat) : St w0 (w.drewN n) bm G B := h.later ⟨rfl, rfl, rfl, Nat.le_refl _, fun _ _ => rfl⟩
theorem St.only {w0 w u : World} {bm : Nat} {G' B' : List Int} {F F' : Nat → Prop} (h : Below w0.heap.size w0 w) (hF : ∀ i, F i → w0.heap.size ≤ i) (hm : MarkSt u bm F' G' B') (ho : Only F w u) (hs : ∀ i, F' i → F i ∨ w.heap.size ≤ i) : St w0 u bm G' B' :=
  ⟨⟨F', hm, fun i hi => (hs i hi).elim (hF i) fun h1 => Nat.le_trans h.size h1⟩,
    ⟨ho.os.trans h.os, ho.tape.trans h.tape, ho.output.trans h.output, Nat.le_trans h.size ho.size, fun i hi => (ho.block i (Nat.lt_of_lt_of_le hi h.size) (fun h1 => by have := hF i h1; omega)).trans (h.block i hi)⟩⟩
section
variable {w0 w u : World} {bm : Nat} {G B ids : List Int} {iv : Value}
/-- a list that was made behind the marker's last call -/
structure Late (w u : World) (iv : Value) (ids : List Int) : Prop where
  bel : Below w.heap.size w u
  is : IntsR (fun i => w.heap.size ≤ i) u iv ids
theorem Late.nil (w : World) : Late w w (.slice none 0 0) [] := ⟨Below.refl _ _, IntsR.nil _ _⟩
theorem lit_ints (w : World) (xs : List Int) (n : Nat) (hn : xs.length = n) (hb : n ≤ 1000) : IntsR (fun i => w.heap.size ≤ i) (w.alloc (.cells (xs.map (Value.int .i64)).toArray 3)) (.slice (some ⟨w.heap.size, 0, none⟩) n n) xs := by
  subst hn
  refine ⟨by simp, _, _, rfl, Nat.le_refl _, by unfold maxLen; omega, fun _ => ⟨_, 0, rfl, Nat.le_refl _, by simp, fun j x hj => ?_⟩⟩
  have e : (w.alloc (.cells (xs.map (Value.int .i64)).toArray 3)).heap[w.heap.size]? = some (.cells (xs.map (Value.int .i64)).toArray 3 (0, 0)) := heap_alloc_new w _
  simp only [World.cell?, e, Nat.zero_add]
  simpa using hj
theorem lit_ints_at (w : World) (q : Nat) (hq : w.heap.size = q) (xs : List Int) (n : Nat) (hn : xs.length = n) (hb : n ≤ 1000) : IntsR (fun i => q ≤ i) (w.alloc (.cells (xs.map (Value.int .i64)).toArray 3)) (.slice (some ⟨q, 0, none⟩) n n) xs := by
  subst hq; exact lit_ints w xs n hn hb
theorem Late.lit (w : World) (xs : List Int) (n : Nat) (hn : xs.length = n) (hb : n ≤ 1000) : Late w (w.alloc (.cells (xs.map (Value.int .i64)).toArray 3)) (.slice (some ⟨w.heap.size, 0, none⟩) n n) xs :=
  ⟨(Below.refl _ _).alloc (Nat.le_refl _) _, lit_ints w xs n hn hb⟩
theorem St.scan (h : St w0 w bm G B) (hl : Late w u iv ids) (id : Int) (hg : id ∈ G) (hr : rightL ids = true) :
    Calls Try.prog 11 #[.pointer (some ⟨bm, 0, none⟩), .int .i64 id, iv] u fun e w' => e = .returned (.int .i64 0) ∧ St w0 w' bm (scanG G B id ids) (putL B id) := by
  obtain ⟨F, hm, hF⟩ := h.ex
  have hm1 := hm.only (T := fun i => w.heap.size ≤ i) (Only.of_below hl.bel) (fun i hi => by have := hm.lt i hi; show ¬ _; omega)
  refine (scan_any bm F _ G B id ids iv u hm1 hg hl.is (fun i hi h1 => by have := hm.lt i h1; have h2 : w.heap.size ≤ i := hi; omega) hr).mono ?_
  rintro e w' ⟨rfl, F', h1, h2, h3⟩
  exact ⟨rfl, St.only (below_then h.bel hl.bel) hF h1 h2 h3⟩
theorem St.wrote (h : St w0 w bm G B) (hl : Late w u iv ids) (hr : rightL ids = true) :
    Calls Try.prog 13 #[.pointer (some ⟨bm, 0, none⟩), iv] u fun e w' => e = .returned (.int .i64 0) ∧ St w0 w' bm (seeG G B ids) B := by
  obtain ⟨F, hm, hF⟩ := h.ex
  have hm1 := hm.only (T := fun i => w.heap.size ≤ i) (Only.of_below hl.bel) (fun i hi => by have := hm.lt i hi; show ¬ _; omega)
  refine (wrote_any bm F _ G B ids iv u hm1 hl.is (fun i hi h1 => by have := hm.lt i h1; have h2 : w.heap.size ≤ i := hi; omega) hr).mono ?_
  rintro e w' ⟨rfl, F', h1, h2, h3⟩
  exact ⟨rfl, St.only (below_then h.bel hl.bel) hF h1 h2 h3⟩
theorem St.scan_white (h : St w0 w bm G B) (hl : Below w.heap.size w u) (id : Int) (iv : Value) (hg : id ∉ G) :
    Calls Try.prog 11 #[.pointer (some ⟨bm, 0, none⟩), .int .i64 id, iv] u fun e w' => e = .returned (.int .i64 190) ∧ u = w' := by
  obtain ⟨F, hm, hF⟩ := (h.later hl).ex
  exact _root_.Go.Proofs.Ythceiokibionkaa.scan_white bm F G B id iv u hm hg
theorem St.next (h : St w0 w bm G B) :
    Calls Try.prog 15 #[.pointer (some ⟨bm, 0, none⟩)] w fun e w' => e = .returned (.tuple #[.int .i64 (nextI G), .bool (nextB G)]) ∧ St w0 w' bm G B := by
  obtain ⟨F, hm, hF⟩ := h.ex
  refine (next_any bm F G B w hm).mono ?_
  rintro e w' ⟨rfl, F', h1, h2, h3⟩
  exact ⟨rfl, St.only h.bel hF h1 h2 h3⟩
theorem St.done (h : St w0 w bm G B) : Calls Try.prog 16 #[.pointer (some ⟨bm, 0, none⟩)] w fun e w' => e = .returned (.bool G.isEmpty) ∧ w = w' := by
  obtain ⟨F, hm, hF⟩ := h.ex
  exact done_any bm F G B w hm
theorem St.next_is (h : St w0 w bm G B) (i : Int) (b : Bool) (hi : nextI G = i) (hb : nextB G = b) :
    Calls Try.prog 15 #[.pointer (some ⟨bm, 0, none⟩)] w fun e w' => e = .returned (.tuple #[.int .i64 i, .bool b]) ∧ St w0 w' bm G B := by subst hi hb; exact h.next
theorem St.done_is (h : St w0 w bm G B) (b : Bool) (hb : G.isEmpty = b) : Calls Try.prog 16 #[.pointer (some ⟨bm, 0, none⟩)] w fun e w' => e = .returned (.bool b) ∧ w = w' := by subst hb; exact h.done
theorem St.marked (h : St w0 w bm G B) : Calls Try.prog 19 #[.pointer (some ⟨bm, 0, none⟩)] w (MarkedPost G B w) := by
  obtain ⟨F, hm, hF⟩ := h.ex
  exact marked_any bm F G B w hm
theorem st_new (hl : Late w0 u iv ids) (hr : rightL ids = true) : Calls Try.prog 6 #[iv] u fun e w' => ∃ bm, e = .returned (.tuple #[.pointer (some ⟨bm, 0, none⟩), .int .i64 0]) ∧ St w0 w' bm (seeG [] [] ids) [] := by
  refine (new_any _ ids iv u hl.is hr).mono ?_
  rintro e w' ⟨bm, F', rfl, h1, h2, h3⟩
  exact ⟨bm, rfl, ⟨⟨F', h1, fun i hi => Nat.le_trans hl.bel.size (h3 i hi)⟩, below_then hl.bel h2⟩⟩
end

set_option maxRecDepth 100000 in
set_option maxHeartbeats 4000000 in
theorem awake_any (w : World) : Calls Try.prog 5 #[] w fun e w' => e = .returned (.bool true) ∧ Below w.heap.size w w' := by
  have L0 := Lib.hid (Late.lit w [5, 2] 2 rfl (by omega))
  go_enter Try.func5, Try.ntmps5
  go_wp2_with fail
  refine (st_new L0.out rfl).mono ?_
  rintro e w1 ⟨bm, rfl, h1⟩
  rw [show seeG [] [] [5, 2] = [2, 5] from rfl] at h1
  have H1 := Lib.hid h1; clear h1
  go_wp2_with fail
  refine (H1.out.next_is 2 true rfl rfl).mono ?_
  rintro e w2 ⟨rfl, h2⟩
  have H2 := Lib.hid h2; clear h2
  go_wp2_with fail
  refine (H2.out.scan (Late.lit w2 [7] 1 rfl (by omega)) 2 (by simp) rfl).mono ?_
  rintro e w3 ⟨rfl, h3⟩
  rw [show scanG [2, 5] [] 2 [7] = [5, 7] from rfl, show putL [] 2 = [2] from rfl] at h3
  have H3 := Lib.hid h3; clear h3
  go_wp2_with fail
  refine (H3.out.next_is 5 true rfl rfl).mono ?_
  rintro e w4 ⟨rfl, h4⟩
  have H4 := Lib.hid h4; clear h4
  go_wp2_with fail
  refine (H4.out.scan (Late.lit w4 [2, 5] 2 rfl (by omega)) 5 (by simp) rfl).mono ?_
  rintro e w5 ⟨rfl, h5⟩
  rw [show scanG [5, 7] [2] 5 [2, 5] = [7] from rfl, show putL [2] 5 = [2, 5] from rfl] at h5
  have H5 := Lib.hid h5; clear h5
  go_wp2_with fail
  refine (H5.out.next_is 7 true rfl rfl).mono ?_
  rintro e w6 ⟨rfl, h6⟩
  have H6 := Lib.hid h6; clear h6
  go_wp2_with fail
  refine (H6.out.done_is false rfl).mono ?_
  rintro e w' ⟨rfl, rfl⟩
  go_wp2_with fail
  refine (H6.out.scan (Late.nil w6) 7 (by simp) rfl).mono ?_
  rintro e w7 ⟨rfl, h7⟩
  rw [show scanG [7] [2, 5] 7 [] = [] from rfl, show putL [2, 5] 7 = [2, 5, 7] from rfl] at h7
  have H7 := Lib.hid h7; clear h7
  go_wp2_with fail
  refine (H7.out.done_is true rfl).mono ?_
  rintro e w' ⟨rfl, rfl⟩
  go_wp2_with fail
  refine H7.out.marked.mono ?_
  rintro e w8 ⟨mv, rfl, hmi, hb8⟩
  rw [show markedL [] [2, 5, 7] = [2, 5, 7] from rfl] at hmi
  have H8 := Lib.hid (H7.out.later hb8)
  have HMI := Lib.hid hmi
  have HB8 := Lib.hid hb8
  clear hmi hb8
  go_wp2_with fail
  refine (H8.out.scan_white (Below.refl _ _) 7 _ (by simp)).mono ?_
  rintro e w' ⟨rfl, rfl⟩
  go_wp2_with fail
  have hl8 : Late w8 _ _ [1] := Late.lit w8 [1] 1 rfl (by omega)
  obtain ⟨F7, hm7, hF7⟩ := H7.out.ex
  have hm8 := (hm7.only (T := fun i => w7.heap.size ≤ i) (Only.of_below HB8.out) (fun i hi => by have := hm7.lt i hi; show ¬ _; omega)).only (T := fun i => w8.heap.size ≤ i) (Only.of_below hl8.bel) (fun i hi => by have := hm7.lt i hi; have := HB8.out.size; show ¬ _; omega)
  have HW := Lib.hid (wrote_any bm F7 _ [] [2, 5, 7] [1] _ _ hm8 hl8.is (fun i hi h1 => by have := hm7.lt i h1; have := HB8.out.size; have h2 : w8.heap.size ≤ i := hi; omega) rfl)
  have HM7 := Lib.hid hm7
  have HF7 := Lib.hid hF7
  have HL8 := Lib.hid hl8
  clear hl8 hm7 hF7 hm8
  refine HW.out.mono ?_
  rintro e w9 ⟨rfl, F9, hm9, ho9, hs9⟩
  rw [show seeG [] [2, 5, 7] [1] = [1] from rfl] at hm9
  have HM9 := Lib.hid hm9
  have HO9 := Lib.hid ho9
  have HS9 := Lib.hid hs9
  have HNX := next_any bm F9 [1] [2, 5, 7] w9 hm9
  unfold NextPost at HNX
  rw [show nextI [1] = 1 from rfl, show nextB [1] = true from rfl] at HNX
  have HNX := Lib.hid HNX
  clear hm9 ho9 hs9 HW
  go_wp2_with fail
  refine HNX.out.mono ?_
  rintro e w10 ⟨rfl, F10, hm10, ho10, hs10⟩
  have hmv : IntsR (fun i => w7.heap.size ≤ i ∧ i < w8.heap.size) w10 mv [2, 5, 7] := by
    have h1 : IntsR (fun i => w7.heap.size ≤ i ∧ i < w8.heap.size) w8 mv [2, 5, 7] := HMI.out.mono fun i hi h => ⟨hi, h⟩
    have h2 := h1.below HL8.out.bel
    have h3 := h2.only HO9.out (fun i hi h => by have := HM7.out.lt i h; omega)
    refine h3.only ho10 (fun i hi h => ?_)
    rcases HS9.out i h with h | h
    · have := HM7.out.lt i h; omega
    · have := HL8.out.bel.size; omega
  have hb10 : Below w.heap.size w w10 := by
    have h8 := H8.out.bel
    have h8' := below_then h8 HL8.out.bel
    have hA := St.only (bm := bm) h8' HF7.out HM9.out HO9.out HS9.out
    have hF9 : ∀ i, F9 i → w.heap.size ≤ i := fun i hi => (HS9.out i hi).elim (HF7.out i) fun h => Nat.le_trans h8'.size h
    exact (St.only (bm := bm) hA.bel hF9 hm10 ho10 hs10).bel
  have HMV := Lib.hid hmv
  have HB10 := Lib.hid hb10
  clear hm10 ho10 hs10 hmv hb10
  go_wp2_with fail
  refine (wrote_bad _ [0] _ _ _ (lit_ints w10 [0] 1 rfl (by omega)) rfl).mono ?_
  rintro e w' ⟨rfl, rfl⟩
  go_wp2_with fail
  refine (new_bad _ [100001] _ _ (lit_ints_at (w10.alloc (.cells #[.int .i64 0] 3)) (w10.heap.size + 1) (by simp) [100001] 1 rfl (by omega)) rfl).mono ?_
  rintro e w' ⟨rfl, rfl⟩
  have hb11 : Below w10.heap.size w10 ((w10.alloc (.cells #[.int .i64 0] 3)).alloc (.cells ([100001].map (Value.int .i64)).toArray 3)) := ((Below.refl _ _).alloc (Nat.le_refl _) _).alloc (by simp) _
  obtain ⟨w11, hw11⟩ : ∃ w11, w11 = (w10.alloc (.cells #[.int .i64 0] 3)).alloc (.cells ([100001].map (Value.int .i64)).toArray 3) := ⟨_, rfl⟩
  rw [← hw11] at hb11 ⊢
  have HB11 := Lib.hid hb11
  clear hb11 hw11
  go_wp2_with fail
  refine (next_none _).mono ?_
  rintro e w' ⟨rfl, rfl⟩
  go_wp2_with fail
  have hn := nums_any _ _ mv _ (w11.alloc (.cells ([2, 5, 7].map (Value.int .i64)).toArray 3)) [2, 5, 7] [2, 5, 7] ((HMV.out.below HB11.out).alloc _) (lit_ints w11 [2, 5, 7] 3 rfl (by omega))
  rw [show numsL [2, 5, 7] [2, 5, 7] = true from rfl] at hn
  refine hn.mono ?_
  rintro e w12 ⟨rfl, d, rfl⟩
  clear hn
  go_wp2_with fail
  refine (done_none _).mono ?_
  rintro e w' ⟨rfl, rfl⟩
  go_wp2_with fail
  refine (scan_none _ _ _).mono ?_
  rintro e w' ⟨rfl, rfl⟩
  go_wp2_with fail
  refine (wrote_none _ _).mono ?_
  rintro e w' ⟨rfl, rfl⟩
  go_wp2_with fail
  refine (marked_none _).mono ?_
  rintro e w' ⟨rfl, rfl⟩
  go_wp2_with fail
  go_ret
  refine ⟨rfl, ?_⟩
  have h := (below_then HB10.out HB11.out).alloc (by have := (below_then HB10.out HB11.out).size; omega) (.cells ([2, 5, 7].map (Value.int .i64)).toArray 3)
  exact ⟨h.os, h.tape, h.output, h.size, h.block⟩
end Go.Proofs.Ythceiokibionkaa
