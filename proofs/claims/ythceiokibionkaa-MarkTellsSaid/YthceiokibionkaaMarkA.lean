/- Small functions of the marker's statements: pick, right, In, Nums, by their contracts. No condition but that lists are of a length that fits. -/
import Derived.Test.YthceiokibionkaaProg
import Derived.Test.YthceiokibionkaaBase
namespace Go.Proofs.Ythceiokibionkaa
open Go.RowKit

def pickN (c : Int) (n : Nat) : Nat := ((if c < 0 then -(c + 1) else c) % n).toNat
theorem pickN_lt (c : Int) (n : Nat) (h : 0 < n) : pickN c n < n := by
  unfold pickN
  have := Int.emod_lt_of_pos (if c < 0 then -(c + 1) else c) (show (0:Int) < n by omega)
  have := Int.emod_nonneg (if c < 0 then -(c + 1) else c) (show (n:Int) ≠ 0 by omega)
  omega

set_option maxHeartbeats 400000 in
theorem pick_any (c : Int) (n : Int) (w : World) (hc1 : -9223372036854775808 ≤ c) (hc2 : c ≤ 9223372036854775807) (hn : 1 ≤ n) (hn2 : n ≤ 1000000) :
    Calls Try.prog 9 #[.int .i64 c, .int .i64 n] w fun e w' => e = .returned (.int .i64 (pickN c n.toNat)) ∧ w = w' := by
  have e0 : ((pickN c n.toNat : Nat) : Int) = (if c < 0 then -(c + 1) else c) % n := by
    unfold pickN
    rw [Int.toNat_of_nonneg (a := n) (by omega)]
    exact Int.toNat_of_nonneg (Int.emod_nonneg _ (by omega))
  by_cases h : c < 0
  · rw [if_pos h] at e0
    have E := Lib.hid e0; clear e0
    go_enter Try.func9, Try.ntmps9
    go_wp2
    go_ret
    refine ⟨ret_int ?_, rfl⟩
    rw [E.out, ← Int.neg_tmod, Int.tmod_eq_emod_of_nonneg (by omega)]
  · rw [if_neg h] at e0
    have E := Lib.hid e0; clear e0
    go_enter Try.func9, Try.ntmps9
    go_wp2
    go_ret
    exact ⟨ret_int E.out.symm, rfl⟩

def rightL (xs : List Int) : Bool := xs.all fun x => decide (1 ≤ x ∧ x ≤ 100000)
theorem rightL_take {xs : List Int} {k : Nat} (h : rightL (xs.take k) = true) {x : Int} (hx : xs[k]? = some x) (hb : 1 ≤ x ∧ x ≤ 100000) : rightL (xs.take (k+1)) = true := by
  rw [List.take_add_one, hx]; unfold rightL at *; simp [List.all_append] at *; exact ⟨h, hb⟩
theorem rightL_no {xs : List Int} {k : Nat} {x : Int} (hx : xs[k]? = some x) (hb : ¬ (1 ≤ x ∧ x ≤ 100000)) : rightL xs = false := by
  unfold rightL; rw [List.all_eq_false]; exact ⟨x, List.mem_of_getElem? hx, by simpa using hb⟩
theorem rightL_mem {xs : List Int} (h : rightL xs = true) {x : Int} (hx : x ∈ xs) : 1 ≤ x ∧ x ≤ 100000 := by
  unfold rightL at h; rw [List.all_eq_true] at h; simpa using h x hx

set_option maxHeartbeats 400000 in
theorem right_any (F : Nat → Prop) (v : Value) (w : World) (xs : List Int) (hr : IntsR F w v xs) :
    Calls Try.prog 23 #[v] w fun e w' => e = .returned (.bool (rightL xs)) ∧ w = w' := by
  obtain ⟨a, cap, rfl, hcap, hm, hc⟩ := hr.open_
  have HC := Lib.hid hc; clear hc hr
  generalize hn : xs.length = n at *
  have HN := Lib.hid hn; clear hn
  go_enter Try.func23, Try.ntmps23
  go_wp2
  go_loop [4, 7] (fun _ i => ∃ k : Nat, k ≤ n ∧ i = .int .i64 k ∧ Hid (rightL (xs.take k) = true)) (fun _ i => n - (intOf i).toNat)
  case atStart => exact ⟨0, Nat.zero_le _, rfl, by exact (rfl : rightL (xs.take 0) = true)⟩
  case round =>
    obtain ⟨k, hk, rfl, hrt⟩ := hrel
    by_cases hlt : k < n
    · obtain ⟨b, off, rfl, _, _, hcell⟩ := HC.out (by omega)
      obtain ⟨x, hx⟩ : ∃ x, xs[k]? = some x := ⟨_, List.getElem?_eq_getElem (by rw [HN.out]; exact hlt)⟩
      have hcx := hcell k x hx
      have HX := Lib.hid hx
      clear hcell hx
      by_cases hb : x < 1
      · go_wp2
        go_ret
        exact ⟨by rw [rightL_no HX.out (by omega)]; rfl, rfl⟩
      · by_cases hb2 : 100000 < x
        · go_wp2
          go_ret
          exact ⟨by rw [rightL_no HX.out (by omega)]; rfl, rfl⟩
        · go_wp2
          go_round
          case rel => exact ⟨k + 1, by omega, by go_num, rightL_take hrt HX.out (by omega)⟩
          case measure => simp [intOf]; omega
    · go_wp2
      go_ret
      refine ⟨?_, rfl⟩
      have h1 := hrt.out
      rw [List.take_of_length_le (by rw [HN.out]; omega)] at h1
      rw [h1]; rfl

set_option maxHeartbeats 400000 in
theorem rright_any (F : Nat → Prop) (v : Value) (w : World) (xs : List Int) (hr : IntsR F w v xs) :
    Calls Try.prog 25 #[v] w fun e w' => e = .returned (.bool (rightL xs)) ∧ w = w' := by
  obtain ⟨a, cap, rfl, hcap, hm, hc⟩ := hr.open_
  have HC := Lib.hid hc; clear hc hr
  generalize hn : xs.length = n at *
  have HN := Lib.hid hn; clear hn
  go_enter Try.func25, Try.ntmps25
  go_wp2
  go_loop [3] (fun i => ∃ k : Nat, k ≤ n ∧ i = .int .i64 k ∧ Hid (rightL (xs.take k) = true)) (fun i => n - (intOf i).toNat)
  case atStart => exact ⟨0, Nat.zero_le _, rfl, by exact (rfl : rightL (xs.take 0) = true)⟩
  case round =>
    obtain ⟨k, hk, rfl, hrt⟩ := hrel
    by_cases hlt : k < n
    · obtain ⟨b, off, rfl, _, _, hcell⟩ := HC.out (by omega)
      obtain ⟨x, hx⟩ : ∃ x, xs[k]? = some x := ⟨_, List.getElem?_eq_getElem (by rw [HN.out]; exact hlt)⟩
      have hcx := hcell k x hx
      have HX := Lib.hid hx
      clear hcell hx
      by_cases hb : x < 1
      · go_wp2
        go_ret
        exact ⟨by rw [rightL_no HX.out (by omega)]; rfl, rfl⟩
      · by_cases hb2 : 100000 < x
        · go_wp2
          go_ret
          exact ⟨by rw [rightL_no HX.out (by omega)]; rfl, rfl⟩
        · go_wp2
          go_round
          case rel => exact ⟨k + 1, by omega, by go_num, rightL_take hrt HX.out (by omega)⟩
          case measure => simp [intOf]; omega
    · go_wp2
      go_ret
      refine ⟨?_, rfl⟩
      have h1 := hrt.out
      rw [List.take_of_length_le (by rw [HN.out]; omega)] at h1
      rw [h1]; rfl

set_option maxHeartbeats 400000 in
theorem in_any (F : Nat → Prop) (v : Value) (w : World) (xs : List Int) (n : Int) (hr : IntsR F w v xs) :
    Calls Try.prog 21 #[v, .int .i64 n] w fun e w' => e = .returned (.bool (decide (n ∈ xs))) ∧ w = w' := by
  obtain ⟨a, cap, rfl, hcap, hm, hc⟩ := hr.open_
  have HC := Lib.hid hc; clear hc hr
  generalize hn : xs.length = m at *
  have HN := Lib.hid hn; clear hn
  go_enter Try.func21, Try.ntmps21
  go_wp2
  go_loop [5] (fun i => ∃ k : Nat, k ≤ m ∧ i = .int .i64 k ∧ Hid (n ∉ xs.take k)) (fun i => m - (intOf i).toNat)
  case atStart => exact ⟨0, Nat.zero_le _, rfl, by exact (by simp : n ∉ xs.take 0)⟩
  case round =>
    obtain ⟨k, hk, rfl, hrt⟩ := hrel
    by_cases hlt : k < m
    · obtain ⟨b, off, rfl, _, _, hcell⟩ := HC.out (by omega)
      obtain ⟨x, hx⟩ : ∃ x, xs[k]? = some x := ⟨_, List.getElem?_eq_getElem (by rw [HN.out]; exact hlt)⟩
      have hcx := hcell k x hx
      have HX := Lib.hid hx
      clear hcell hx
      by_cases hb : x = n
      · subst hb
        go_wp2
        go_ret
        exact ⟨ret_bool (by simp [List.mem_of_getElem? HX.out]), rfl⟩
      · have hb' : (x == n) = false := by simpa using hb
        go_wp2
        go_round
        case rel => exact ⟨k + 1, by omega, by go_num, by
          have h1 : n ∉ xs.take (k+1) := by
            rw [List.take_add_one, HX.out]; simp; exact ⟨hrt.out, fun e => hb e.symm⟩
          exact h1⟩
        case measure => simp [intOf]; omega
    · go_wp2
      go_ret
      refine ⟨?_, rfl⟩
      have h1 := hrt.out
      rw [List.take_of_length_le (by rw [HN.out]; omega)] at h1
      exact ret_bool (by simp [h1])

def numsL (xs ys : List Int) : Bool := decide (xs = ys)
theorem take_eq_step {xs ys : List Int} {k : Nat} {x : Int} (h : xs.take k = ys.take k) (hx : xs[k]? = some x) (hy : ys[k]? = some x) : xs.take (k + 1) = ys.take (k + 1) := by
  rw [List.take_add_one, List.take_add_one, hx, hy, h]
set_option maxHeartbeats 400000 in
theorem nums_any (F G : Nat → Prop) (v u : Value) (w : World) (xs ys : List Int) (hx : IntsR F w v xs) (hy : IntsR G w u ys) :
    Calls Try.prog 18 #[v, u] w fun e w' => e = .returned (.bool (numsL xs ys)) ∧ ∃ n, w' = w.drewN n := by
  obtain ⟨a, cap, rfl, hcap, hm, hc⟩ := hx.open_
  obtain ⟨b, cap2, rfl, hcap2, hm2, hc2⟩ := hy.open_
  have HC := Lib.hid hc; clear hc hx
  have HD := Lib.hid hc2; clear hc2 hy
  by_cases hne : xs.length = ys.length
  · have HE := Lib.hid hne
    rw [← hne] at HD hcap2 ⊢
    clear hne
    generalize hn : xs.length = n at *
    have HN := Lib.hid hn; clear hn
    go_enter Try.func18, Try.ntmps18
    go_wp2
    go_loopw [5] (fun i wr => ∃ k : Nat, k ≤ n ∧ i = .int .i64 k ∧ Hid (xs.take k = ys.take k) ∧ ∃ d, wr = w.drewN d) (fun i _ => n - (intOf i).toNat)
    case atStart => exact ⟨0, Nat.zero_le _, rfl, by exact (by simp : xs.take 0 = ys.take 0), 0, rfl⟩
    case round =>
      obtain ⟨k, hk, rfl, hrt, d, rfl⟩ := hrel
      by_cases hlt : k < n
      · obtain ⟨b1, off1, rfl, _, _, hcell1⟩ := HC.out (by omega)
        obtain ⟨b2, off2, rfl, _, _, hcell2⟩ := HD.out (by omega)
        obtain ⟨x, hx⟩ : ∃ x, xs[k]? = some x := ⟨_, List.getElem?_eq_getElem (by rw [HN.out]; exact hlt)⟩
        obtain ⟨y, hy⟩ : ∃ x, ys[k]? = some x := ⟨_, List.getElem?_eq_getElem (by rw [← HE.out]; exact hlt)⟩
        have hcx := hcell1 k x hx
        have hcy := hcell2 k y hy
        have HX := Lib.hid hx
        have HY := Lib.hid hy
        have hi : (k : Int) < n := by omega
        clear hcell1 hcell2 hx hy
        by_cases hb : x = y
        · subst hb
          go_wp2
          go_quiet (fail)
          go_wp2
          go_roundw
          case rel => exact ⟨k + 1, by omega, by go_num, take_eq_step hrt HX.out HY.out, d + nq, by simp⟩
          case measure => simp [intOf]; omega
        · have hb' : (x != y) = true := by simpa using hb
          go_wp2
          go_quiet (fail)
          go_wp2
          go_ret
          refine ⟨ret_bool ?_, d + nq, by simp⟩
          unfold numsL
          symm
          simp only [decide_eq_false_iff_not]
          rintro rfl
          have h1 := HX.out
          rw [HY.out] at h1
          exact hb (by simpa using h1.symm)
      · go_wp2
        go_ret
        refine ⟨ret_bool ?_, _, rfl⟩
        have h1 := hrt.out
        rw [List.take_of_length_le (by rw [HN.out]; omega), List.take_of_length_le (by rw [← HE.out]; omega)] at h1
        simp [numsL, h1]
  · have hne1 : (((xs.length : Nat) : Int) != ((ys.length : Nat) : Int)) = true := by simpa using (by omega : ¬ (xs.length : Int) = ys.length)
    have HL := Lib.hid hne; clear hne
    generalize hn : xs.length = n at *
    generalize hn2 : ys.length = n2 at *
    have HN := Lib.hid hn; clear hn
    have HN2 := Lib.hid hn2; clear hn2
    go_enter Try.func18, Try.ntmps18
    go_wp2
    go_ret
    refine ⟨ret_bool ?_, 0, rfl⟩
    unfold numsL
    symm
    simp only [decide_eq_false_iff_not]
    rintro rfl
    exact HL.out (by rw [← HN.out, ← HN2.out])

/-! ### Put -/
def putL : List Int → Int → List Int
  | [], n => [n]
  | x :: r, n => if x < n then x :: putL r n else if x = n then x :: r else n :: x :: r
theorem putL_same {xs : List Int} {n : Int} {k : Nat} (h : ∀ y ∈ xs.take k, y < n) (hx : xs[k]? = some n) : putL xs n = xs := by
  induction xs generalizing k with
  | nil => simp at hx
  | cons a r ih =>
    cases k with
    | zero => simp at hx; subst hx; simp [putL]
    | succ k =>
      have ha : a < n := h a (by simp)
      simp only [putL, if_pos ha]
      rw [ih (k := k) (fun y hy => h y (by simp [hy])) (by simpa using hx)]
theorem putL_new {xs : List Int} {n : Int} {k : Nat} (hk : k ≤ xs.length) (h : ∀ y ∈ xs.take k, y < n) (hx : ∀ x, xs[k]? = some x → n < x) : putL xs n = xs.take k ++ (n :: xs.drop k) := by
  induction xs generalizing k with
  | nil => simp at hk; subst hk; simp [putL]
  | cons a r ih =>
    cases k with
    | zero =>
      have := hx a (by simp)
      have h1 : ¬ a < n := by omega
      have h2 : ¬ a = n := by omega
      simp [putL, h1, h2]
    | succ k =>
      have ha : a < n := h a (by simp)
      simp only [putL, if_pos ha]
      rw [ih (k := k) (by simpa using hk) (fun y hy => h y (by simp [hy])) (fun x hxx => hx x (by simpa using hxx))]
      simp
theorem putL_length (xs : List Int) (n : Int) : (putL xs n).length ≤ xs.length + 1 := by
  induction xs with
  | nil => simp [putL]
  | cons a r ih => 
    simp only [putL]
    split
    · simp; omega
    · split <;> simp

theorem int_info : (Try.prog.info? 3).map (fun i => (i.zero, i.size, i.bytes)) = some (some (.int .i64 0), 1, 8) := by kernel_rfl
theorem ints_one (xs : List Int) : ∀ u ∈ xs.map (Value.int .i64), u.oneCell' = true := by
  intro u hu; obtain ⟨x, _, rfl⟩ := List.mem_map.1 hu; rfl

set_option maxHeartbeats 1000000 in
theorem put_any (F : Nat → Prop) (v : Value) (w : World) (xs : List Int) (n : Int) (hr : IntsR F w v xs) (hF : ∀ i, F i → i < w.heap.size) (hl : xs.length ≤ 1000000000) :
    Calls Try.prog 22 #[v, .int .i64 n] w fun e w' => ∃ v', e = .returned v' ∧ IntsR (fun i => F i ∨ w.heap.size ≤ i) w' v' (putL xs n) ∧ Below w.heap.size w w' := by
  obtain ⟨i0, hi0, hz0, hz1, hz2⟩ := info_parts int_info
  obtain ⟨a, cap, rfl, hcap, hm, hc⟩ := hr.open_
  have HC := Lib.hid hc; clear hc
  have HR := Lib.hid hr; clear hr
  generalize hn : xs.length = m at *
  have HN := Lib.hid hn; clear hn
  go_enter Try.func22, Try.ntmps22
  go_wp2
  go_loop [5] (fun i => ∃ k : Nat, k ≤ m ∧ i = .int .i64 k ∧ Hid (∀ y ∈ xs.take k, y < n)) (fun i => m - (intOf i).toNat)
  case atStart => exact ⟨0, Nat.zero_le _, rfl, by exact (by simp : ∀ y ∈ xs.take 0, y < n)⟩
  case round =>
    obtain ⟨k, hk, rfl, hrt⟩ := hrel
    by_cases hgo : ∃ x, xs[k]? = some x ∧ x < n
    · obtain ⟨x, hx, hxn⟩ := hgo
      have hlt : k < m := by rw [← HN.out]; exact (List.getElem?_eq_some_iff.1 hx).1
      obtain ⟨b, off, rfl, _, _, hcell⟩ := HC.out (by omega)
      have hcx := hcell k x hx
      have HX := Lib.hid hx
      clear hcell hx
      go_wp2
      go_round
      case rel => exact ⟨k + 1, by omega, by go_num, by
          have h1 : ∀ y ∈ xs.take (k+1), y < n := by
            rw [List.take_add_one, HX.out]; simp; exact fun y hy => hy.elim (fun h => hrt.out y h) (fun h => h ▸ hxn)
          exact h1⟩
      case measure => simp [intOf]; omega
    · by_cases heq : xs[k]? = some n
      · have hlt : k < m := by rw [← HN.out]; exact (List.getElem?_eq_some_iff.1 heq).1
        obtain ⟨b, off, rfl, _, _, hcell⟩ := HC.out (by omega)
        have hcx := hcell k n heq
        have HX := Lib.hid heq
        clear hcell heq hgo
        have hnn : ¬ n < n := by omega
        go_wp2
        go_ret
        refine ⟨_, rfl, ?_, Below.refl _ _⟩
        rw [putL_same hrt.out HX.out]
        exact HR.out.mono fun i hi _ => .inl hi
      · have hnew : ∀ x, xs[k]? = some x → n < x := fun x hx => by
          have h1 : ¬ x < n := fun h => hgo ⟨x, hx, h⟩
          have h2 : x ≠ n := fun h => heq (h ▸ hx)
          omega
        have hput : putL xs n = xs.take k ++ (n :: xs.drop k) := putL_new (by rw [HN.out]; exact hk) hrt.out hnew
        have HP := Lib.hid hput
        have HW := Lib.hid hnew
        clear hgo heq hput hnew

        have fin : ∀ (v1 v2 v3 : Value) (w1 w2 w3 : World), w1.ownsRow w.heap.size 3 1 v1 (0 + k) ([] ++ (xs.take k).map (Value.int .i64)) → w.grownBy w1 none →
            (v1.ownBlock = none ∨ v1.ownBlock = some w.heap.size) → Below w.heap.size w w2 →
            w3.ownsRow w.heap.size 3 1 v3 (0 + k + 1 + (m - k)) ([] ++ (xs.take k).map (Value.int .i64) ++ [Value.int .i64 n] ++ (xs.drop k).map (Value.int .i64)) → w2.grownBy w3 v2.ownBlock → (∀ g, v2.ownBlock = some g → w.heap.size ≤ g) →
            IntsR (fun i => F i ∨ w.heap.size ≤ i) w3 v3 (putL xs n) ∧ Below w.heap.size w w3 := by
          intro v1 v2 v3 w1 w2 w3 ho1 hg1 hv1 hb2 ho3 hg3 hv2
          refine ⟨?_, hb2.grown hg3 hb2.size hv2⟩
          rw [HP.out]
          have h4 : w3.ownsRow w.heap.size 3 1 v3 (0 + k + 1 + (m - k)) ((xs.take k ++ (n :: xs.drop k)).map (Value.int .i64)) := by simpa using ho3
          refine (IntsR.of_own h4).mono fun i hi _ => .inr ?_
          exact (h4.lt i hi).1
        have FIN := Lib.hid fin; clear fin
        have HU : Hid (CellsR F w 1 (.slice a k cap) k ((xs.take k).map (Value.int .i64))) := by
          have h := HR.out.upto rfl (k := k) (by rw [HN.out]; exact hk)
          unfold IntsR at h
          rw [List.length_take, HN.out, Nat.min_eq_left hk] at h
          exact h
        by_cases hlt : k < m
        · obtain ⟨b, off, rfl, _, _, hcell⟩ := HC.out (by omega)
          obtain ⟨x, hx⟩ : ∃ x, xs[k]? = some x := ⟨_, List.getElem?_eq_getElem (by rw [HN.out]; exact hlt)⟩
          have hcx := hcell k x hx
          have hxn := HW.out x hx
          have hxn1 : ¬ x < n := by omega
          have hxn2 : (x == n) = false := by simpa using (by omega : ¬ x = n)
          clear hcell hx
          have HV : Hid (CellsR F w 1 (.slice (some ⟨b, off + k, none⟩) (m - k) (cap - k)) (m - k) ((xs.drop k).map (Value.int .i64))) := by
            have h := HR.out.from_ rfl (k := k) (by rw [HN.out]; exact hk)
            unfold IntsR at h
            rw [List.length_drop, HN.out, if_neg (by omega)] at h
            have e : (some (⟨b, off, none⟩ : Addr)).map (·.add k) = some ⟨b, off + k, none⟩ := by
              simp only [Option.map, Addr.add]; split <;> simp_all
            rw [e] at h
            exact h
          go_wp2_with (first
            | (at_builtin
               refine wpList_append_cells _ rfl (.const (.slice none 0 0)) (.tmp 36) _ rfl w.heap.size 3 i0 _ 1 8 Try.underlying22 hi0 hz0 hz1 hz2 rfl (by omega) (.slice none 0 0) 0 [] rfl (World.ownsRow_nil _ _ _ _) _ k ((xs.take k).map (Value.int .i64)) rfl HU.out (ints_one _) ?c1 ?c2 (Nat.le_refl _) ?_
               case c1 => unfold maxLen; omega
               case c2 => omega
               intro v1 w1 ho1 hg1 hv1
               have hb1 : Below w.heap.size w w1 := (Below.refl _ _).grown hg1 (Nat.le_refl _) (by simp [Value.ownBlock])
               have hs1 := hb1.size)
            | (at_builtin
               refine wpList_append_cells (F := fun _ => True) _ rfl (.tmp 38) (.tmp 40) _ rfl w.heap.size 3 i0 _ 1 8 Try.underlying22 hi0 hz0 hz1 hz2 rfl (by omega) v1 (0 + k) _ rfl (ho1.alloc _) _ 1 [Value.int .i64 n] rfl ?c3 ?c4 ?c5 ?c6 ?c7 ?_
               case c3 => exact ⟨rfl, _, _, rfl, Nat.le_refl _, by unfold maxLen; omega, fun _ => ⟨_, 0, rfl, trivial, by simp, fun j u hu => by
                  have hj : j = 0 := by have := (List.getElem?_eq_some_iff.1 hu).1; simp at this; omega
                  subst hj; simp at hu; subst hu; simp⟩⟩
               case c4 => intro u hu; simp at hu; subst hu; rfl
               case c5 => unfold maxLen; omega
               case c6 => omega
               case c7 => simp; omega
               intro v2 w2 ho2 hg2 hv2
               have hb2 : Below w.heap.size w w2 := (hb1.alloc hs1 _).grown hg2 (by simp; omega) (fun g hg => (ho1.lt g hg).1)
               have hs2 := hb2.size)
            | (at_builtin
               refine wpList_append_cells (F := F) _ rfl (.tmp 42) (.tmp 45) _ rfl w.heap.size 3 i0 _ 1 8 Try.underlying22 hi0 hz0 hz1 hz2 rfl (by omega) v2 (0 + k + 1) _ rfl ho2 _ (m - k) ((xs.drop k).map (Value.int .i64)) rfl ?c8 (ints_one _) ?c9 ?c10 hs2 ?_
               case c8 => exact (HV.out.below hb2)
               case c9 => unfold maxLen; omega
               case c10 => omega
               intro v3 w3 ho3 hg3 hv3))
          go_ret
          obtain ⟨f1, f2⟩ := FIN.out v1 v2 v3 w1 w2 w3 ho1 hg1 hv1 hb2 ho3 hg3 (fun g hg => (ho2.lt g hg).1)
          exact ⟨_, rfl, f1, f2⟩
        · have HV := Lib.hid ((HR.out.from_ rfl (k := k) (by rw [HN.out]; exact hk)).cells (n := m - k) (by rw [List.length_drop, HN.out]))
          go_wp2_with (first
            | (at_builtin
               refine wpList_append_cells _ rfl (.const (.slice none 0 0)) (.tmp 36) _ rfl w.heap.size 3 i0 _ 1 8 Try.underlying22 hi0 hz0 hz1 hz2 rfl (by omega) (.slice none 0 0) 0 [] rfl (World.ownsRow_nil _ _ _ _) _ k ((xs.take k).map (Value.int .i64)) rfl HU.out (ints_one _) ?d1 ?d2 (Nat.le_refl _) ?_
               case d1 => unfold maxLen; omega
               case d2 => omega
               intro v1 w1 ho1 hg1 hv1
               have hb1 : Below w.heap.size w w1 := (Below.refl _ _).grown hg1 (Nat.le_refl _) (by simp [Value.ownBlock])
               have hs1 := hb1.size)
            | (at_builtin
               refine wpList_append_cells (F := fun _ => True) _ rfl (.tmp 38) (.tmp 40) _ rfl w.heap.size 3 i0 _ 1 8 Try.underlying22 hi0 hz0 hz1 hz2 rfl (by omega) v1 (0 + k) _ rfl (ho1.alloc _) _ 1 [Value.int .i64 n] rfl ?d3 ?d4 ?d5 ?d6 ?d7 ?_
               case d3 => exact ⟨rfl, _, _, rfl, Nat.le_refl _, by unfold maxLen; omega, fun _ => ⟨_, 0, rfl, trivial, by simp, fun j u hu => by
                  have hj : j = 0 := by have := (List.getElem?_eq_some_iff.1 hu).1; simp at this; omega
                  subst hj; simp at hu; subst hu; simp⟩⟩
               case d4 => intro u hu; simp at hu; subst hu; rfl
               case d5 => unfold maxLen; omega
               case d6 => omega
               case d7 => simp; omega
               intro v2 w2 ho2 hg2 hv2
               have hb2 : Below w.heap.size w w2 := (hb1.alloc hs1 _).grown hg2 (by simp; omega) (fun g hg => (ho1.lt g hg).1)
               have hs2 := hb2.size)
            | (at_builtin
               refine wpList_append_cells (F := F) _ rfl (.tmp 42) (.tmp 45) _ rfl w.heap.size 3 i0 _ 1 8 Try.underlying22 hi0 hz0 hz1 hz2 rfl (by omega) v2 (0 + k + 1) _ rfl ho2 _ (m - k) ((xs.drop k).map (Value.int .i64)) rfl ?d8 (ints_one _) ?d9 ?d10 hs2 ?_
               case d8 => exact (HV.out.below hb2)
               case d9 => unfold maxLen; omega
               case d10 => omega
               intro v3 w3 ho3 hg3 hv3))
          all_goals
            go_ret
            obtain ⟨f1, f2⟩ := FIN.out v1 v2 v3 w1 w2 w3 ho1 hg1 hv1 hb2 ho3 hg3 (fun g hg => (ho2.lt g hg).1)
            exact ⟨_, rfl, f1, f2⟩
end Go.Proofs.Ythceiokibionkaa
