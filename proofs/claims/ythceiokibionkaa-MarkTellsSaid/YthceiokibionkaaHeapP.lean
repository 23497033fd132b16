/- Heaps as lists: plain laws, no program. -/
import Derived.Test.YthceiokibionkaaBase
namespace Go.Proofs.Ythceiokibionkaa

def hget (ys : List Int) (k : Nat) : Int := ys.getD k 0
def swapL (ys : List Int) (i j : Nat) : List Int := (ys.set i (hget ys j)).set j (hget ys i)
theorem hget_some {ys : List Int} {k : Nat} (h : k < ys.length) : ys[k]? = some (hget ys k) := by simp [hget, List.getD, List.getElem?_eq_getElem h]
theorem swapL_length (ys : List Int) (i j : Nat) : (swapL ys i j).length = ys.length := by simp [swapL]
theorem hget_swapL {ys : List Int} {i j : Nat} (hi : i < ys.length) (hj : j < ys.length) (k : Nat) : hget (swapL ys i j) k = if k = j then hget ys i else if k = i then hget ys j else hget ys k := by
  unfold swapL hget
  simp only [List.getD]
  by_cases h1 : k = j
  · subst h1; simp [List.getElem?_set, hj]
  · by_cases h2 : k = i
    · subst h2
      rw [List.getElem?_set_ne (by omega)]
      simp [hi, h1]
    · rw [List.getElem?_set_ne (by omega), List.getElem?_set_ne (by omega)]
      simp [h1, h2]
theorem hget_mem {ys : List Int} {k : Nat} (h : k < ys.length) : hget ys k ∈ ys := List.mem_of_getElem? (hget_some h)
theorem ext_hget {xs ys : List Int} (hl : xs.length = ys.length) (h : ∀ k, k < xs.length → hget xs k = hget ys k) : xs = ys := by
  refine List.ext_getElem? fun k => ?_
  by_cases hk : k < xs.length
  · rw [hget_some hk, hget_some (by omega), h k hk]
  · rw [List.getElem?_eq_none (by omega), List.getElem?_eq_none (by omega)]
theorem count_set (ys : List Int) (i : Nat) (h : i < ys.length) (x a : Int) : (ys.set i x).count a + (if hget ys i = a then 1 else 0) = ys.count a + (if x = a then 1 else 0) := by
  induction ys generalizing i with
  | nil => simp at h
  | cons y r ih =>
    cases i with
    | zero => simp only [List.set_cons_zero, List.count_cons, hget, List.getD]; simp; omega
    | succ i =>
      have := ih i (by simpa using h)
      simp only [List.set_cons_succ, List.count_cons]
      have e : hget (y :: r) (i + 1) = hget r i := by simp [hget, List.getD]
      rw [e]; omega
theorem swapL_perm {ys : List Int} {i j : Nat} (hi : i < ys.length) (hj : j < ys.length) : (swapL ys i j).Perm ys := by
  rw [List.perm_iff_count]
  intro a
  have h1 := count_set ys i hi (hget ys j) a
  have h2 := count_set (ys.set i (hget ys j)) j (by simpa using hj) (hget ys i) a
  have e : hget (ys.set i (hget ys j)) j = if j = i then hget ys j else hget ys j := by
    unfold hget; simp only [List.getD]
    by_cases h : i = j
    · subst h; simp [hi]
    · rw [List.getElem?_set_ne h]; simp
  have e' : hget (ys.set i (hget ys j)) j = hget ys j := by rw [e]; split <;> rfl
  rw [e'] at h2
  unfold swapL
  omega

def IsHeap (ys : List Int) (n : Nat) : Prop := ∀ c, 1 ≤ c → c < n → hget ys ((c - 1) / 2) ≤ hget ys c
structure UpInv (ys : List Int) (j : Nat) : Prop where
  lt : j < ys.length
  far : ∀ c, 1 ≤ c → c < ys.length → c ≠ j → hget ys ((c - 1) / 2) ≤ hget ys c
  near : ∀ c, 1 ≤ c → c < ys.length → (c - 1) / 2 = j → 1 ≤ j → hget ys ((j - 1) / 2) ≤ hget ys c
theorem up_begin {xs : List Int} {x : Int} (h : IsHeap xs xs.length) : UpInv (xs ++ [x]) xs.length := by
  have e : ∀ k, k < xs.length → hget (xs ++ [x]) k = hget xs k := fun k hk => by simp [hget, List.getD, List.getElem?_append_left hk]
  refine ⟨by simp, fun c h1 h2 h3 => ?_, fun c h1 h2 h3 h4 => ?_⟩
  · simp at h2
    rw [e _ (by omega), e _ (by omega)]
    exact h c h1 (by omega)
  · simp at h2; omega
theorem up_stop {ys : List Int} {j : Nat} (h : UpInv ys j) (hs : j = 0 ∨ ¬ hget ys j < hget ys ((j - 1) / 2)) : IsHeap ys ys.length := by
  intro c h1 h2
  by_cases hc : c = j
  · subst hc
    rcases hs with hs | hs
    · omega
    · omega
  · exact h.far c h1 h2 hc
theorem up_step {ys : List Int} {j : Nat} (h : UpInv ys j) (hj : 1 ≤ j) (hs : hget ys j < hget ys ((j - 1) / 2)) : UpInv (swapL ys ((j - 1) / 2) j) ((j - 1) / 2) := by
  have hlt := h.lt
  have hi : (j - 1) / 2 < ys.length := by omega
  have e := hget_swapL hi hlt
  refine ⟨by rw [swapL_length]; exact hi, fun c h1 h2 h3 => ?_, fun c h1 h2 h3 h4 => ?_⟩
  · rw [swapL_length] at h2
    rw [e, e]
    by_cases hcj : c = j
    · subst hcj
      rw [if_neg (by omega), if_pos rfl, if_pos rfl]; omega
    · rw [if_neg hcj, if_neg h3]
      by_cases hp : (c - 1) / 2 = j
      · rw [if_pos hp]; exact h.near c h1 h2 hp hj
      · rw [if_neg hp]
        have hf := h.far c h1 h2 hcj
        by_cases hpi : (c - 1) / 2 = (j - 1) / 2
        · rw [if_pos hpi]; rw [hpi] at hf; omega
        · rw [if_neg hpi]; exact hf
  · rw [swapL_length] at h2
    have hpar : hget ys (((j - 1) / 2 - 1) / 2) ≤ hget ys ((j - 1) / 2) := h.far _ h4 hi (by omega)
    rw [e, e]
    rw [if_neg (show ((j - 1) / 2 - 1) / 2 ≠ j by omega), if_neg (show ((j - 1) / 2 - 1) / 2 ≠ (j - 1) / 2 by omega)]
    by_cases hcj : c = j
    · rw [if_pos hcj]; exact hpar
    · rw [if_neg hcj, if_neg (by omega)]
      have hf := h.far c h1 h2 hcj
      rw [h3] at hf; omega

structure DownInv (ys : List Int) (i n : Nat) : Prop where
  le : n ≤ ys.length
  far : ∀ c, 1 ≤ c → c < n → (c - 1) / 2 ≠ i → hget ys ((c - 1) / 2) ≤ hget ys c
  near : ∀ c, 1 ≤ c → c < n → (c - 1) / 2 = i → 1 ≤ i → hget ys ((i - 1) / 2) ≤ hget ys c
theorem down_stop {ys : List Int} {i n : Nat} (h : DownInv ys i n) (hs : ∀ c, 1 ≤ c → c < n → (c - 1) / 2 = i → hget ys i ≤ hget ys c) : IsHeap ys n := by
  intro c h1 h2
  by_cases hc : (c - 1) / 2 = i
  · rw [hc]; exact hs c h1 h2 hc
  · exact h.far c h1 h2 hc
theorem down_step {ys : List Int} {i n j : Nat} (h : DownInv ys i n) (hj1 : 1 ≤ j) (hjn : j < n) (hji : (j - 1) / 2 = i) (hs : hget ys j < hget ys i) (ho : ∀ c, 1 ≤ c → c < n → (c - 1) / 2 = i → hget ys j ≤ hget ys c) : DownInv (swapL ys i j) j n := by
  have hle := h.le
  have e := hget_swapL (ys := ys) (i := i) (j := j) (by omega) (by omega)
  refine ⟨by rw [swapL_length]; exact hle, fun c h1 h2 h3 => ?_, fun c h1 h2 h3 h4 => ?_⟩
  · rw [e, e]
    by_cases hp : (c - 1) / 2 = i
    · rw [if_neg (by omega), if_pos hp]
      by_cases hcj : c = j
      · rw [if_pos hcj]; omega
      · rw [if_neg hcj, if_neg (by omega)]; exact ho c h1 h2 hp
    · rw [if_neg (by omega), if_neg hp]
      rw [if_neg (show c ≠ j by rintro rfl; exact hp hji)]
      by_cases hci : c = i
      · rw [if_pos hci]
        have h5 := h.near j hj1 hjn hji (by omega)
        rw [hci]; exact h5
      · rw [if_neg hci]; exact h.far c h1 h2 hp
  · rw [e, e, hji, if_neg (by omega), if_pos rfl, if_neg (by omega), if_neg (by omega)]
    have := h.far c h1 h2 (by omega)
    rw [h3] at this; exact this
theorem heap_least {ys : List Int} {n : Nat} (h : IsHeap ys n) : ∀ c, c < n → hget ys 0 ≤ hget ys c := by
  intro c
  induction c using Nat.strongRecOn with
  | ind c ih =>
    intro hc
    rcases Nat.eq_zero_or_pos c with h0 | h0
    · subst h0; omega
    · have := h c h0 hc
      have := ih ((c - 1) / 2) (by omega) (by omega)
      omega
theorem down_begin {xs : List Int} {n : Nat} (h : IsHeap xs xs.length) (hn : xs.length = n + 1) : DownInv (swapL xs 0 n) 0 n := by
  have e := hget_swapL (ys := xs) (i := 0) (j := n) (by omega) (by omega)
  refine ⟨by rw [swapL_length]; omega, fun c h1 h2 h3 => ?_, fun c h1 h2 h3 h4 => by omega⟩
  rw [e, e, if_neg (by omega), if_neg (by omega), if_neg (by omega), if_neg (by omega)]
  exact h c h1 (by omega)
theorem IsHeap.take {ys : List Int} {n : Nat} (h : IsHeap ys n) (hn : n ≤ ys.length) : IsHeap (ys.take n) (ys.take n).length := by
  rw [List.length_take, Nat.min_eq_left hn]
  intro c h1 h2
  have e : ∀ k, k < n → hget (ys.take n) k = hget ys k := fun k hk => by simp [hget, List.getD, List.getElem?_take, hk]
  rw [e _ (by omega), e _ h2]; exact h c h1 h2
theorem take_last {ys : List Int} {n : Nat} (h : ys.length = n + 1) : ys = ys.take n ++ [hget ys n] := by
  have h1 := List.take_append_drop n ys
  have h2 : ys.drop n = [hget ys n] := by
    rw [List.drop_eq_getElem_cons (by omega), List.drop_of_length_le (by omega)]
    have := hget_some (ys := ys) (k := n) (by omega)
    rw [List.getElem?_eq_getElem (by omega)] at this
    simpa using this
  rw [h2] at h1; exact h1.symm
end Go.Proofs.Ythceiokibionkaa
