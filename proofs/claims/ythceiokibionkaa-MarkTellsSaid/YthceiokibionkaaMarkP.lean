/- Rising lists of numbers: plain laws, no program. -/
import Derived.Test.YthceiokibionkaaMarkB
namespace Go.Proofs.Ythceiokibionkaa

def Rise (xs : List Int) : Prop := xs.Pairwise (· < ·)
theorem mem_putL (x n : Int) : ∀ xs : List Int, x ∈ putL xs n ↔ x = n ∨ x ∈ xs
  | [] => by simp [putL]
  | a :: r => by
    simp only [putL]
    split
    · simp [mem_putL x n r]
      constructor
      · rintro (h | h | h) <;> simp [h]
      · rintro (h | h | h) <;> simp [h]
    · split
      · rename_i h; subst h; simp
      · simp
theorem rise_putL (n : Int) : ∀ xs : List Int, Rise xs → Rise (putL xs n)
  | [], _ => by simp [putL, Rise]
  | a :: r, h => by
    unfold Rise at h ⊢
    rw [List.pairwise_cons] at h
    simp only [putL]
    split
    · rw [List.pairwise_cons]
      refine ⟨fun y hy => ?_, rise_putL n r h.2⟩
      rcases (mem_putL y n r).1 hy with rfl | hy
      · assumption
      · exact h.1 y hy
    · split
      · exact List.pairwise_cons.2 h
      · rw [List.pairwise_cons]
        refine ⟨fun y hy => ?_, List.pairwise_cons.2 h⟩
        rcases List.mem_cons.1 hy with rfl | hy
        · omega
        · have := h.1 y hy; omega
theorem Rise.nodup {xs : List Int} (h : Rise xs) : xs.Nodup := by
  unfold Rise at h
  exact List.Pairwise.imp (fun hab => by omega) h
theorem rise_ext : ∀ {xs ys : List Int}, Rise xs → Rise ys → (∀ x, x ∈ xs ↔ x ∈ ys) → xs = ys
  | [], [], _, _, _ => rfl
  | [], y :: r, _, _, h => by have := (h y).2 (by simp); simp at this
  | x :: r, [], _, _, h => by have := (h x).1 (by simp); simp at this
  | x :: r, y :: s, hx, hy, h => by
    unfold Rise at hx hy
    rw [List.pairwise_cons] at hx hy
    have e : x = y := by
      rcases List.mem_cons.1 ((h x).1 (by simp)) with h1 | h1
      · exact h1
      · rcases List.mem_cons.1 ((h y).2 (by simp)) with h2 | h2
        · exact h2.symm
        · have := hx.1 y h2; have := hy.1 x h1; omega
    subst e
    rw [rise_ext hx.2 hy.2 fun z => ?_]
    constructor
    · intro hz
      rcases List.mem_cons.1 ((h z).1 (by simp [hz])) with h1 | h1
      · subst h1; have := hx.1 z hz; omega
      · exact h1
    · intro hz
      rcases List.mem_cons.1 ((h z).2 (by simp [hz])) with h1 | h1
      · subst h1; have := hy.1 z hz; omega
      · exact h1
theorem putL_of_mem {xs : List Int} {n : Int} (h : Rise xs) (hn : n ∈ xs) : putL xs n = xs :=
  rise_ext (rise_putL n xs h) h fun x => by rw [mem_putL]; constructor; · rintro (rfl | h) <;> assumption
                                            · exact .inr
theorem Rise.erase {xs : List Int} (h : Rise xs) (n : Int) : Rise (xs.filter (· ≠ n)) := List.Pairwise.filter _ h
/-- what has no number twice, and all from 1 to N, is no longer than N -/
theorem short_of_range : ∀ (N : Nat) (xs : List Int), xs.Nodup → (∀ x ∈ xs, 1 ≤ x ∧ x ≤ N) → xs.length ≤ N
  | 0, xs, _, h => by
    cases xs with
    | nil => simp
    | cons a r => have := h a (by simp); omega
  | N + 1, xs, hn, h => by
    have h1 := short_of_range N (xs.erase ((N : Int) + 1)) (hn.erase _) fun x hx => by
      have h2 := h x (List.mem_of_mem_erase hx)
      have h3 : x ≠ (N : Int) + 1 := fun e => by
        subst e
        exact (List.Nodup.not_mem_erase hn) hx
      omega
    have h4 := List.length_erase (a := ((N : Int) + 1)) (l := xs)
    split at h4 <;> omega

def seeG (G B : List Int) (ids : List Int) : List Int := ids.foldl (fun G x => if x ∈ B then G else putL G x) G
theorem seeG_step {G B ids : List Int} {k : Nat} {x : Int} (hx : ids[k]? = some x) : seeG G B (ids.take (k + 1)) = if x ∈ B then seeG G B (ids.take k) else putL (seeG G B (ids.take k)) x := by
  unfold seeG; rw [List.take_add_one, hx]; simp [List.foldl_append]
theorem mem_seeG (x : Int) (B : List Int) : ∀ (ids G : List Int), x ∈ seeG G B ids ↔ x ∈ G ∨ (x ∈ ids ∧ x ∉ B)
  | [], G => by simp [seeG]
  | a :: r, G => by
    have e : seeG G B (a :: r) = seeG (if a ∈ B then G else putL G a) B r := rfl
    rw [e, mem_seeG x B r]
    by_cases h : a ∈ B
    · simp only [h, if_true, List.mem_cons]
      constructor
      · rintro (h1 | ⟨h1, h2⟩)
        · exact .inl h1
        · exact .inr ⟨.inr h1, h2⟩
      · rintro (h1 | ⟨h1 | h1, h2⟩)
        · exact .inl h1
        · subst h1; exact absurd h h2
        · exact .inr ⟨h1, h2⟩
    · simp only [h, if_false, mem_putL, List.mem_cons]
      constructor
      · rintro ((h1 | h1) | ⟨h1, h2⟩)
        · subst h1; exact .inr ⟨.inl rfl, h⟩
        · exact .inl h1
        · exact .inr ⟨.inr h1, h2⟩
      · rintro (h1 | ⟨h1 | h1, h2⟩)
        · exact .inl (.inr h1)
        · exact .inl (.inl h1)
        · exact .inr ⟨h1, h2⟩
theorem rise_seeG (B : List Int) : ∀ (ids G : List Int), Rise G → Rise (seeG G B ids)
  | [], G, h => h
  | a :: r, G, h => by
    have e : seeG G B (a :: r) = seeG (if a ∈ B then G else putL G a) B r := rfl
    rw [e]
    refine rise_seeG B r _ ?_
    split
    · exact h
    · exact rise_putL a G h
end Go.Proofs.Ythceiokibionkaa
