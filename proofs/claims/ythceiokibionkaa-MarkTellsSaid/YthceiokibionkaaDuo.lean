/- The program's marker and the document's, side by side: contracts. -/
import Derived.Test.YthceiokibionkaaEv
namespace Go.Proofs.Ythceiokibionkaa
open Go.RowKit

/-- both markers; M: their blocks -/
def Duo (w : World) (bm rm : Nat) (M : Nat → Prop) (G B G2 B2 : List Int) : Prop :=
  ∃ F R, MarkSt w bm F G B ∧ RefSt w rm R G2 B2 ∧ (∀ i, F i → ¬ R i) ∧ ∀ i, M i ↔ F i ∨ R i
section
variable {w w' : World} {bm rm : Nat} {M : Nat → Prop} {G B G2 B2 ids : List Int} {iv : Value}
theorem Duo.lt (h : Duo w bm rm M G B G2 B2) : ∀ i, M i → i < w.heap.size := by
  obtain ⟨F, R, h1, h2, h3, h4⟩ := h
  exact fun i hi => ((h4 i).1 hi).elim (h1.lt i) (h2.lt i)
theorem Duo.facts (h : Duo w bm rm M G B G2 B2) : Rise G ∧ Rise B ∧ (∀ x, x ∈ G → x ∉ B) ∧ (∀ x, x ∈ G ∨ x ∈ B → 1 ≤ x ∧ x ≤ 100000) := by
  obtain ⟨F, R, h1, _⟩ := h; exact h1.facts
theorem Duo.later (h : Duo w bm rm M G B G2 B2) (k : Below w.heap.size w w') : Duo w' bm rm M G B G2 B2 := by
  obtain ⟨F, R, h1, h2, h3, h4⟩ := h
  exact ⟨F, R, h1.later k, h2.only (T := fun i => w.heap.size ≤ i) (Only.of_below k) (fun i hi => by have := h2.lt i hi; show ¬ _; omega), h3, h4⟩
theorem Duo.drewN (h : Duo w bm rm M G B G2 B2) (n : Nat) : Duo (w.drewN n) bm rm M G B G2 B2 := h.later ⟨rfl, rfl, rfl, Nat.le_refl _, fun _ _ => rfl⟩
/-- the program's marker has gone on -/
theorem Duo.left {F F' R : Nat → Prop} {G' B' : List Int} (hR : RefSt w rm R G2 B2) (hd : ∀ i, F i → ¬ R i) (hM : ∀ i, M i ↔ F i ∨ R i) (h1 : MarkSt w' bm F' G' B') (ho : Only F w w') (hs : ∀ i, F' i → F i ∨ w.heap.size ≤ i) :
    ∃ M', Duo w' bm rm M' G' B' G2 B2 ∧ Ev M w M' w' := by
  refine ⟨fun i => F' i ∨ R i, ⟨F', R, h1, hR.only ho (fun i hi h => hd i h hi), fun i hi hR' => ?_, fun i => Iff.rfl⟩, ⟨ho.mono fun i hi => (hM i).2 (.inl hi), fun i hi => ?_⟩⟩
  · rcases hs i hi with h | h
    · exact hd i h hR'
    · have := hR.lt i hR'; omega
  · rcases hi with h | h
    · exact (hs i h).imp (fun h => (hM i).2 (.inl h)) (fun h => h)
    · exact .inl ((hM i).2 (.inr h))
/-- the document's has -/
theorem Duo.right {F R R' : Nat → Prop} {G' B' : List Int} (hF : MarkSt w bm F G B) (hd : ∀ i, F i → ¬ R i) (hM : ∀ i, M i ↔ F i ∨ R i) (hr : R rm) (h1 : RefSt w' rm R' G' B') (ho : Only (fun i => i = rm) w w') (hs : ∀ i, R' i → R i ∨ w.heap.size ≤ i) :
    ∃ M', Duo w' bm rm M' G B G' B' ∧ Ev M w M' w' := by
  refine ⟨fun i => F i ∨ R' i, ⟨F, R', hF.only ho (fun i hi h => hd i hi (by rw [h]; exact hr)), h1, fun i hi hR' => ?_, fun i => Iff.rfl⟩, ⟨ho.mono fun i hi => (hM i).2 (.inr (by rw [hi]; exact hr)), fun i hi => ?_⟩⟩
  · rcases hs i hR' with h | h
    · exact hd i hi h
    · have := hF.lt i hi; omega
  · rcases hi with h | h
    · exact .inl ((hM i).2 (.inl h))
    · exact (hs i h).imp (fun h => (hM i).2 (.inr h)) (fun h => h)
theorem RefSt.at_ {R : Nat → Prop} (h : RefSt w rm R G B) : R rm := by obtain ⟨_, _, _, h, _⟩ := h; exact h
end

/-- what a scan answers, and leaves -/
def scanE (G : List Int) (id : Int) (ids : List Int) : Int := if id ∈ G then (if rightL ids then 0 else 2) else 190
def scanG' (G B : List Int) (id : Int) (ids : List Int) : List Int := if id ∈ G then (if rightL ids then scanG G B id ids else G) else G
def scanB' (G B : List Int) (id : Int) (ids : List Int) : List Int := if id ∈ G then (if rightL ids then putL B id else B) else B
def wroteE (ids : List Int) : Int := if rightL ids then 0 else 2
def wroteG' (G B : List Int) (ids : List Int) : List Int := if rightL ids then seeG G B ids else G
section
variable {w w' : World} {bm rm : Nat} {M : Nat → Prop} {G B G2 B2 ids : List Int} {iv : Value}
theorem duo_scan (h : Duo w bm rm M G B G2 B2) (hi : Dat M w iv ids) (id : Int) :
    Calls Try.prog 11 #[.pointer (some ⟨bm, 0, none⟩), .int .i64 id, iv] w fun e w' => e = .returned (.int .i64 (scanE G id ids)) ∧ ∃ M', Duo w' bm rm M' (scanG' G B id ids) (scanB' G B id ids) G2 B2 ∧ Ev M w M' w' := by
  have h' := h
  obtain ⟨F, R, h1, h2, h3, h4⟩ := h
  unfold scanE scanG' scanB'
  by_cases hg : id ∈ G
  · simp only [hg, if_true]
    cases hr : rightL ids
    · refine (scan_bad bm F _ G B id ids iv w h1 hg hi hr).mono ?_
      rintro e w' ⟨rfl, rfl⟩
      exact ⟨rfl, M, h', Ev.refl _ _⟩
    · refine (scan_any bm F _ G B id ids iv w h1 hg hi (fun i hi h => hi ((h4 i).2 (.inl h))) hr).mono ?_
      rintro e w' ⟨rfl, F', k1, k2, k3⟩
      exact ⟨rfl, Duo.left h2 h3 h4 k1 k2 k3⟩
  · simp only [hg, if_false]
    refine (scan_white bm F G B id iv w h1 hg).mono ?_
    rintro e w' ⟨rfl, rfl⟩
    exact ⟨rfl, M, h', Ev.refl _ _⟩
theorem duo_rscan (h : Duo w bm rm M G2 B2 G B) (hi : Dat M w iv ids) (id : Int) (hG : Rise G) (hB : Rise B) (hrng : ∀ x, x ∈ G ∨ x ∈ B → 1 ≤ x ∧ x ≤ 100000) :
    Calls Try.prog 12 #[.pointer (some ⟨rm, 0, none⟩), .int .i64 id, iv] w fun e w' => e = .returned (.int .i64 (scanE G id ids)) ∧ ∃ M', Duo w' bm rm M' G2 B2 (scanG' G B id ids) (scanB' G B id ids) ∧ Ev M w M' w' := by
  have h' := h
  obtain ⟨F, R, h1, h2, h3, h4⟩ := h
  unfold scanE scanG' scanB'
  by_cases hg : id ∈ G
  · simp only [hg, if_true]
    cases hr : rightL ids
    · refine (rscan_bad rm R _ G B ids id iv w h2 hg hi hr).mono ?_
      rintro e w' ⟨rfl, rfl⟩
      exact ⟨rfl, M, h', Ev.refl _ _⟩
    · refine (rscan_any rm R _ G B ids id iv w h2 hg hi (fun i hi h => hi ((h4 i).2 (.inr (by rw [h]; exact h2.at_)))) hr hG hB hrng).mono ?_
      rintro e w' ⟨rfl, R', k1, k2, k3⟩
      exact ⟨rfl, Duo.right h1 h3 h4 h2.at_ k1 k2 k3⟩
  · simp only [hg, if_false]
    refine (rscan_white rm R G B id iv w h2 hg).mono ?_
    rintro e w' ⟨rfl, rfl⟩
    exact ⟨rfl, M, h', Ev.refl _ _⟩
theorem duo_wrote (h : Duo w bm rm M G B G2 B2) (hi : Dat M w iv ids) :
    Calls Try.prog 13 #[.pointer (some ⟨bm, 0, none⟩), iv] w fun e w' => e = .returned (.int .i64 (wroteE ids)) ∧ ∃ M', Duo w' bm rm M' (wroteG' G B ids) B G2 B2 ∧ Ev M w M' w' := by
  have h' := h
  obtain ⟨F, R, h1, h2, h3, h4⟩ := h
  unfold wroteE wroteG'
  cases hr : rightL ids
  · refine (wrote_bad _ ids iv _ w hi hr).mono ?_
    rintro e w' ⟨rfl, rfl⟩
    exact ⟨rfl, M, h', Ev.refl _ _⟩
  · refine (wrote_any bm F _ G B ids iv w h1 hi (fun i hi h => hi ((h4 i).2 (.inl h))) hr).mono ?_
    rintro e w' ⟨rfl, F', k1, k2, k3⟩
    exact ⟨rfl, Duo.left h2 h3 h4 k1 k2 k3⟩
theorem duo_rwrote (h : Duo w bm rm M G2 B2 G B) (hi : Dat M w iv ids) (hG : Rise G) (hrng : ∀ x, x ∈ G ∨ x ∈ B → 1 ≤ x ∧ x ≤ 100000) :
    Calls Try.prog 14 #[.pointer (some ⟨rm, 0, none⟩), iv] w fun e w' => e = .returned (.int .i64 (wroteE ids)) ∧ ∃ M', Duo w' bm rm M' G2 B2 (wroteG' G B ids) B ∧ Ev M w M' w' := by
  have h' := h
  obtain ⟨F, R, h1, h2, h3, h4⟩ := h
  unfold wroteE wroteG'
  cases hr : rightL ids
  · refine (rwrote_bad _ ids iv _ w hi hr).mono ?_
    rintro e w' ⟨rfl, rfl⟩
    exact ⟨rfl, M, h', Ev.refl _ _⟩
  · refine (rwrote_any rm R _ G B ids iv w h2 hi (fun i hi h => hi ((h4 i).2 (.inr (by rw [h]; exact h2.at_)))) hr hG (fun x hx => hrng x (.inl hx))).mono ?_
    rintro e w' ⟨rfl, R', k1, k2, k3⟩
    exact ⟨rfl, Duo.right h1 h3 h4 h2.at_ k1 k2 k3⟩
theorem duo_next (h : Duo w bm rm M G B G2 B2) : Calls Try.prog 15 #[.pointer (some ⟨bm, 0, none⟩)] w fun e w' => e = .returned (.tuple #[.int .i64 (nextI G), .bool (nextB G)]) ∧ ∃ M', Duo w' bm rm M' G B G2 B2 ∧ Ev M w M' w' := by
  obtain ⟨F, R, h1, h2, h3, h4⟩ := h
  refine (next_any bm F G B w h1).mono ?_
  rintro e w' ⟨rfl, F', k1, k2, k3⟩
  exact ⟨rfl, Duo.left h2 h3 h4 k1 k2 k3⟩
theorem duo_rnext (h : Duo w bm rm M G2 B2 G B) : Calls Try.prog 10 #[.pointer (some ⟨rm, 0, none⟩)] w fun e w' => e = .returned (.tuple #[.int .i64 (nextI G), .bool (nextB G)]) ∧ w = w' := by
  obtain ⟨F, R, h1, h2, h3, h4⟩ := h
  exact rnext_any rm R G B w h2
theorem duo_done (b : Bool) (h : Duo w bm rm M G B G2 B2) (hb : G.isEmpty = b) : Calls Try.prog 16 #[.pointer (some ⟨bm, 0, none⟩)] w fun e w' => e = .returned (.bool b) ∧ w = w' := by
  subst hb
  obtain ⟨F, R, h1, h2, h3, h4⟩ := h
  exact done_any bm F G B w h1
theorem duo_rdone (b : Bool) (h : Duo w bm rm M G2 B2 G B) (hb : G.isEmpty = b) : Calls Try.prog 17 #[.pointer (some ⟨rm, 0, none⟩)] w fun e w' => e = .returned (.bool b) ∧ w = w' := by
  subst hb
  obtain ⟨F, R, h1, h2, h3, h4⟩ := h
  exact rdone_any rm R G B w h2
theorem duo_marked (h : Duo w bm rm M G B G2 B2) : Calls Try.prog 19 #[.pointer (some ⟨bm, 0, none⟩)] w fun e w' => ∃ a n c, e = .returned (.slice a n c) ∧ IntsR (fun i => w.heap.size ≤ i) w' (.slice a n c) (markedL G B) ∧ Below w.heap.size w w' := by
  obtain ⟨F, R, h1, h2, h3, h4⟩ := h
  refine (marked_any bm F G B w h1).mono ?_
  rintro e w' ⟨v, rfl, hi, hb⟩
  obtain ⟨a, c, rfl, _⟩ := hi.open_
  exact ⟨_, _, _, rfl, hi, hb⟩
theorem duo_rmarked (h : Duo w bm rm M G2 B2 G B) (hB : Rise B) (hrng : ∀ x, x ∈ G ∨ x ∈ B → 1 ≤ x ∧ x ≤ 100000) : Calls Try.prog 20 #[.pointer (some ⟨rm, 0, none⟩)] w fun e w' => ∃ a n c, e = .returned (.slice a n c) ∧ IntsR (fun _ => True) w' (.slice a n c) (markedL G B) ∧ Below w.heap.size w w' := by
  obtain ⟨F, R, h1, h2, h3, h4⟩ := h
  refine (rmarked_any rm R G B w h2 hB hrng).mono ?_
  rintro e w' ⟨v, rfl, hi, hb⟩
  obtain ⟨a, c, rfl, _⟩ := hi.open_
  exact ⟨_, _, _, rfl, hi.mono fun _ _ _ => trivial, hb⟩
end
end Go.Proofs.Ythceiokibionkaa
