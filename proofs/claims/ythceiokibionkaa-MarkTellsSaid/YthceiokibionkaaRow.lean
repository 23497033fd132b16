/- What the given statements' readings say of memory: lists of ints, lists of calls. -/
import Derived.Test.YthceiokibionkaaRows
import Derived.Test.YthceiokibionkaaEv
import Derived.ProofKit
import Derived.Deep.Slices
import Derived.Deep.Fields
import Derived.ChangeSame
namespace Go.Proofs.Ythceiokibionkaa
open Go.ChangeShapes Go.WideShapes Go.ChangeAt Go.RowKit Go.Deep

theorem own : ownKnob Try.prog.godebug = none := by kernel_rfl
theorem laidOut : laidOutB Try.prog = true := by kernel_rfl
theorem cellsInt : Try.prog.cellsOf 3 = 1 := by kernel_rfl
theorem cellsCall : Try.prog.cellsOf 24 = 4 := by kernel_rfl

theorem i64_of_wf {x : Int} (h : (Lit.int .i64 x).wf = true) : -9223372036854775808 ≤ x ∧ x ≤ 9223372036854775807 := by
  simpa [Lit.wf, IntKind.min, IntKind.max, IntKind.signed, IntKind.bits] using h

section
variable {H : Type} {enc : TypeId × Value → H} {W : World}
theorem cell_lt {a : Addr} {v : Value} (h : W.cell? a = some v) : a.block < W.heap.size := by
  unfold World.cell? at h
  rcases Nat.lt_or_ge a.block W.heap.size with hlt | hge
  · exact hlt
  · rw [Array.getElem?_eq_none hge] at h; cases h
theorem cell_spot {a : Addr} {v : Value} (h : W.cell? a = some v) : a.spot = none := by
  unfold World.cell? at h
  split at h
  · split at h
    · cases h
    · rename_i h1; simpa using h1
  · cases h
/-- a list of ints, as it is read -/
theorem ints_read {v : Value} {fuel : Nat} {x : DataW H × List MemPlace} (h : DataW.trod enc Try.prog W 0 (fun _ => true) true fuel 22 [v] = some x) : ∃ xs, IntsR (fun i => i < W.heap.size) W v xs ∧ I64 xs := by
  rcases open_ints Try.underlying22 Try.underlying3 cellsInt h with ⟨hcs, hx⟩ | ⟨a, len, cap, zs, hcs, _, hl, hm, hz, hx, hcell, hwf⟩
  · simp at hcs; subst hcs
    exact ⟨[], IntsR.nil _ _, fun _ h => by cases h⟩
  · simp at hcs; subst hcs
    simp at hz
    have hlen : (zs.take len).length = len := by rw [List.length_take]; omega
    refine ⟨zs.take len, ⟨by simp, some a, cap, by rw [hlen], by omega, hm, fun hpos => ?_⟩, fun y hy => i64_of_wf (hwf y (List.mem_of_mem_take hy))⟩
    have h0 := hcell 0 (by omega)
    simp [Addr.add] at h0
    obtain ⟨b, off, sp⟩ := a
    have hsp := cell_spot h0
    simp at hsp
    subst hsp
    have hb := cell_lt h0
    refine ⟨b, off, rfl, hb, hb, fun j u hu => ?_⟩
    rw [List.getElem?_map] at hu
    obtain ⟨y, hy, rfl⟩ := Option.map_eq_some_iff.1 hu
    have hy2 := get_of_take hy
    have hj : j < zs.length := (List.getElem?_eq_some_iff.1 hy2).1
    have := hcell j hj
    have e : zs.getD j 0 = y := by simp [List.getD, hy2]
    rw [e] at this
    unfold Addr.add at this
    split at this
    · rename_i h; subst h; simpa using this
    · exact this

theorem open_slice_fields {P : Program} {base : Nat} {spare : Nat → Bool} {held : Bool} {t e : TypeId} {fs : Array Field} {fuel : Nat} {cs : List Value} {x : DataW H × List MemPlace} (ht : P.underlying t = some (.slice e)) (he : P.underlying e = some (.struct fs))
    (hone : oneCellFields P fs = true) (hC : P.cellsOf e = fs.size) (h : DataW.trod enc P W base spare held fuel t cs = some x) :
    (cs = [.slice none 0 0]) ∨
    ∃ (a : Addr) (len cap m : Nat), cs = [.slice (some a) len cap] ∧ len ≤ cap ∧ cap ≤ maxLen ∧ m = (if spare a.block then cap else len) ∧
      ∀ i, i < m → ∃ (n : Nat), ∀ (j : Nat) (f : Field), fs[j]? = some f → ∃ (v : Value) (y : DataW H × List MemPlace), W.cell? (a.add (i * fs.size + j)) = some v ∧ DataW.trod enc P W base spare held n f.type [v] = some y := by
  rcases open_slice ht h with h0 | ⟨a, len, cap, m, n, D, Pl, hcs, hb, hl, hm, hmm, hx, hi⟩
  · exact .inl h0.1
  · refine .inr ⟨a, len, cap, m, hcs, hl, hm, hmm, fun i him => ?_⟩
    obtain ⟨cs', hc, ht'⟩ := hi i him
    rw [hC] at hc
    obtain ⟨ys, n', hn', hy, hlen, hyl, hf⟩ := DataW.trod_struct he ht'
    obtain ⟨_, hcl, hat⟩ := World.cells?_some hc
    refine ⟨n', fun j f hj => ?_⟩
    obtain ⟨ho, hk⟩ := hone_of hone j f hj
    have hjl : j < fs.size := (Array.getElem?_eq_some_iff.1 hj).1
    have hcell := hat j hjl
    have hv : cs'[j]? = some (cs'[j]'(by omega)) := List.getElem?_eq_getElem (by omega)
    have h1 := hf j f hj
    rw [ho, hk] at h1
    have hone' : (cs'.drop j).take 1 = [cs'[j]'(by omega)] := by
      rw [List.drop_eq_getElem_cons (by omega)]
      rfl
    rw [hone'] at h1
    have hys : ys[j]? = some (ys[j]'(by omega)) := List.getElem?_eq_getElem (by omega)
    refine ⟨_, _, ?_, h1.trans hys⟩
    rw [← Go.Deep.add_add, hcell, hv]

theorem list_of_each {α : Type} {Q : Nat → α → Prop} : ∀ (n : Nat), (∀ i, i < n → ∃ c, Q i c) → ∃ cs : List α, cs.length = n ∧ ∀ j c, cs[j]? = some c → Q j c
  | 0, _ => ⟨[], rfl, fun j c h => by simp at h⟩
  | n + 1, h => by
    obtain ⟨cs, hl, hc⟩ := list_of_each n fun i hi => h i (by omega)
    obtain ⟨c, hcn⟩ := h n (by omega)
    refine ⟨cs ++ [c], by simp [hl], fun j d hj => ?_⟩
    by_cases hjn : j < n
    · rw [List.getElem?_append_left (by omega)] at hj
      exact hc j d hj
    · have hj2 : j < (cs ++ [c]).length := (List.getElem?_eq_some_iff.1 hj).1
      have : j = n := by simp [hl] at hj2; omega
      subst this
      rw [List.getElem?_append_right (by omega), hl] at hj
      simp at hj; subst hj; exact hcn
/-- a list of calls, as it is read -/
theorem calls_read {v : Value} {fuel : Nat} {x : DataW H × List MemPlace} (h : DataW.trod enc Try.prog W 0 (fun _ => true) true fuel 25 [v] = some x) : ∃ cs, CallsR W W.heap.size v cs := by
  rcases open_slice_fields Try.underlying25 Try.underlying24 (by kernel_rfl) cellsCall h with hcs | ⟨a, len, cap, m, hcs, hl, hm, hmm, hi⟩
  · simp at hcs; subst hcs
    exact ⟨[], none, 0, rfl, by simp, fun h => by simp at h⟩
  · simp at hcs; subst hcs
    simp at hmm
    obtain ⟨cs, hlen, hcs⟩ := list_of_each (Q := fun i (c : CallD) => (W.cell? (a.add (i * 4)) = some (.int .i64 c.kind) ∧ W.cell? (a.add (i * 4 + 1)) = some (.int .i64 c.id) ∧ W.cell? (a.add (i * 4 + 2)) = some c.lv ∧ W.cell? (a.add (i * 4 + 3)) = some (.bool c.odd)) ∧ IntsR (fun i => i < W.heap.size) W c.lv c.xs ∧ I64 c.xs ∧ I64 [c.kind, c.id]) len (fun i hil => by
      obtain ⟨n, hf⟩ := hi i (by omega)
      obtain ⟨v0, y0, c0, r0⟩ := hf 0 _ rfl
      obtain ⟨v1, y1, c1, r1⟩ := hf 1 _ rfl
      obtain ⟨v2, y2, c2, r2⟩ := hf 2 _ rfl
      obtain ⟨v3, y3, c3, r3⟩ := hf 3 _ rfl
      obtain ⟨k0, e0, _, w0⟩ := DataW.trod_int Try.underlying3 r0
      obtain ⟨k1, e1, _, w1⟩ := DataW.trod_int Try.underlying3 r1
      obtain ⟨k3, e3, _⟩ := DataW.trod_bool Try.underlying4 r3
      simp at e0 e1 e3
      subst e0 e1 e3
      obtain ⟨xs, hx, h64⟩ := ints_read r2
      exact ⟨⟨k0, k1, v2, xs, k3⟩, ⟨c0, c1, c2, c3⟩, hx, h64, fun y hy => by
        simp at hy
        rcases hy with rfl | rfl
        · exact i64_of_wf w0
        · exact i64_of_wf w1⟩)
    refine ⟨cs, some a, cap, by rw [hlen], by unfold maxLen at hm; omega, fun hpos => ?_⟩
    obtain ⟨c, hc⟩ : ∃ c, cs[0]? = some c := ⟨_, List.getElem?_eq_getElem hpos⟩
    have h0 := (hcs 0 c hc).1.1
    simp [Addr.add] at h0
    obtain ⟨b, off, sp⟩ := a
    have hsp := cell_spot h0
    simp at hsp
    subst hsp
    have hb := cell_lt h0
    have ea : ∀ k, (Addr.add ⟨b, off, none⟩ k) = ⟨b, off + k, none⟩ := fun k => by
      unfold Addr.add; split
      · rename_i h; subst h; rfl
      · rfl
    refine ⟨b, off, rfl, hb, fun j c hj => ?_⟩
    have := hcs j c hj
    simp only [ea] at this
    simpa only [Nat.add_assoc] using this
end
end Go.Proofs.Ythceiokibionkaa
