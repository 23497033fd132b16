/- MarkTells: for every input the call returns true, and each argument reads behind it as it did. No condition. -/
import Derived.Test.YthceiokibionkaaTells
import Derived.Test.YthceiokibionkaaRow
import Derived.Lib.SmallJoins
namespace Go.Proofs.Ythceiokibionkaa.tells
open Go.ChangeShapes Go.WideShapes Go.ChangeAt Go.RowKit Go.Joins

set_option maxRecDepth 100000 in
theorem lifted (os : Os) (started : os.Started) (H : Type) (enc : TypeId × Value → H) :
    ReturnsInHanded {} Try.checked os 3 .any (Rows.markTellsSpec.pre6 enc Try.prog Try.f3 Rows.markTellsRow.domain false) (Rows.markTellsSpec.post enc Try.prog Try.f3 false true false false) := by
  refine returnsInHanded_of_change (C := Try.checked) own started (by kernel_rfl) Try.func3
    (ChangeSpec.witness6 (enc := enc) (C := Try.checked) false ⟨#[], #[.agg #[.int .i64 0, .int .i64 0, .slice none 0 0, .bool false], .slice none 0 0], []⟩ 8 (by kernel_rfl) (by kernel_rfl) (by kernel_rfl) (by kernel_rfl)) ?_
  intro W base args ds gs before hval0 hW hcnd _
  have hval : ∀ (j : Nat) t v, Try.f3.params[j]? = some t → args[j]? = some v → Value.okWide Try.prog W .any base t v := hval0
  have hW' := hW
  obtain ⟨p, q, hA0, hV, rfl, hfz, hnd⟩ := hW
  have hA : DataW.TrodAll enc Try.prog W 0 (fun _ => true) true Try.f3.params.toList args.toList ds p := hA0
  rw [Try.params3] at hA hval
  obtain ⟨v0, v1, d0, d1, p0, p1, rfl, rfl, rfl, h0, h1⟩ := trodAll_two hA
  obtain ⟨rfl, rfl⟩ := trodVars_none hV
  clear hA0 hval0
  simp only [List.append_nil] at hW'
  have hlt : ∀ x ∈ p0 ++ p1, x.block < W.heap.size := fun x hx => hW'.lt x hx
  have h0k := h0
  obtain ⟨a1, len1, cap1, rfl⟩ := okWide_slice Try.underlying25 (hval 1 25 v1 rfl rfl)
  obtain ⟨c0, c1, c2, c3, y0, y1, y2, y3, m, e0, _, _, r0, r1, r2, r3⟩ := open_agg4 Try.underlying24 (by kernel_rfl) cellsCall (hval 0 24 v0 rfl rfl) h0
  subst e0
  obtain ⟨fu1, hf1⟩ := h1
  obtain ⟨k0, q0, _, w0⟩ := DataW.trod_int Try.underlying3 r0
  obtain ⟨k1, q1, _, w1⟩ := DataW.trod_int Try.underlying3 r1
  obtain ⟨k3, q3, _⟩ := DataW.trod_bool Try.underlying4 r3
  simp at q0 q1 q3
  subst q0 q1 q3
  obtain ⟨xs, hx, hx64⟩ := ints_read r2
  obtain ⟨cs, hcs⟩ := calls_read (by simpa [Value.cells] using hf1)
  refine (tells_any W k0 k1 c2 _ k3 xs cs hx hx64 hcs).mono fun e W' ⟨he, hb⟩ => ?_
  subst he
  refine ⟨_, rfl, _, _, _, [], p0 ++ p1, [], hW', trodAll_mk1 (shut_bool Try.underlying4 _), ?_, rfl, hb.frame _, fun h => by cases h⟩
  exact trodAll_mk2 (Below.trod laidOut (by kernel_rfl) (of_decide_eq_true (by kernel_rfl)) h0k hb (fun x h => hlt x (List.mem_append.2 (.inl h)))) (Below.trod laidOut (by kernel_rfl) (of_decide_eq_true (by kernel_rfl)) ⟨fu1, hf1⟩ hb (fun x h => hlt x (List.mem_append.2 (.inr h))))

theorem holds : Rows.MarkTellsSaid :=
  OpenClaim.holds_of_wide 3 Try.f3 rfl rfl rfl rfl rfl rfl rfl ⟨rfl, rfl, rfl, rfl, rfl⟩ rfl rfl rfl rfl rfl (by kernel_rfl) Try.func3 (by kernel_rfl)
    (of_decide_eq_true (by kernel_rfl)) (by unfold Func.isWrapper; first | (rw [if_pos (by decide +kernel)]; kernel_rfl) | (rw [if_neg (by decide +kernel)]; exact ⟨rfl, rfl⟩))
    (fun os started H enc _ => lifted os started H enc)
#print axioms holds
end Go.Proofs.Ythceiokibionkaa.tells
