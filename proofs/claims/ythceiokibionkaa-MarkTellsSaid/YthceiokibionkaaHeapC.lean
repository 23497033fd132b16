/- container/heap over a marker's numbers: Push, Pop. -/
import Derived.Test.YthceiokibionkaaHeapB
import Derived.Test.YthceiokibionkaaMarkB
namespace Go.Proofs.Ythceiokibionkaa
open Go.RowKit

def PushPost (bm : Nat) (m1 m2 v : Value) (P : List Int → Prop) (w : World) (e : Ending) (w' : World) : Prop :=
  e = .returned (.tuple #[]) ∧ ∃ v' ys, HeapAt w' bm m1 m2 v' ys ∧ P ys ∧ Only (fun i => i = bm ∨ v.ownBlock = some i) w w' ∧ (∀ g, v'.ownBlock = some g → v.ownBlock = some g ∨ w.heap.size ≤ g)

theorem assert_int (x : Int) (w : World) : (Instr.typeAssert (.iface 3 (.int .i64 x)) 20 3 true).run Try.prog w = .ok (.tuple #[.int .i64 x, .bool true]) w := by kernel_rfl
set_option maxHeartbeats 1000000 in
theorem hpush_any (bm : Nat) (m1 m2 v : Value) (xs : List Int) (w : World) (x : Int) (h : HeapAt w bm m1 m2 v xs) (hbig : xs.length ≤ 1000000000) :
    Calls Try.prog 72 #[.pointer (some ⟨bm, 0, none⟩), .iface 3 (.int .i64 x)] w (PushPost bm m1 m2 v (fun ys => ys = xs ++ [x]) w) := by
  obtain ⟨i0, hi0, hz0, hz1, hz2⟩ := info_parts int_info
  have hcm := h.cell
  have hne := h.ne
  have hlt := h.lt
  have HNE := Lib.hid hne; clear hne
  have HH := Lib.hid h; clear h
  generalize hn : xs.length = n at *
  have HN := Lib.hid hn; clear hn
  have HOW : Hid (∀ o, (w.alloc o).ownsRow 0 3 1 v n (xs.map (Value.int .i64))) := by
    have h1 : ∀ o, (w.alloc o).ownsRow 0 3 1 v n (xs.map (Value.int .i64)) := fun o => by rw [← HN.out]; exact HH.out.own.alloc o
    exact h1
  have hta := assert_int x
  go_enter Try.func72, Try.ntmps72
  go_wp2_with (first
    | (at_builtin
       refine wpList_append_slice (F := fun _ => True) _ rfl (.tmp 15) (.tmp 17) _ rfl 0 3 i0 _ 1 8 Try.underlying47 hi0 hz0 hz1 hz2 rfl (by omega) v n _ rfl (HOW.out _) _ 1 [Value.int .i64 x] rfl ?c3 ?c4 ?c5 ?c6 ?c7 ?_
       case c3 => exact one_new _ _ _
       case c4 => intro u hu; simp at hu; subst hu; rfl
       case c5 => unfold maxLen; omega
       case c6 => omega
       case c7 => omega
       intro a1 c1 w1 ho1 hg1 hv1
       have hs1 := hg1.size
       have hbm1 : w1.heap[bm]? = some (.cells #[v, m1, m2] 50 (0, 0)) := (hg1.block bm (by simp; omega) (fun e => HNE.out e.symm)).trans ((Below.heap_alloc w _ bm hlt).trans HH.out.blk)
       have hcm1 : w1.cell? ⟨bm, 0, none⟩ = some v := by simp [World.cell?, hbm1]
       have hfm1 : w1.frozen? ⟨bm, 0, none⟩ = false := by simp [World.frozen?, hbm1]
       have HB1 := Lib.hid hbm1
       have HO1 := Lib.hid ho1
       have HG1 := Lib.hid hg1
       have HV1 := Lib.hid hv1
       clear hbm1 ho1 hg1 hv1))
  go_end0
  refine ⟨rfl, .slice a1 (n + 1) c1, xs ++ [x], ⟨?_, ?_⟩, rfl, ?_, ?_⟩
  · have e := HB1.out
    simp [World.setCell, Array.getElem?_modify, e]
  · have h1 := HO1.out
    have hl : (xs ++ [x]).length = n + 1 := by rw [List.length_append, HN.out]; rfl
    rw [hl, List.map_append]
    refine h1.kept (w' := _) (row := some bm) ⟨rfl, rfl, rfl, by simp [World.setCell], fun i _ hi => Below.heap_setCell _ _ _ i (fun e => hi (by rw [e]))⟩ (.inr ?_)
    intro e
    rcases HV1.out with h | h
    · exact HNE.out (by rw [← h]; exact e)
    · rw [e] at h; simp at h; omega
  · exact ((((Only.refl _ w).alloc _).grown HG1.out (fun g hg => .inl (.inr hg)))).setCell (p := ⟨bm, 0, none⟩) (.inl (.inl rfl)) _
  · intro g hg
    rcases HV1.out with h | h
    · exact .inl (by rw [← h]; exact hg)
    · rw [hg] at h; simp at h; exact .inr (by omega)

theorem HeapAt.slice {w : World} {bm : Nat} {m1 m2 v : Value} {xs : List Int} (h : HeapAt w bm m1 m2 v xs) : ∃ a c, v = .slice a xs.length c := by
  obtain ⟨a, c, e, _, _⟩ := ownsRow_slice h.own
  exact ⟨a, c, e⟩

set_option maxHeartbeats 1000000 in
theorem heapPush_any (bm : Nat) (m1 m2 v : Value) (xs : List Int) (w : World) (x : Int) (h : HeapAt w bm m1 m2 v xs) (hh : IsHeap xs xs.length) (hbig : xs.length ≤ 1000000000) :
    Calls Try.prog 28 #[.iface 57 (.pointer (some ⟨bm, 0, none⟩)), .iface 3 (.int .i64 x)] w (PushPost bm m1 m2 v (fun ys => ys.Perm (x :: xs) ∧ IsHeap ys ys.length) w) := by
  have hmp := m_push ⟨bm, 0, none⟩
  have H1 := Lib.hid (hpush_any bm m1 m2 v xs w x h hbig)
  have HB := Lib.hid hh
  clear hh
  go_enter Try.func28, Try.ntmps28
  go_wp2_with fail
  refine (H1.out).mono ?_
  rintro e w1 ⟨rfl, v1, ys, ha, rfl, ho, hb⟩
  obtain ⟨n, hn⟩ : ∃ n, xs.length = n := ⟨_, rfl⟩
  obtain ⟨a1, c1, e1⟩ := ha.slice
  have e2 : v1 = .slice a1 (n + 1) c1 := by rw [e1, List.length_append, hn]; rfl
  subst e2
  clear e1
  have hml := m_len ⟨bm, 0, none⟩ w1 _ _ _ ha.cell
  have H2 : Hid (UpInv (xs ++ [x]) n) := by rw [← hn]; exact up_begin HB.out
  have HO := Lib.hid ho
  have HBB := Lib.hid hb
  have HA := Lib.hid ha
  rw [hn] at hbig
  clear ho hb ha H1 HB hn
  go_wp2_with fail
  refine (len_any _ _ _ _).mono ?_
  rintro e w' ⟨rfl, rfl⟩
  go_wp2_with fail
  refine (up_any bm m1 m2 _ (xs ++ [x]) w1 _ (by omega) HA.out (by rw [Int.toNat_natCast]; exact H2.out)).mono ?_
  rintro e w2 ⟨rfl, zs, hz, hp, hheap, ho2⟩
  go_wp2_with fail
  go_end0
  refine ⟨rfl, _, zs, hz, ⟨hp.trans (List.perm_append_comm (l₁ := xs) (l₂ := [x])), hheap⟩, ?_, HBB.out⟩
  exact HO.out.trans_new ho2 fun i hi hlt => by
    rcases HBB.out i hi with h1 | h1
    · exact .inr h1
    · omega

def PopPost (bm : Nat) (m1 m2 v : Value) (xs : List Int) (w : World) (e : Ending) (w' : World) : Prop :=
  ∃ v' x ys, e = .returned (.iface 3 (.int .i64 x)) ∧ HeapAt w' bm m1 m2 v' ys ∧ xs.Perm (x :: ys) ∧ (∀ y ∈ xs, x ≤ y) ∧ IsHeap ys ys.length ∧ ys.length + 1 = xs.length ∧ Only (fun i => i = bm ∨ v.ownBlock = some i) w w' ∧ v'.ownBlock = v.ownBlock

set_option maxHeartbeats 1000000 in
theorem hpop_any (bm : Nat) (m1 m2 v : Value) (xs : List Int) (w : World) (n : Nat) (h : HeapAt w bm m1 m2 v xs) (hn : xs.length = n + 1) :
    Calls Try.prog 71 #[.pointer (some ⟨bm, 0, none⟩)] w fun e w' => e = .returned (.iface 3 (.int .i64 (hget xs n))) ∧ ∃ v', HeapAt w' bm m1 m2 v' (xs.take n) ∧ Only (fun i => i = bm) w w' ∧ v'.ownBlock = v.ownBlock := by
  obtain ⟨g, cap, rfl, hgb, hgs, hml, hcell, _⟩ := h.form (by omega)
  have hcn := hcell n (by omega)
  have HN := Lib.hid hn
  rw [hn] at h hml
  have hcm := h.cell
  have hfm := h.free
  have HH := Lib.hid h
  obtain ⟨_, _, e, hcap, _⟩ := ownsRow_slice h.own
  rw [hn] at e hcap
  simp only [Value.slice.injEq] at e
  obtain ⟨rfl, _, rfl⟩ := e
  clear hcell h hn
  go_enter Try.func71, Try.ntmps71
  go_wp2_with fail
  go_ret
  refine ⟨rfl, .slice (some ⟨g, 0, none⟩) n cap, ⟨?_, ?_⟩, (Only.refl (fun i => i = bm) w).setCell (p := ⟨bm, 0, none⟩) (.inl rfl) _, rfl⟩
  · have e := HH.out.blk
    simp [World.setCell, Array.getElem?_modify, e]
  · have h1 := HH.out.own
    have h2 : (w.setCell ⟨bm, 0, none⟩ (.slice (some ⟨g, 0, none⟩) n cap)).heap[g]? = w.heap[g]? := Below.heap_setCell _ _ _ g hgb
    rcases h1.2 with ⟨h, _⟩ | ⟨g', cap', cur, hv, _, hg, h3, h4, h5, h6⟩
    · cases h
    · simp only [Value.slice.injEq, Option.some.injEq, Addr.mk.injEq] at hv
      obtain ⟨⟨rfl, _⟩, _, rfl⟩ := hv
      have hl : (xs.take n).length = n := by rw [List.length_take, HN.out]; omega
      rw [hl]
      refine ⟨by rw [List.length_map, hl, Nat.mul_one], .inr ⟨g, cap, cur, rfl, Nat.zero_le _, h2.trans hg, by omega, h4, h5, ?_⟩⟩
      rw [List.map_take, ← h6, List.take_take]
      congr 1
      rw [HN.out]; omega

set_option maxHeartbeats 1000000 in
theorem heapPop_any (bm : Nat) (m1 m2 v : Value) (xs : List Int) (w : World) (h : HeapAt w bm m1 m2 v xs) (hh : IsHeap xs xs.length) (h0 : 0 < xs.length) (hbig : xs.length ≤ 1000000000) :
    Calls Try.prog 27 #[.iface 57 (.pointer (some ⟨bm, 0, none⟩))] w (PopPost bm m1 m2 v xs w) := by
  obtain ⟨n, hn⟩ : ∃ n, xs.length = n + 1 := ⟨xs.length - 1, by omega⟩
  obtain ⟨g, cap, rfl, hgb, hgs, hml, _, _⟩ := h.form h0
  have HN := Lib.hid hn
  rw [hn] at h hh hml hbig ⊢
  have hcm := h.cell
  have HH := Lib.hid h
  have HB := Lib.hid hh
  have hmpop := m_pop ⟨bm, 0, none⟩
  have hmlen := m_len ⟨bm, 0, none⟩ w _ _ _ hcm
  have hmswap := m_swap ⟨bm, 0, none⟩ w _ _ _ hcm
  clear h hn hcm h0
  go_enter Try.func27, Try.ntmps27
  go_wp2_with fail
  refine (len_any _ _ _ _).mono ?_
  rintro e w' ⟨rfl, rfl⟩
  go_wp2_with fail
  refine (swap_heap' HH.out HN.out _ _ (by omega) (by omega) (by omega) (by omega)).mono ?_
  rintro e w1 ⟨rfl, ha1, ho1⟩
  rw [Int.toNat_natCast, show (0 : Int).toNat = 0 from rfl] at ha1
  have HA1 := Lib.hid ha1
  have HO1 := Lib.hid ho1
  clear ha1 ho1
  go_wp2_with fail
  refine (down_any bm m1 m2 _ (swapL xs 0 n) w1 _ (by omega) HA1.out (by rw [Int.toNat_natCast]; exact down_begin (by rw [HN.out]; exact HB.out) HN.out) (by rw [swapL_length, HN.out]; omega) (by rw [swapL_length, HN.out]; omega)).mono ?_
  rintro e w2 ⟨⟨b, rfl⟩, ys, ha2, hl2, hp2, hheap, hlast, ho2⟩
  rw [Int.toNat_natCast] at hheap hlast
  rw [swapL_length, HN.out] at hl2
  have HA2 := Lib.hid ha2
  have HL2 := Lib.hid hl2
  have HP2 := Lib.hid hp2
  have HB2 := Lib.hid hheap
  have HLA := Lib.hid hlast
  have HO2 := Lib.hid ho2
  clear ha2 hl2 hp2 hheap hlast ho2
  go_wp2_with fail
  refine (hpop_any bm m1 m2 _ ys w2 n HA2.out HL2.out).mono ?_
  rintro e w3 ⟨rfl, v', ha3, ho3, hv'⟩
  have HA3 := Lib.hid ha3
  have HO3 := Lib.hid ho3
  have HV3 := Lib.hid hv'
  clear ha3 ho3 hv'
  go_wp2_with fail
  go_ret
  have hx0 : hget ys n = hget xs 0 := by
    rw [HLA.out, hget_swapL (by rw [HN.out]; omega) (by rw [HN.out]; omega), if_pos rfl]
  have hperm : ys.Perm xs := HP2.out.trans (swapL_perm (by rw [HN.out]; omega) (by rw [HN.out]; omega))
  have htl := take_last HL2.out
  refine ⟨v', hget ys n, ys.take n, rfl, HA3.out, ?_, ?_, HB2.out.take (by rw [HL2.out]; omega), ?_, ?_, HV3.out⟩
  · refine hperm.symm.trans ?_
    rw (occs := .pos [1]) [htl]
    exact List.perm_append_comm
  · intro y hy
    rw [hx0]
    obtain ⟨c, hc, hcy⟩ := List.mem_iff_getElem?.1 hy |>.imp fun c hc => (show c < xs.length ∧ hget xs c = y from ⟨(List.getElem?_eq_some_iff.1 hc).1, by simp [hget, List.getD, hc]⟩)
    rw [← hcy]
    exact heap_least HB.out c (by rw [← HN.out]; exact hc)
  · rw [List.length_take, HL2.out, HN.out, Nat.min_eq_left (by omega)]
  · have a1 : Only (fun i => i = bm ∨ (Value.slice (some ⟨g, 0, none⟩) (n + 1) cap).ownBlock = some i) w w1 := HO1.out.mono fun i hi => .inr (by rw [hi]; rfl)
    have a2 : Only (fun i => i = bm ∨ (Value.slice (some ⟨g, 0, none⟩) (n + 1) cap).ownBlock = some i) w1 w2 := HO2.out.mono fun i hi => .inr hi
    exact (a1.trans a2).trans (HO3.out.mono fun i hi => .inl hi)
end Go.Proofs.Ythceiokibionkaa
