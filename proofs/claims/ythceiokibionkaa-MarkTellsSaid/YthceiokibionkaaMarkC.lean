/- The program's marker: its state in memory; see. -/
import Derived.Test.YthceiokibionkaaHeapC
import Derived.Test.YthceiokibionkaaMapA
import Derived.Test.YthceiokibionkaaMarkP
namespace Go.Proofs.Ythceiokibionkaa
open Go.RowKit

/-- the parts of a marker in memory -/
structure MarkParts (w : World) (bm : Nat) (F : Nat → Prop) (G B : List Int) (v : Value) (bg bb : Nat) (xs SG SB : List Int) : Prop where
  heap : HeapAt w bm (.map (some bg)) (.map (some bb)) v xs
  gs : SetAt w bg SG
  bs : SetAt w bb SB
  ne : bg ≠ bb
  mg : ∀ x, x ∈ SG ↔ x ∈ G
  mb : ∀ x, x ∈ SB ↔ x ∈ B
  sg : Rise G
  sb : Rise B
  dis : ∀ x, x ∈ G → x ∉ B
  hp : IsHeap xs xs.length
  hn : xs.Nodup
  hsub : ∀ x, x ∈ xs → x ∈ G ∨ x ∈ B
  hall : ∀ x, x ∈ G → x ∈ xs
  rng : ∀ x, x ∈ G ∨ x ∈ B → 1 ≤ x ∧ x ≤ 100000
  foot : ∀ i, F i ↔ i = bm ∨ i = bg ∨ i = bb ∨ v.ownBlock = some i
/-- a marker at block bm, whose blocks are F, that knows G grey and B black -/
def MarkSt (w : World) (bm : Nat) (F : Nat → Prop) (G B : List Int) : Prop := ∃ v bg bb xs SG SB, MarkParts w bm F G B v bg bb xs SG SB

section
variable {w w' : World} {bm : Nat} {F : Nat → Prop} {G B : List Int} {v : Value} {bg bb : Nat} {xs SG SB : List Int}
theorem MarkParts.short (h : MarkParts w bm F G B v bg bb xs SG SB) : xs.length ≤ 1000000000 := by
  have := short_of_range 100000 xs h.hn fun x hx => h.rng x (h.hsub x hx)
  omega
theorem MarkParts.bg_bm (h : MarkParts w bm F G B v bg bb xs SG SB) : bg ≠ bm := by
  rintro rfl
  obtain ⟨es, clk, hs, _⟩ := h.gs
  have := h.heap.blk
  rw [hs.1] at this; simp at this
theorem MarkParts.bb_bm (h : MarkParts w bm F G B v bg bb xs SG SB) : bb ≠ bm := by
  rintro rfl
  obtain ⟨es, clk, hs, _⟩ := h.bs
  have := h.heap.blk
  rw [hs.1] at this; simp at this
theorem own_ne_map {base : Nat} {e : TypeId} {size n : Nat} {ys : List Value} {b : Nat} {S : List Int} (h : w.ownsRow base e size v n ys) (hs : SetAt w b S) : v.ownBlock ≠ some b := by
  intro he
  obtain ⟨es, clk, hs, _⟩ := hs
  rcases h.2 with ⟨rfl, _⟩ | ⟨g, cap, cur, rfl, _, hg, _⟩
  · simp [Value.ownBlock] at he
  · have : g = b := by simpa [Value.ownBlock] using he
    subst this
    rw [hs.1] at hg; simp at hg
theorem MarkParts.lt (h : MarkParts w bm F G B v bg bb xs SG SB) : ∀ i, F i → i < w.heap.size := by
  intro i hi
  rcases (h.foot i).1 hi with rfl | rfl | rfl | hi
  · exact h.heap.lt
  · exact h.gs.lt
  · exact h.bs.lt
  · exact (h.heap.own.lt i hi).2
theorem MarkSt.lt (h : MarkSt w bm F G B) : ∀ i, F i → i < w.heap.size := by obtain ⟨_, _, _, _, _, _, h⟩ := h; exact h.lt
theorem MarkSt.only {T : Nat → Prop} (h : MarkSt w bm F G B) (ho : Only T w w') (hd : ∀ i, F i → ¬ T i) : MarkSt w' bm F G B := by
  obtain ⟨v, bg, bb, xs, SG, SB, h⟩ := h
  refine ⟨v, bg, bb, xs, SG, SB, ⟨h.heap.only ho (hd _ ((h.foot _).2 (.inl rfl))) (fun g hg => hd _ ((h.foot _).2 (.inr (.inr (.inr hg))))), h.gs.only ho (hd _ ((h.foot _).2 (.inr (.inl rfl)))), h.bs.only ho (hd _ ((h.foot _).2 (.inr (.inr (.inl rfl))))), h.ne, h.mg, h.mb, h.sg, h.sb, h.dis, h.hp, h.hn, h.hsub, h.hall, h.rng, h.foot⟩⟩
theorem MarkSt.drewN (h : MarkSt w bm F G B) (n : Nat) : MarkSt (w.drewN n) bm F G B := h.only (T := fun _ => False) ((Only.refl _ w).drewN n) (fun _ _ h => h)

/-- one white number is put into the grey map, then pushed -/
theorem MarkParts.grey_step {w1 : World} {x : Int} (h : MarkParts w bm F G B v bg bb xs SG SB) (hset : SetAt w1 bg (SG ++ [x])) (ho : Only (fun i => i = bg) w w1) (hg : x ∉ G) (hb : x ∉ B) (hx : 1 ≤ x ∧ x ≤ 100000) :
    HeapAt w1 bm (.map (some bg)) (.map (some bb)) v xs ∧
    ∀ (w2 : World) (v' : Value) (ys : List Int), HeapAt w2 bm (.map (some bg)) (.map (some bb)) v' ys → ys.Perm (x :: xs) → IsHeap ys ys.length → Only (fun i => i = bm ∨ v.ownBlock = some i) w1 w2 → (∀ g, v'.ownBlock = some g → v.ownBlock = some g ∨ w1.heap.size ≤ g) →
      ∃ F2, MarkSt w2 bm F2 (putL G x) B ∧ (∀ i, F2 i → F i ∨ w.heap.size ≤ i) ∧ Only F w w2 := by
  have e1 : HeapAt w1 bm (.map (some bg)) (.map (some bb)) v xs := h.heap.only ho (fun e => h.bg_bm e.symm) (fun g hg e => own_ne_map h.heap.own h.gs (by rw [hg, e]))
  refine ⟨e1, fun w2 v' ys ha hperm hheap ho2 hv' => ?_⟩
  have hnb : ∀ b S, SetAt w1 b S → b ≠ bm → ¬ (b = bm ∨ v.ownBlock = some b) := fun b S hs hne h1 => by
    rcases h1 with h1 | h1
    · exact hne h1
    · exact own_ne_map e1.own hs h1
  have hbs1 : SetAt w1 bb SB := h.bs.only ho (fun e => h.ne e.symm)
  have hxs : x ∉ xs := fun hx' => (h.hsub x hx').elim hg hb
  refine ⟨fun i => i = bm ∨ i = bg ∨ i = bb ∨ v'.ownBlock = some i, ⟨v', bg, bb, ys, SG ++ [x], SB, ⟨ha, hset.only ho2 (hnb _ _ hset h.bg_bm), hbs1.only ho2 (hnb _ _ hbs1 h.bb_bm), h.ne, ?_, h.mb, rise_putL x G h.sg, h.sb, ?_, hheap, ?_, ?_, ?_, ?_, fun i => Iff.rfl⟩⟩, ?_, ?_⟩
  · intro y; rw [mem_putL, List.mem_append, h.mg y]; simp; constructor
    · rintro (h1 | h1) <;> simp [h1]
    · rintro (h1 | h1) <;> simp [h1]
  · intro y hy
    rcases (mem_putL y x G).1 hy with rfl | hy
    · exact hb
    · exact h.dis y hy
  · exact hperm.nodup_iff.2 (List.nodup_cons.2 ⟨hxs, h.hn⟩)
  · intro y hy
    rcases List.mem_cons.1 (hperm.mem_iff.1 hy) with rfl | hy
    · exact .inl ((mem_putL y y G).2 (.inl rfl))
    · exact (h.hsub y hy).imp (fun h1 => (mem_putL y x G).2 (.inr h1)) id
  · intro y hy
    refine hperm.mem_iff.2 (List.mem_cons.2 ?_)
    rcases (mem_putL y x G).1 hy with rfl | hy
    · exact .inl rfl
    · exact .inr (h.hall y hy)
  · intro y hy
    rcases hy with hy | hy
    · rcases (mem_putL y x G).1 hy with rfl | hy
      · exact hx
      · exact h.rng y (.inl hy)
    · exact h.rng y (.inr hy)
  · rintro i (rfl | rfl | rfl | hi)
    · exact .inl ((h.foot _).2 (.inl rfl))
    · exact .inl ((h.foot _).2 (.inr (.inl rfl)))
    · exact .inl ((h.foot _).2 (.inr (.inr (.inl rfl))))
    · rcases hv' i hi with h1 | h1
      · exact .inl ((h.foot _).2 (.inr (.inr (.inr h1))))
      · have := ho.size; exact .inr (by omega)
  · exact (ho.mono fun i hi => (h.foot _).2 (.inr (.inl hi))).trans (ho2.mono fun i hi => (h.foot _).2 (hi.elim .inl fun h1 => .inr (.inr (.inr h1))))
end

def SeePost (bm : Nat) (F : Nat → Prop) (G B ids : List Int) (w : World) (e : Ending) (w' : World) : Prop :=
  e = .returned (.tuple #[]) ∧ ∃ F', MarkSt w' bm F' (seeG G B ids) B ∧ Only F w w' ∧ ∀ i, F' i → F i ∨ w.heap.size ≤ i

theorem map_nil_not (w : World) (r : Nat) : (binOp .eql 48 (.map (some r)) (.map none)).run Try.prog w = .ok (.bool false) w := run_eql_map_nil w _ _ _ (some r) Try.underlying48
theorem map_nil_is (w : World) : (binOp .eql 48 (.map none) (.map none)).run Try.prog w = .ok (.bool true) w := run_eql_map_nil w _ _ _ none Try.underlying48

set_option maxHeartbeats 2000000 in
theorem see_any (bm : Nat) (F Fi : Nat → Prop) (G B ids : List Int) (iv : Value) (w : World) (h : MarkSt w bm F G B) (hi : IntsR Fi w iv ids) (hd : ∀ i, Fi i → ¬ F i) (hr : rightL ids = true) :
    Calls Try.prog 24 #[.pointer (some ⟨bm, 0, none⟩), iv] w (SeePost bm F G B ids w) := by
  obtain ⟨a, cap, rfl, hcap, hm, hc⟩ := hi.open_
  have HC := Lib.hid hc; clear hc hi
  have HD := Lib.hid hd; clear hd
  have HR : Hid (∀ x ∈ ids, 1 ≤ x ∧ x ≤ 100000) := by
    have h1 : ∀ x ∈ ids, 1 ≤ x ∧ x ≤ 100000 := fun x hx => rightL_mem hr hx
    exact h1
  clear hr
  generalize hn : ids.length = n at *
  have HN := Lib.hid hn; clear hn
  have START : Hid (MarkSt w bm F (seeG G B (ids.take 0)) B) := h
  have ONLY0 : Hid (Only F w w) := Only.refl F w
  have SUB0 : Hid (∀ i, F i → F i ∨ w.heap.size ≤ i) := by
    have h1 : ∀ i, F i → F i ∨ w.heap.size ≤ i := fun i hi => .inl hi
    exact h1
  obtain ⟨v, bg, bb, xs, SG, SB, hst⟩ := h
  have hc1 : w.cell? ⟨bm, 1, none⟩ = some (.map (some bg)) := by simp [World.cell?, hst.heap.blk]
  have hq := fun w => map_nil_not w bg
  clear hst
  go_enter Try.func24, Try.ntmps24
  go_wp2_with fail
  go_loopw [5, 21] (fun _ iv wr => ∃ (k : Nat) (F' : Nat → Prop), k ≤ n ∧ iv = .int .i64 k ∧ Hid (MarkSt wr bm F' (seeG G B (ids.take k)) B) ∧ Hid (Only F w wr) ∧ Hid (∀ i, F' i → F i ∨ w.heap.size ≤ i) ∧ w.heap.size ≤ wr.heap.size) (fun _ iv _ => n - (intOf iv).toNat)
  case atStart => exact ⟨0, _, Nat.zero_le _, rfl, START, ONLY0, SUB0, by exact Nat.le_refl _⟩
  case round =>
    obtain ⟨k, F', hk, rfl, HS, HO, HSUB, hsz⟩ := hrel
    by_cases hlt : k < n
    · obtain ⟨b, off, rfl, hFb, hbl, hcell⟩ := HC.out (by omega)
      obtain ⟨x, hx⟩ : ∃ x, ids[k]? = some x := ⟨_, List.getElem?_eq_getElem (by rw [HN.out]; exact hlt)⟩
      have hcx : wr.cell? ⟨b, off + k, none⟩ = some (.int .i64 x) := by
        rw [HO.out.cell (p := ⟨b, off + k, none⟩) hbl (HD.out b hFb)]
        exact hcell k x hx
      have hxr := HR.out x (List.mem_of_getElem? hx)
      have HX := Lib.hid hx
      clear hcell hx hbl hFb
      obtain ⟨v, bg, bb, xs, SG, SB, hst⟩ := HS.out
      have hc1 : wr.cell? ⟨bm, 1, none⟩ = some (.map (some bg)) := by simp [World.cell?, hst.heap.blk]
      have hc2 : wr.cell? ⟨bm, 2, none⟩ = some (.map (some bb)) := by simp [World.cell?, hst.heap.blk]
      have hlg := hst.gs.lookup x
      have hlb := hst.bs.lookup x
      by_cases hg : x ∈ seeG G B (ids.take k)
      · have hg' : decide (x ∈ SG) = true := by simpa using (hst.mg x).2 hg
        rw [hg'] at hlg
        have HST : Hid (MarkSt wr bm F' (seeG G B (ids.take (k + 1))) B) := by
          rw [seeG_step HX.out, if_neg (hst.dis x hg), putL_of_mem hst.sg hg]; exact HS.out
        clear hst hlb hg hg'
        go_wp2_with fail
        go_roundw
        case rel => exact ⟨k + 1, F', by omega, by go_num, HST, HO, HSUB, hsz⟩
        case measure => simp [intOf]; omega
      · have hg' : decide (x ∈ SG) = false := by simpa using fun h => hg ((hst.mg x).1 h)
        rw [hg'] at hlg
        by_cases hb : x ∈ B
        · have hb' : decide (x ∈ SB) = true := by simpa using (hst.mb x).2 hb
          rw [hb'] at hlb
          have HST : Hid (MarkSt wr bm F' (seeG G B (ids.take (k + 1))) B) := by
            rw [seeG_step HX.out, if_pos hb]; exact HS.out
          clear hst hg hg' hb hb'
          go_wp2_with fail
          go_roundw
          case rel => exact ⟨k + 1, F', by omega, by go_num, HST, HO, HSUB, hsz⟩
          case measure => simp [intOf]; omega
        · have hb' : decide (x ∈ SB) = false := by simpa using fun h => hb ((hst.mb x).1 h)
          rw [hb'] at hlb
          obtain ⟨w1, hup, hset, honly⟩ := hst.gs.store x (fun h => hg ((hst.mg x).1 h))
          have hstep := hst.grey_step hset honly hg hb hxr
          have HSTEP := Lib.hid hstep
          have hpush := heapPush_any bm _ _ v xs w1 x hstep.1 hst.hp hst.short
          have HPUSH := Lib.hid hpush
          have HSG : Hid (seeG G B (ids.take (k + 1)) = putL (seeG G B (ids.take k)) x) := by
            rw [seeG_step HX.out, if_neg hb]; exact (rfl : putL (seeG G B (ids.take k)) x = _)
          have HW1 := Lib.hid honly
          clear hst hstep hpush hset honly hg hg' hb hb'
          go_wp2_with fail
          refine HPUSH.out.mono ?_
          rintro e w2 ⟨rfl, v', ys, ha, ⟨hperm, hheap⟩, ho2, hv'⟩
          obtain ⟨F2, hF2, hsub2, honly2⟩ := HSTEP.out.2 w2 v' ys ha hperm hheap ho2 hv'
          have HF2 : Hid (MarkSt w2 bm F2 (seeG G B (ids.take (k + 1))) B) := by rw [HSG.out]; exact hF2
          have HSUB2 : Hid (∀ i, F2 i → F i ∨ w.heap.size ≤ i) := by
            have h : ∀ i, F2 i → F i ∨ w.heap.size ≤ i := fun i hi => by
              rcases hsub2 i hi with h | h
              · exact HSUB.out i h
              · right; omega
            exact h
          have HO2 : Hid (Only F w w2) := by
            have h : Only F w w2 := HO.out.trans_new honly2 fun i hi hlt => by
              rcases HSUB.out i hi with h | h
              · exact h
              · omega
            exact h
          have hsz2 : w.heap.size ≤ w2.heap.size := HO2.out.size
          clear hF2 hsub2 honly2 ha hperm hheap ho2 hv' HPUSH HSTEP
          go_wp2_with fail
          go_roundw
          case rel => exact ⟨k + 1, F2, by omega, by go_num, HF2, HO2, HSUB2, hsz2⟩
          case measure => simp [intOf]; omega
    · go_wp2_with fail
      go_end0
      refine ⟨rfl, F', ?_, HO.out, HSUB.out⟩
      have h := HS.out
      rw [List.take_of_length_le (by rw [HN.out]; omega)] at h
      exact h

/-- a marker that was just made -/
def Fresh (w : World) (bm : Nat) : Prop := w.heap[bm]? = some (.cells #[.slice none 0 0, .map none, .map none] 50 (0, 0))
def freshTwo (w : World) (bm : Nat) : World := (((w.setCell ⟨bm, 1, none⟩ (.map (some w.heap.size))).setCell ⟨bm, 2, none⟩ (.map (some (w.heap.size + 1)))).alloc (.map #[] 0)).alloc (.map #[] 0)
theorem fresh_start {w : World} {bm : Nat} (h : Fresh w bm) : MarkSt (freshTwo w bm) bm (fun i => i = bm ∨ i = w.heap.size ∨ i = w.heap.size + 1) [] [] ∧ Only (fun i => i = bm) w (freshTwo w bm) := by
  have hlt : bm < w.heap.size := (Array.getElem?_eq_some_iff.1 h).1
  obtain ⟨u, hu⟩ : ∃ u, u = (w.setCell ⟨bm, 1, none⟩ (.map (some w.heap.size))).setCell ⟨bm, 2, none⟩ (.map (some (w.heap.size + 1))) := ⟨_, rfl⟩
  have hus : u.heap.size = w.heap.size := by rw [hu]; simp [World.setCell]
  have h1 : u.heap[bm]? = some (.cells #[.slice none 0 0, .map (some w.heap.size), .map (some (w.heap.size + 1))] 50 (0, 0)) := by
    unfold Fresh at h
    rw [hu]
    simp [World.setCell, Array.getElem?_modify, h]
  have e : freshTwo w bm = (u.alloc (.map #[] 0)).alloc (.map #[] 0) := by rw [hu]; rfl
  have s1 : SetAt (freshTwo w bm) w.heap.size [] := by
    rw [e, ← hus]; exact (SetAt.made u).same (Below.heap_alloc _ _ _ (by simp))
  have s2 : SetAt (freshTwo w bm) (w.heap.size + 1) [] := by
    have := SetAt.made (u.alloc (.map #[] 0))
    rw [e, ← hus]
    simpa using this
  refine ⟨⟨.slice none 0 0, w.heap.size, w.heap.size + 1, [], [], [], ⟨⟨?_, World.ownsRow_nil _ _ _ _⟩, s1, s2, by omega, by simp, by simp, List.Pairwise.nil, List.Pairwise.nil, by simp, fun c _ hc => by simp at hc, List.nodup_nil, by simp, by simp, by simp, fun i => by simp [Value.ownBlock]⟩⟩, ?_⟩
  · rw [e]
    exact (Below.heap_alloc _ _ bm (by simp; omega)).trans ((Below.heap_alloc u _ bm (by omega)).trans h1)
  · exact ((((Only.refl (fun i => i = bm) w).setCell (p := ⟨bm, 1, none⟩) (.inl rfl) _).setCell (p := ⟨bm, 2, none⟩) (.inl rfl) _).alloc _).alloc _

set_option maxHeartbeats 2000000 in
theorem see_fresh (bm : Nat) (Fi : Nat → Prop) (ids : List Int) (iv : Value) (w : World) (h : Fresh w bm) (hi : IntsR Fi w iv ids) (hd : ∀ i, Fi i → i ≠ bm) (hr : rightL ids = true) :
    Calls Try.prog 24 #[.pointer (some ⟨bm, 0, none⟩), iv] w (SeePost bm (fun i => i = bm) [] [] ids w) := by
  obtain ⟨a, cap, rfl, hcap, hm, hc⟩ := hi.open_
  have HC := Lib.hid hc; clear hc hi
  have HD := Lib.hid hd; clear hd
  have HR : Hid (∀ x ∈ ids, 1 ≤ x ∧ x ≤ 100000) := by
    have h1 : ∀ x ∈ ids, 1 ≤ x ∧ x ≤ 100000 := fun x hx => rightL_mem hr hx
    exact h1
  clear hr
  generalize hn : ids.length = n at *
  have HN := Lib.hid hn; clear hn
  obtain ⟨G, hG⟩ : ∃ G : List Int, G = [] := ⟨_, rfl⟩
  obtain ⟨B, hB⟩ : ∃ B : List Int, B = [] := ⟨_, rfl⟩
  obtain ⟨F, hF⟩ : ∃ F : Nat → Prop, F = fun i => i = bm := ⟨_, rfl⟩
  have hfs := fresh_start h
  have START : Hid (MarkSt (freshTwo w bm) bm (fun i => i = bm ∨ i = w.heap.size ∨ i = w.heap.size + 1) (seeG G B (ids.take 0)) B) := by subst hG hB; exact hfs.1
  have ONLY0 : Hid (Only F w (freshTwo w bm)) := by subst hF; exact hfs.2
  have SUB0 : Hid (∀ i, (i = bm ∨ i = w.heap.size ∨ i = w.heap.size + 1) → F i ∨ w.heap.size ≤ i) := by
    have h1 : ∀ i, (i = bm ∨ i = w.heap.size ∨ i = w.heap.size + 1) → F i ∨ w.heap.size ≤ i := fun i hi => by
      subst hF
      rcases hi with h | h | h
      · exact .inl h
      · exact .inr (by omega)
      · exact .inr (by omega)
    exact h1
  have HD : Hid (∀ i, Fi i → ¬ F i) := by subst hF; exact HD.out
  have hlt : bm < w.heap.size := (Array.getElem?_eq_some_iff.1 h).1
  have goal_ : Calls Try.prog 24 #[.pointer (some ⟨bm, 0, none⟩), .slice a n cap] w (SeePost bm F G B ids w) := by
    have hc1 : w.cell? ⟨bm, 1, none⟩ = some (.map none) := by unfold Fresh at h; simp [World.cell?, h]
    have hc2 : w.cell? ⟨bm, 2, none⟩ = some (.map none) := by unfold Fresh at h; simp [World.cell?, h]
    have hf1 : w.frozen? ⟨bm, 1, none⟩ = false := by unfold Fresh at h; simp [World.frozen?, h]
    have hf2 : w.frozen? ⟨bm, 2, none⟩ = false := by unfold Fresh at h; simp [World.frozen?, h]
    have hq := map_nil_is
    have hmm := @run_makeMap Try.prog
    clear hfs h hG hB hF
    go_enter Try.func24, Try.ntmps24
    go_wp2_with fail
    go_loopw [5, 21] (fun _ iv wr => ∃ (k : Nat) (F' : Nat → Prop), k ≤ n ∧ iv = .int .i64 k ∧ Hid (MarkSt wr bm F' (seeG G B (ids.take k)) B) ∧ Hid (Only F w wr) ∧ Hid (∀ i, F' i → F i ∨ w.heap.size ≤ i) ∧ w.heap.size ≤ wr.heap.size) (fun _ iv _ => n - (intOf iv).toNat)
    case atStart => exact ⟨0, _, Nat.zero_le _, rfl, START, ONLY0, SUB0, by simp [World.setCell]; omega⟩
    case round =>
      obtain ⟨k, F', hk, rfl, HS, HO, HSUB, hsz⟩ := hrel
      by_cases hlt : k < n
      · obtain ⟨b, off, rfl, hFb, hbl, hcell⟩ := HC.out (by omega)
        obtain ⟨x, hx⟩ : ∃ x, ids[k]? = some x := ⟨_, List.getElem?_eq_getElem (by rw [HN.out]; exact hlt)⟩
        have hcx : wr.cell? ⟨b, off + k, none⟩ = some (.int .i64 x) := by
          rw [HO.out.cell (p := ⟨b, off + k, none⟩) hbl (HD.out b hFb)]
          exact hcell k x hx
        have hxr := HR.out x (List.mem_of_getElem? hx)
        have HX := Lib.hid hx
        clear hcell hx hbl hFb
        obtain ⟨v, bg, bb, xs, SG, SB, hst⟩ := HS.out
        have hc1 : wr.cell? ⟨bm, 1, none⟩ = some (.map (some bg)) := by simp [World.cell?, hst.heap.blk]
        have hc2 : wr.cell? ⟨bm, 2, none⟩ = some (.map (some bb)) := by simp [World.cell?, hst.heap.blk]
        have hlg := hst.gs.lookup x
        have hlb := hst.bs.lookup x
        by_cases hg : x ∈ seeG G B (ids.take k)
        · have hg' : decide (x ∈ SG) = true := by simpa using (hst.mg x).2 hg
          rw [hg'] at hlg
          have HST : Hid (MarkSt wr bm F' (seeG G B (ids.take (k + 1))) B) := by
            rw [seeG_step HX.out, if_neg (hst.dis x hg), putL_of_mem hst.sg hg]; exact HS.out
          clear hst hlb hg hg'
          go_wp2_with fail
          go_roundw
          case rel => exact ⟨k + 1, F', by omega, by go_num, HST, HO, HSUB, hsz⟩
          case measure => simp [intOf]; omega
        · have hg' : decide (x ∈ SG) = false := by simpa using fun h => hg ((hst.mg x).1 h)
          rw [hg'] at hlg
          by_cases hb : x ∈ B
          · have hb' : decide (x ∈ SB) = true := by simpa using (hst.mb x).2 hb
            rw [hb'] at hlb
            have HST : Hid (MarkSt wr bm F' (seeG G B (ids.take (k + 1))) B) := by
              rw [seeG_step HX.out, if_pos hb]; exact HS.out
            clear hst hg hg' hb hb'
            go_wp2_with fail
            go_roundw
            case rel => exact ⟨k + 1, F', by omega, by go_num, HST, HO, HSUB, hsz⟩
            case measure => simp [intOf]; omega
          · have hb' : decide (x ∈ SB) = false := by simpa using fun h => hb ((hst.mb x).1 h)
            rw [hb'] at hlb
            obtain ⟨w1, hup, hset, honly⟩ := hst.gs.store x (fun h => hg ((hst.mg x).1 h))
            have hstep := hst.grey_step hset honly hg hb hxr
            have HSTEP := Lib.hid hstep
            have hpush := heapPush_any bm _ _ v xs w1 x hstep.1 hst.hp hst.short
            have HPUSH := Lib.hid hpush
            have HSG : Hid (seeG G B (ids.take (k + 1)) = putL (seeG G B (ids.take k)) x) := by
              rw [seeG_step HX.out, if_neg hb]; exact (rfl : putL (seeG G B (ids.take k)) x = _)
            have HW1 := Lib.hid honly
            clear hst hstep hpush hset honly hg hg' hb hb'
            go_wp2_with fail
            refine HPUSH.out.mono ?_
            rintro e w2 ⟨rfl, v', ys, ha, ⟨hperm, hheap⟩, ho2, hv'⟩
            obtain ⟨F2, hF2, hsub2, honly2⟩ := HSTEP.out.2 w2 v' ys ha hperm hheap ho2 hv'
            have HF2 : Hid (MarkSt w2 bm F2 (seeG G B (ids.take (k + 1))) B) := by rw [HSG.out]; exact hF2
            have HSUB2 : Hid (∀ i, F2 i → F i ∨ w.heap.size ≤ i) := by
              have h : ∀ i, F2 i → F i ∨ w.heap.size ≤ i := fun i hi => by
                rcases hsub2 i hi with h | h
                · exact HSUB.out i h
                · right; omega
              exact h
            have HO2 : Hid (Only F w w2) := by
              have h : Only F w w2 := HO.out.trans_new honly2 fun i hi hlt => by
                rcases HSUB.out i hi with h | h
                · exact h
                · omega
              exact h
            have hsz2 : w.heap.size ≤ w2.heap.size := HO2.out.size
            clear hF2 hsub2 honly2 ha hperm hheap ho2 hv' HPUSH HSTEP
            go_wp2_with fail
            go_roundw
            case rel => exact ⟨k + 1, F2, by omega, by go_num, HF2, HO2, HSUB2, hsz2⟩
            case measure => simp [intOf]; omega
      · go_wp2_with fail
        go_end0
        refine ⟨rfl, F', ?_, HO.out, HSUB.out⟩
        have h := HS.out
        rw [List.take_of_length_le (by rw [HN.out]; omega)] at h
        exact h
  subst hG hB hF
  exact goal_
end Go.Proofs.Ythceiokibionkaa
