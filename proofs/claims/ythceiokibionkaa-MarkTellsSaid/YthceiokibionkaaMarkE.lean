/- The program's marker: Next. -/
import Derived.Test.YthceiokibionkaaMarkD
namespace Go.Proofs.Ythceiokibionkaa
open Go.RowKit

def heapLen (w : World) (bm : Nat) : Nat := match w.cell? ⟨bm, 0, none⟩ with | some (.slice _ n _) => n | _ => 0
theorem HeapAt.len {w : World} {bm : Nat} {m1 m2 v : Value} {xs : List Int} (h : HeapAt w bm m1 m2 v xs) : heapLen w bm = xs.length := by
  obtain ⟨a, c, rfl⟩ := h.slice
  simp [heapLen, h.cell]
def nextI (G : List Int) : Int := G.headD 0
def nextB (G : List Int) : Bool := !G.isEmpty
theorem head_least {G : List Int} {x : Int} (h : Rise G) (hx : x ∈ G) (hl : ∀ y ∈ G, x ≤ y) : nextI G = x ∧ nextB G = true := by
  cases G with
  | nil => simp at hx
  | cons g r =>
    unfold Rise at h
    rw [List.pairwise_cons] at h
    have h1 := hl g (by simp)
    rcases List.mem_cons.1 hx with rfl | h2
    · simp [nextI, nextB]
    · have := h.1 x h2; omega
def NextPost (bm : Nat) (F : Nat → Prop) (G B : List Int) (w : World) (e : Ending) (w' : World) : Prop :=
  e = .returned (.tuple #[.int .i64 (nextI G), .bool (nextB G)]) ∧ ∃ F', MarkSt w' bm F' G B ∧ Only F w w' ∧ ∀ i, F' i → F i ∨ w.heap.size ≤ i

theorem MarkParts.swap {w w2 : World} {bm : Nat} {F : Nat → Prop} {G B : List Int} {v v' : Value} {bg bb : Nat} {xs ys SG SB : List Int} (h : MarkParts w bm F G B v bg bb xs SG SB)
    (ha : HeapAt w2 bm (.map (some bg)) (.map (some bb)) v' ys) (ho : Only (fun i => i = bm ∨ v.ownBlock = some i) w w2) (hv : ∀ g, v'.ownBlock = some g → v.ownBlock = some g ∨ w.heap.size ≤ g)
    (hheap : IsHeap ys ys.length) (hn : ys.Nodup) (hsub : ∀ x, x ∈ ys → x ∈ xs) (hall : ∀ x, x ∈ G → x ∈ ys) : 
    MarkParts w2 bm (fun i => i = bm ∨ i = bg ∨ i = bb ∨ v'.ownBlock = some i) G B v' bg bb ys SG SB ∧ (∀ i, (i = bm ∨ i = bg ∨ i = bb ∨ v'.ownBlock = some i) → F i ∨ w.heap.size ≤ i) ∧ Only F w w2 := by
  have hnb : ∀ b S, SetAt w b S → b ≠ bm → ¬ (b = bm ∨ v.ownBlock = some b) := fun b S hs hne h1 => by
    rcases h1 with h1 | h1
    · exact hne h1
    · exact own_ne_map h.heap.own hs h1
  refine ⟨⟨ha, h.gs.only ho (hnb _ _ h.gs h.bg_bm), h.bs.only ho (hnb _ _ h.bs h.bb_bm), h.ne, h.mg, h.mb, h.sg, h.sb, h.dis, hheap, hn, fun x hx => h.hsub x (hsub x hx), hall, h.rng, fun i => Iff.rfl⟩, ?_, ?_⟩
  · rintro i (rfl | rfl | rfl | hi)
    · exact .inl ((h.foot _).2 (.inl rfl))
    · exact .inl ((h.foot _).2 (.inr (.inl rfl)))
    · exact .inl ((h.foot _).2 (.inr (.inr (.inl rfl))))
    · rcases hv i hi with h1 | h1
      · exact .inl ((h.foot _).2 (.inr (.inr (.inr h1))))
      · exact .inr h1
  · exact ho.mono fun i hi => (h.foot _).2 (hi.elim .inl fun h1 => .inr (.inr (.inr h1)))

set_option maxHeartbeats 2000000 in
theorem next_any (bm : Nat) (F : Nat → Prop) (G B : List Int) (w : World) (h : MarkSt w bm F G B) :
    Calls Try.prog 15 #[.pointer (some ⟨bm, 0, none⟩)] w (NextPost bm F G B w) := by
  have START : Hid (MarkSt w bm F G B) := h
  clear h
  have hta := assert_int
  go_enter Try.func15, Try.ntmps15
  go_wp2_with fail
  go_loopw [4, 5] (fun _ _ wr => ∃ (F' : Nat → Prop), Hid (MarkSt wr bm F' G B) ∧ Hid (Only F w wr) ∧ Hid (∀ i, F' i → F i ∨ w.heap.size ≤ i)) (fun _ _ wr => heapLen wr bm)
  case atStart => exact ⟨F, START, by exact (Only.refl F w), by { have h1 : ∀ i, F i → F i ∨ w.heap.size ≤ i := fun i hi => .inl hi; exact h1 }⟩
  case round =>
    obtain ⟨F', HS, HO, HSUB⟩ := hrel
    obtain ⟨v, bg, bb, xs, SG, SB, hst⟩ := HS.out
    obtain ⟨a, cap, rfl⟩ := hst.heap.slice
    have hc0 := hst.heap.cell
    have hshort := hst.short
    by_cases h0 : xs.length = 0
    · have hG : G = [] := List.eq_nil_iff_forall_not_mem.2 fun x hx => by
        have := hst.hall x hx
        rw [List.eq_nil_of_length_eq_zero h0] at this; simp at this
      have HG := Lib.hid hG
      rw [h0] at hc0
      clear hst hG hshort
      have h00 : ¬ (0 : Int) < 0 := by omega
      go_wp2_with fail
      go_ret2
      refine ⟨?_, F', HS.out, HO.out, HSUB.out⟩
      rw [HG.out]; rfl
    · have hpop := heapPop_any bm _ _ _ xs wr hst.heap hst.hp (by omega) hst.short
      have HPOP := Lib.hid hpop
      have HST := Lib.hid hst
      generalize hn : xs.length = n at *
      have HN := Lib.hid hn
      clear hst hpop hn
      go_wp2_with fail
      refine HPOP.out.mono ?_
      rintro e w1 ⟨v1, x, ys, rfl, ha1, hperm, hleast, hheap, hlen, ho1, hv1⟩
      have hst := HST.out
      have hst1 := MarkParts.swap (F := F') hst ha1 ho1 (fun g hg => .inl (by rw [← hv1]; exact hg)) hheap
      have hnd : (x :: ys).Nodup := hperm.nodup_iff.1 hst.hn
      rw [List.nodup_cons] at hnd
      have hc1 : w1.cell? ⟨bm, 1, none⟩ = some (.map (some bg)) := by simp [World.cell?, ha1.blk]
      have hnb : ¬ (bg = bm ∨ (Value.slice a n cap).ownBlock = some bg) := fun h1 => by
        rcases h1 with h1 | h1
        · exact hst.bg_bm h1
        · exact own_ne_map hst.heap.own hst.gs h1
      have hlk := (hst.gs.only ho1 hnb).lookup x
      by_cases hg : x ∈ G
      · have hd : decide (x ∈ SG) = true := by simpa using (hst.mg x).2 hg
        rw [hd] at hlk
        have HPUSH := Lib.hid (heapPush_any bm _ _ v1 ys w1 x ha1 hheap (by rw [HN.out] at hlen; omega))
        obtain ⟨hn1, hn2⟩ := head_least hst.sg hg fun y hy => hleast y (hst.hall y hy)
        have HN1 := Lib.hid hn1
        have HN2 := Lib.hid hn2
        have HPERM := Lib.hid hperm
        have HO1 := Lib.hid ho1
        have HV1 := Lib.hid hv1
        have HGG := Lib.hid hg
        clear hst hst1 hnd hnb ha1 hheap hd hn1 hn2 hperm ho1 hv1 hleast hg hlen
        go_wp2_with fail
        refine HPUSH.out.mono ?_
        rintro e w2 ⟨rfl, v2, zs, ha2, ⟨hperm2, hheap2⟩, ho2, hv2⟩
        have hst := HST.out
        have hp : zs.Perm xs := hperm2.trans HPERM.out.symm
        have ho : Only (fun i => i = bm ∨ (Value.slice a n cap).ownBlock = some i) wr w2 := HO1.out.trans (ho2.mono fun i hi => hi.imp (fun h => h) fun h => by rw [← HV1.out]; exact h)
        have hfin := MarkParts.swap (F := F') hst ha2 ho (fun g hg => (hv2 g hg).imp (fun h => by rw [← HV1.out]; exact h) (fun h => by have := HO1.out.size; omega)) hheap2 (hp.nodup_iff.2 hst.hn) (fun y hy => hp.mem_iff.1 hy) (fun y hy => hp.mem_iff.2 (hst.hall y hy))
        have HFIN := Lib.hid hfin
        clear hst hp ho hfin ha2 hperm2 hheap2 ho2 hv2
        go_wp2_with fail
        go_ret2
        refine ⟨by rw [HN1.out, HN2.out]; rfl, _, ⟨_, _, _, _, _, _, HFIN.out.1⟩, HO.out.trans_new HFIN.out.2.2 fun i hi hlt => ?_, fun i hi => ?_⟩
        · rcases HSUB.out i hi with h | h
          · exact h
          · omega
        · rcases HFIN.out.2.1 i hi with h | h
          · exact HSUB.out i h
          · have := HO.out.size; exact .inr (by omega)
      · have hd : decide (x ∈ SG) = false := by simpa using fun h => hg ((hst.mg x).1 h)
        rw [hd] at hlk
        have hfin := hst1 hnd.2 (fun y hy => hperm.mem_iff.2 (List.mem_cons.2 (.inr hy))) (fun y hy => by
          rcases List.mem_cons.1 (hperm.mem_iff.1 (hst.hall y hy)) with h | h
          · subst h; exact absurd hy hg
          · exact h)
        have HFIN := Lib.hid hfin
        have hL1 := ha1.len
        have hL2 := hst.heap.len
        have HL : Hid (heapLen w1 bm < heapLen wr bm) := by
          have h : heapLen w1 bm < heapLen wr bm := by rw [HN.out] at hlen hL2; rw [hL1, hL2]; omega
          exact h
        clear hst hst1 hnd hnb ha1 hheap hd hperm ho1 hv1 hleast hg hlen hL1 hL2 hfin
        go_wp2_with fail
        go_roundw
        case rel => 
          refine ⟨_, ⟨_, _, _, _, _, _, HFIN.out.1⟩, ?_, ?_⟩
          · have h : Only F w w1 := HO.out.trans_new HFIN.out.2.2 fun i hi hlt => by
              rcases HSUB.out i hi with h | h
              · exact h
              · omega
            exact h
          · have h : ∀ i, (i = bm ∨ i = bg ∨ i = bb ∨ v1.ownBlock = some i) → F i ∨ w.heap.size ≤ i := fun i hi => by
              rcases HFIN.out.2.1 i hi with h | h
              · exact HSUB.out i h
              · have := HO.out.size; exact .inr (by omega)
            exact h
        case measure => exact HL.out
end Go.Proofs.Ythceiokibionkaa
