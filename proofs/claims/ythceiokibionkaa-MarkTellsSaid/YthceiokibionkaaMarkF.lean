/- The program's marker: Marked. -/
import Derived.Test.YthceiokibionkaaMarkE
import Derived.Test.YthceiokibionkaaMapB
namespace Go.Proofs.Ythceiokibionkaa
open Go.RowKit

theorem sub_length {V es : List (Int × Nat)} (hn : (V.map (·.2)).Nodup) (h : ∀ p ∈ V, p ∈ es) : V.length ≤ es.length := by
  have hV : V.Nodup := nodup_of_map _ hn
  clear hn
  induction V generalizing es with
  | nil => simp
  | cons a r ih =>
    rw [List.nodup_cons] at hV
    have h1 := ih (es := es.erase a) (fun p hp => by
      refine (List.mem_erase_of_ne (fun e => ?_)).2 (h p (List.mem_cons_of_mem _ hp))
      subst e; exact hV.1 hp) hV.2
    have h2 := List.length_erase_of_mem (h a (by simp))
    have h3 : 0 < es.length := List.length_pos_of_mem (h a (by simp))
    simp only [List.length_cons]; omega
def iterLeft (w : World) (r n : Nat) : Nat := match w.heap[r]? with | some (.mapIter _ _ seen _) => n - seen.size | _ => 0
theorem iterLeft_of {w : World} {r bg clk n : Nat} {V : List (Int × Nat)} (h : IterAt w r bg V clk) : iterLeft w r n = n - V.length := by
  unfold IterAt at h
  simp [iterLeft, h]
theorem own_ne_iter {w : World} {base : Nat} {e : TypeId} {size n : Nat} {v : Value} {ys : List Value} {r bg clk : Nat} {V : List (Int × Nat)} (h : w.ownsRow base e size v n ys) (hi : IterAt w r bg V clk) : v.ownBlock ≠ some r := by
  intro he
  unfold IterAt at hi
  rcases h.2 with ⟨rfl, _⟩ | ⟨g, cap, cur, rfl, _, hg, _⟩
  · simp [Value.ownBlock] at he
  · have : g = r := by simpa [Value.ownBlock] using he
    subst this
    rw [hi] at hg; simp at hg
theorem range_begin {w : World} {bg : Nat} {es : List (Int × Nat)} {clk : Nat} (hs : SetIs w bg es clk) : (Instr.range 48 (.map (some bg))).run Try.prog w = .ok (.pointer (some ⟨w.heap.size, 0, none⟩)) (w.alloc (.mapIter (some bg) clk #[] clk)) := by
  simp [Instr.range, run_underlying Try.underlying48, MapKept.run_getObj_map hs.1]

def markedL (G B : List Int) : List Int := G.foldl putL B
theorem mem_markedL (x : Int) : ∀ (G B : List Int), x ∈ markedL G B ↔ x ∈ G ∨ x ∈ B
  | [], B => by simp [markedL]
  | g :: r, B => by
    have e : markedL (g :: r) B = markedL r (putL B g) := rfl
    rw [e, mem_markedL x r, mem_putL]; simp
    constructor
    · rintro (h | h | h) <;> simp [h]
    · rintro ((h | h) | h) <;> simp [h]
theorem rise_markedL : ∀ (G B : List Int), Rise B → Rise (markedL G B)
  | [], B, h => h
  | g :: r, B, h => rise_markedL r (putL B g) (rise_putL g B h)

def MarkedPost (G B : List Int) (w : World) (e : Ending) (w' : World) : Prop :=
  ∃ v', e = .returned v' ∧ IntsR (fun i => w.heap.size ≤ i) w' v' (markedL G B) ∧ Below w.heap.size w w'

set_option maxHeartbeats 4000000 in
theorem marked_any (bm : Nat) (F : Nat → Prop) (G B : List Int) (w : World) (h : MarkSt w bm F G B) :
    Calls Try.prog 19 #[.pointer (some ⟨bm, 0, none⟩)] w (MarkedPost G B w) := by
  obtain ⟨i0, hi0, hz0, hz1, hz2⟩ := info_parts int_info
  obtain ⟨v, bg, bb, xs, SG, SB, hst⟩ := h
  have hlt := hst.heap.lt
  have hc1 : w.cell? ⟨bm, 1, none⟩ = some (.map (some bg)) := by simp [World.cell?, hst.heap.blk]
  have hc2 : w.cell? ⟨bm, 2, none⟩ = some (.map (some bb)) := by simp [World.cell?, hst.heap.blk]
  obtain ⟨es, clk, hsg, hse⟩ := hst.gs
  obtain ⟨fs, clk2, hsb, hsf⟩ := hst.bs
  have hgl : es.length ≤ 100000 := by
    have h1 := short_of_range 100000 SG (hse ▸ hsg.2.1) fun x hx => hst.rng x (.inl ((hst.mg x).1 hx))
    rw [← hse] at h1; simpa using h1
  have hbl : fs.length ≤ 100000 := by
    have h1 := short_of_range 100000 SB (hsf ▸ hsb.2.1) fun x hx => hst.rng x (.inr ((hst.mb x).1 hx))
    rw [← hsf] at h1; simpa using h1
  have SETG := Lib.hid hsg
  have SETB := Lib.hid hsb
  have hrange := range_begin hsg
  have FIN : Hid (∀ V1 V2 : List Int, V1.Perm (es.map (·.1)) → V2.Perm (fs.map (·.1)) → sortL (V1 ++ V2) = markedL G B ∧ (V1 ++ V2).length ≤ 200000) := by
    have h : ∀ V1 V2 : List Int, V1.Perm (es.map (·.1)) → V2.Perm (fs.map (·.1)) → sortL (V1 ++ V2) = markedL G B ∧ (V1 ++ V2).length ≤ 200000 := by
      intro V1 V2 h1 h2
      have hm1 : ∀ x, x ∈ V1 ↔ x ∈ G := fun x => by rw [h1.mem_iff, hse, hst.mg]
      have hm2 : ∀ x, x ∈ V2 ↔ x ∈ B := fun x => by rw [h2.mem_iff, hsf, hst.mb]
      refine ⟨rise_ext (rise_sortL ?_) (rise_markedL G B hst.sb) fun x => ?_, ?_⟩
      · rw [List.nodup_append]
        refine ⟨h1.nodup_iff.2 hsg.2.1, h2.nodup_iff.2 hsb.2.1, ?_⟩
        rintro a ha c hc rfl
        exact hst.dis a ((hm1 a).1 ha) ((hm2 a).1 hc)
      · rw [mem_sortL, List.mem_append, hm1, hm2, mem_markedL]
      · have e1 := h1.length_eq
        have e2 := h2.length_eq
        simp at e1 e2
        rw [List.length_append]; omega
    exact h
  have HC2 := Lib.hid hc2
  obtain ⟨q0, hq0⟩ : ∃ q : Nat, q = 0 := ⟨_, rfl⟩
  obtain ⟨X0, hX0⟩ : ∃ X : List Value, X = [] := ⟨_, rfl⟩
  have START : Hid ((w.alloc (.mapIter (some bg) clk #[] clk)).ownsRow w.heap.size 3 1 (.slice none 0 0) (q0 + ([] : List (Int × Nat)).length) (X0 ++ (([] : List (Int × Nat)).map (·.1)).map (Value.int .i64))) := by
    subst hq0 hX0; exact World.ownsRow_nil _ _ _ _
  have ITER0 : Hid (IterAt (w.alloc (.mapIter (some bg) clk #[] clk)) w.heap.size bg [] clk) := heap_alloc_new w _
  have BELOW0 : Hid (Below w.heap.size w (w.alloc (.mapIter (some bg) clk #[] clk))) := (Below.refl _ _).alloc (Nat.le_refl _) _
  have hq0' : q0 ≤ 0 := by omega
  have HQ := Lib.hid hq0
  have HX := Lib.hid hX0
  clear hst hsg hsb hse hsf hc2 hq0 hX0
  go_enter Try.func19, Try.ntmps19
  go_wp2_with fail
  go_loopw [3, 4] (fun o _ wr => ∃ (V : List (Int × Nat)), Hid (wr.ownsRow w.heap.size 3 1 o (q0 + V.length) (X0 ++ (V.map (·.1)).map (Value.int .i64))) ∧ Hid (IterAt wr w.heap.size bg V clk) ∧ Hid (∀ p ∈ V, p ∈ es) ∧ Hid ((V.map (·.2)).Nodup) ∧ Hid (Below w.heap.size w wr)) (fun _ _ wr => iterLeft wr w.heap.size es.length)
  case atStart => exact ⟨[], START, ITER0, by { have h : ∀ p ∈ ([] : List (Int × Nat)), p ∈ es := (by simp); exact h }, by { have h : (([] : List (Int × Nat)).map (·.2)).Nodup := List.nodup_nil; exact h }, BELOW0⟩
  case round =>
    obtain ⟨V, HOWN, HIT, HV, HVN, HB⟩ := hrel
    have hset : SetIs wr bg es clk := SETG.out.same (HB.out.block bg SETG.out.lt)
    rcases range_step hset HIT.out HV.out HVN.out 0 with ⟨hperm, hnext⟩ | ⟨p, w1, hp, hpv, hnext, hit1, hs1, ho1, hentry⟩
    · have HPERM := Lib.hid hperm
      clear hset hperm
      obtain ⟨wo, rfl⟩ : ∃ wo : World, wo = wr := ⟨_, rfl⟩
      have hcb : wo.cell? ⟨bm, 2, none⟩ = some (.map (some bb)) := by rw [HB.out.cell (p := ⟨bm, 2, none⟩) hlt]; exact HC2.out
      have hsb1 : SetIs wo bb fs clk2 := SETB.out.same (HB.out.block bb SETB.out.lt)
      have hrange2 := range_begin hsb1
      have hwo := HB.out.size
      obtain ⟨V0, hV0⟩ : ∃ V0, V0 = V.map (·.1) := ⟨_, rfl⟩
      obtain ⟨q1, hq1⟩ : ∃ q, q = q0 + V.length := ⟨_, rfl⟩
      obtain ⟨X1, hX1⟩ : ∃ X, X = X0 ++ (V.map (·.1)).map (Value.int .i64) := ⟨_, rfl⟩
      have hq1' : q1 ≤ 100000 := by have := sub_length HVN.out HV.out; omega
      have HPERM0 : Hid (V0.Perm (es.map (·.1))) := by rw [hV0]; exact HPERM.out
      have HQ1 : Hid (q1 = V0.length) := by
        have h : q1 = V0.length := by rw [hq1, HQ.out, hV0]; simp
        exact h
      have HX1 : Hid (X1 = V0.map (Value.int .i64)) := by
        have h : X1 = V0.map (Value.int .i64) := by rw [hX1, HX.out, hV0]; simp
        exact h
      have START : Hid ((wo.alloc (.mapIter (some bb) clk2 #[] clk2)).ownsRow w.heap.size 3 1 u3 (q1 + ([] : List (Int × Nat)).length) (X1 ++ (([] : List (Int × Nat)).map (·.1)).map (Value.int .i64))) := by
        have h := HOWN.out.alloc (.mapIter (some bb) clk2 #[] clk2)
        rw [← hq1, ← hX1] at h
        have h2 : (wo.alloc (.mapIter (some bb) clk2 #[] clk2)).ownsRow w.heap.size 3 1 u3 (q1 + ([] : List (Int × Nat)).length) (X1 ++ (([] : List (Int × Nat)).map (·.1)).map (Value.int .i64)) := by simpa using h
        exact h2
      have ITER0 : Hid (IterAt (wo.alloc (.mapIter (some bb) clk2 #[] clk2)) wo.heap.size bb [] clk2) := heap_alloc_new wo _
      have BELOW0 : Hid (Below w.heap.size w (wo.alloc (.mapIter (some bb) clk2 #[] clk2))) := HB.out.alloc hwo _
      clear hsb1 hV0 hq1 hX1 HOWN HIT HV HVN HB HPERM hrange
      clear V
      go_wp2_with fail
      go_loopw [3, 5] (fun o _ wr => ∃ (V : List (Int × Nat)), Hid (wr.ownsRow w.heap.size 3 1 o (q1 + V.length) (X1 ++ (V.map (·.1)).map (Value.int .i64))) ∧ Hid (IterAt wr wo.heap.size bb V clk2) ∧ Hid (∀ p ∈ V, p ∈ fs) ∧ Hid ((V.map (·.2)).Nodup) ∧ Hid (Below w.heap.size w wr)) (fun _ _ wr => iterLeft wr wo.heap.size fs.length)
      case atStart => exact ⟨[], START, ITER0, by { have h : ∀ p ∈ ([] : List (Int × Nat)), p ∈ fs := (by simp); exact h }, by { have h : (([] : List (Int × Nat)).map (·.2)).Nodup := List.nodup_nil; exact h }, BELOW0⟩
      case round =>
        obtain ⟨V, HOWN, HIT, HV, HVN, HB⟩ := hrel
        have hset : SetIs wr bb fs clk2 := SETB.out.same (HB.out.block bb SETB.out.lt)
        rcases range_step hset HIT.out HV.out HVN.out 0 with ⟨hperm, hnext⟩ | ⟨p, w1, hp, hpv, hnext, hit1, hs1, ho1, hentry⟩
        · have HPERM := Lib.hid hperm
          clear hset hperm
          have hown3 : wr.ownsRow w.heap.size 3 1 u3 (V0 ++ V.map (·.1)).length ((V0 ++ V.map (·.1)).map (Value.int .i64)) := by
            have e : (V0 ++ V.map (·.1)).length = q1 + V.length := by rw [List.length_append, List.length_map, HQ1.out]
            rw [e, List.map_append, ← HX1.out]; exact HOWN.out
          obtain ⟨hsort, hlen⟩ := FIN.out V0 (V.map (·.1)) HPERM0.out HPERM.out
          have HSORT := Lib.hid hsort
          have HCALL := Lib.hid (sort_own hown3 (by omega))
          have HOWN3 := Lib.hid hown3
          clear hown3 hsort hlen
          go_wp2_with fail
          refine HCALL.out.mono ?_
          rintro e w3 ⟨rfl, hrow3, hg3⟩
          have HROW3 := Lib.hid hrow3
          have HG3 := Lib.hid hg3
          clear hrow3 hg3
          go_wp2_with fail
          go_ret
          refine ⟨_, rfl, ?_, HB.out.grown HG3.out HB.out.size (fun g hg => (HOWN3.out.lt g hg).1)⟩
          rw [← HSORT.out]
          exact (IntsR.of_own HROW3.out).mono fun i hi _ => (HROW3.out.lt i hi).1
        · have HIT1 := Lib.hid hit1
          have HO1 := Lib.hid ho1
          have hrow1 : w1.ownsRow w.heap.size 3 1 u3 (q1 + V.length) (X1 ++ (V.map (·.1)).map (Value.int .i64)) := HOWN.out.kept (row := some wo.heap.size) ⟨ho1.os, ho1.tape, ho1.output, ho1.size, fun i hi hne => ho1.block i hi (fun e => hne (by rw [e]))⟩ (.inr (own_ne_iter HOWN.out HIT.out))
          have HROW1 := Lib.hid hrow1
          have hrb := HB.out.size
          have hs1' := ho1.size
          have hbel1 : Below w.heap.size w w1 := ⟨ho1.os.trans HB.out.os, ho1.tape.trans HB.out.tape, ho1.output.trans HB.out.output, by omega, fun i hi => (ho1.block i (by omega) (fun e => by subst e; exact absurd hi (by omega))).trans (HB.out.block i hi)⟩
          have HB1 := Lib.hid hbel1
          have hVl : V.length ≤ fs.length := sub_length HVN.out HV.out
          have HMEM : Hid (∀ q ∈ V ++ [p], q ∈ fs) := by
            have h : ∀ q ∈ V ++ [p], q ∈ fs := fun q hq => by
              rcases List.mem_append.1 hq with h | h
              · exact HV.out q h
              · simp at h; subst h; exact hp
            exact h
          have HND : Hid (((V ++ [p]).map (·.2)).Nodup) := by
            have h : ((V ++ [p]).map (·.2)).Nodup := by
              rw [List.map_append, List.nodup_append]
              refine ⟨HVN.out, by simp, ?_⟩
              intro a ha c hc
              simp at hc; subst hc
              rintro rfl; exact hpv ha
            exact h
          have hlen1 : V.length + 1 ≤ fs.length := by
            have := sub_length HND.out HMEM.out
            simpa using this
          have HLEFT : Hid (iterLeft wr wo.heap.size fs.length = fs.length - V.length) := iterLeft_of HIT.out
          clear hset hit1 ho1 hrow1 hbel1 hs1 hp hpv
          go_wp2_with (first
            | (at_builtin
               refine wpList_append_cells (F := fun _ => True) _ rfl (.tmp 30) (.tmp 32) _ rfl w.heap.size 3 i0 _ 1 8 Try.underlying22 hi0 hz0 hz1 hz2 rfl (by omega) _ (q1 + V.length) _ rfl (HROW1.out.alloc _) _ 1 [Value.int .i64 p.1] rfl ?d3 ?d4 ?d5 ?d6 ?d7 ?_
               case d3 => exact one_new _ _ _
               case d4 => intro u hu; simp at hu; subst hu; rfl
               case d5 => unfold maxLen; omega
               case d6 => omega
               case d7 => simp; omega
               intro v2 w2 ho2 hg2 hv2
               have hne2 := own_ne_iter HROW1.out HIT1.out
               have hit2 : IterAt w2 wo.heap.size bb (V ++ [p]) clk2 := (hg2.block wo.heap.size (by have := (Array.getElem?_eq_some_iff.1 HIT1.out).1; simp; omega) (fun e => hne2 e.symm)).trans ((Below.heap_alloc w1 _ wo.heap.size (Array.getElem?_eq_some_iff.1 HIT1.out).1).trans HIT1.out)
               have HIT2 := Lib.hid hit2
               have hb2 : Below w.heap.size w w2 := (HB1.out.alloc (by omega) _).grown hg2 (by simp; omega) (fun g hg => (HROW1.out.lt g hg).1)
               have HB2 := Lib.hid hb2
               have HO2 : Hid (w2.ownsRow w.heap.size 3 1 v2 (q1 + (V ++ [p]).length) (X1 ++ ((V ++ [p]).map (·.1)).map (Value.int .i64))) := by
                 have e : q1 + (V ++ [p]).length = q1 + V.length + 1 := by simp; omega
                 rw [e, List.map_append, List.map_append, ← List.append_assoc]
                 exact ho2
               have HL2 : Hid (iterLeft w2 wo.heap.size fs.length = fs.length - (V ++ [p]).length) := iterLeft_of hit2
               clear ho2 hg2 hv2 hne2 hit2 hb2))
          go_roundw
          case rel => exact ⟨V ++ [p], HO2, HIT2, HMEM, HND, HB2⟩
          case measure =>
            rw [HL2.out, HLEFT.out]
            simp
            omega

    · have HIT1 := Lib.hid hit1
      have HO1 := Lib.hid ho1
      have hrow1 : w1.ownsRow w.heap.size 3 1 u3 (q0 + V.length) (X0 ++ (V.map (·.1)).map (Value.int .i64)) := HOWN.out.kept (row := some w.heap.size) ⟨ho1.os, ho1.tape, ho1.output, ho1.size, fun i hi hne => ho1.block i hi (fun e => hne (by rw [e]))⟩ (.inr (own_ne_iter HOWN.out HIT.out))
      have HROW1 := Lib.hid hrow1
      have hrb := HB.out.size
      have hs1' := ho1.size
      have hbel1 : Below w.heap.size w w1 := ⟨ho1.os.trans HB.out.os, ho1.tape.trans HB.out.tape, ho1.output.trans HB.out.output, by omega, fun i hi => (ho1.block i (by omega) (fun e => by subst e; exact absurd hi (by omega))).trans (HB.out.block i hi)⟩
      have HB1 := Lib.hid hbel1
      have hVl : V.length ≤ es.length := sub_length HVN.out HV.out
      have HMEM : Hid (∀ q ∈ V ++ [p], q ∈ es) := by
        have h : ∀ q ∈ V ++ [p], q ∈ es := fun q hq => by
          rcases List.mem_append.1 hq with h | h
          · exact HV.out q h
          · simp at h; subst h; exact hp
        exact h
      have HND : Hid (((V ++ [p]).map (·.2)).Nodup) := by
        have h : ((V ++ [p]).map (·.2)).Nodup := by
          rw [List.map_append, List.nodup_append]
          refine ⟨HVN.out, by simp, ?_⟩
          intro a ha c hc
          simp at hc; subst hc
          rintro rfl; exact hpv ha
        exact h
      have hlen1 : V.length + 1 ≤ es.length := by
        have := sub_length HND.out HMEM.out
        simpa using this
      have HLEFT : Hid (iterLeft wr w.heap.size es.length = es.length - V.length) := iterLeft_of HIT.out
      clear hset hit1 ho1 hrow1 hbel1 hs1 hp hpv
      go_wp2_with (first
        | (at_builtin
           refine wpList_append_cells (F := fun _ => True) _ rfl (.tmp 17) (.tmp 19) _ rfl w.heap.size 3 i0 _ 1 8 Try.underlying22 hi0 hz0 hz1 hz2 rfl (by omega) _ (q0 + V.length) _ rfl (HROW1.out.alloc _) _ 1 [Value.int .i64 p.1] rfl ?c3 ?c4 ?c5 ?c6 ?c7 ?_
           case c3 => exact one_new _ _ _
           case c4 => intro u hu; simp at hu; subst hu; rfl
           case c5 => unfold maxLen; omega
           case c6 => omega
           case c7 => simp; omega
           intro v2 w2 ho2 hg2 hv2
           have hne2 := own_ne_iter HROW1.out HIT1.out
           have hit2 : IterAt w2 w.heap.size bg (V ++ [p]) clk := (hg2.block w.heap.size (by have := (Array.getElem?_eq_some_iff.1 HIT1.out).1; simp; omega) (fun e => hne2 e.symm)).trans ((Below.heap_alloc w1 _ w.heap.size (Array.getElem?_eq_some_iff.1 HIT1.out).1).trans HIT1.out)
           have HIT2 := Lib.hid hit2
           have hb2 : Below w.heap.size w w2 := (HB1.out.alloc (by omega) _).grown hg2 (by simp; omega) (fun g hg => (HROW1.out.lt g hg).1)
           have HB2 := Lib.hid hb2
           have HO2 : Hid (w2.ownsRow w.heap.size 3 1 v2 (q0 + (V ++ [p]).length) (X0 ++ ((V ++ [p]).map (·.1)).map (Value.int .i64))) := by
             have e : q0 + (V ++ [p]).length = q0 + V.length + 1 := by simp; omega
             rw [e, List.map_append, List.map_append, ← List.append_assoc]
             exact ho2
           have HL2 : Hid (iterLeft w2 w.heap.size es.length = es.length - (V ++ [p]).length) := iterLeft_of hit2
           clear ho2 hg2 hv2 hne2 hit2 hb2))
      go_roundw
      case rel => exact ⟨V ++ [p], HO2, HIT2, HMEM, HND, HB2⟩
      case measure =>
        rw [HL2.out, HLEFT.out]
        simp
        omega
end Go.Proofs.Ythceiokibionkaa
