/-
  The walks of an ordered set's own, Put and Drop at ponder/api.Elem: what they answer, what the set holds behind them, and that nothing else is touched.
-/
import Derived.Test.YthhhhjllpejpgaaFindElem
import Derived.Test.YthhhhjllpejpgaaEager
namespace Go.Proofs.Ythhhhjllpejpgaa
open Go.RowKit
theorem info_Elem : (Try.prog.info? 72).map (fun i => (i.zero, i.size, i.bytes)) = some (some (.agg #[.int .i64 0, .string ⟨#[]⟩, .int .i64 0, .int .i64 0, .string ⟨#[]⟩, .int .i64 0, .int .i64 0, .string ⟨#[]⟩, .int .i64 0, .bool false, .bool false, .int .i64 0]), 12, 112) := by kernel_rfl
theorem Elem.one (x : Elem) : ∀ u ∈ Elem.cells x, u.oneCell' = true := by intro u hu; simp [Elem.cells] at hu; rcases hu with rfl | rfl | rfl | rfl | rfl | rfl | rfl | rfl | rfl | rfl | rfl | rfl <;> rfl
theorem Elem.oneAll (l : List Elem) : ∀ u ∈ l.flatMap Elem.cells, u.oneCell' = true := by intro u hu; obtain ⟨x, _, hx⟩ := List.mem_flatMap.1 hu; exact Elem.one x u hx

/-- Behind 'own': the list may be written from now on. -/
def OwnPostElem (w : World) (b : Nat) (sn : Bool) (A : Option Addr) (l : List Elem) (e : Ending) (w' : World) : Prop :=
  e = .returned (.tuple #[]) ∧ ∃ A' c', ElemSet w' b false A' c' l ∧ Fr (· = b) w w' ∧ Moved w sn A false A'
set_option maxRecDepth 100000 in
set_option maxHeartbeats 1000000 in
theorem own_no_Elem (b c : Nat) (A : Option Addr) (l : List Elem) (w : World) (hS : ElemSet w b false A c l) :
    Calls Try.prog 72 #[.pointer (some ⟨b, 0, none⟩)] w (OwnPostElem w b false A l) := by
  have h1 := hS.cell1
  have HS := Lib.hid hS
  clear hS
  go_enter Try.func72, Try.ntmps72
  go_wp2
  go_end0
  exact ⟨rfl, A, c, HS.out, Fr.refl _ _, .inl ⟨rfl, rfl⟩⟩
set_option maxRecDepth 100000 in
set_option maxHeartbeats 1000000 in
theorem own_yes_Elem (b c : Nat) (A : Option Addr) (l : List Elem) (w : World) (hS : ElemSet w b true A c l) (hl : (l.length : Int) ≤ 1000000000) :
    Calls Try.prog 72 #[.pointer (some ⟨b, 0, none⟩)] w (OwnPostElem w b true A l) := by
  obtain ⟨i0, hi, hz0, hz1, hz2⟩ := info_parts info_Elem
  have h0 := hS.cell0
  have h1 := hS.cell1
  have hb := hS.lt
  have f0 := hS.blk.frozen 0
  have f1 := hS.blk.frozen 1
  have hrd := hS.rd Elem.cells_length
  have HB := Lib.hid hS.blk
  have HRD := Lib.hid hrd
  clear hS hrd
  have e1 : IntKind.i64.wrap ((l.length : Int) + 1) = (l.length : Int) + 1 := IntWalk.i64_in _ (by omega)
  have hmk : ∀ W : World, (Instr.makeSlice 68 (.int .i64 0) (.int .i64 ((l.length : Int) + 1))).run Try.prog W = .ok (.slice (some ⟨W.heap.size, 0, none⟩) 0 (l.length + 1)) (W.alloc (.cells (madeCells (Value.cells (.agg #[.int .i64 0, .string ⟨#[]⟩, .int .i64 0, .int .i64 0, .string ⟨#[]⟩, .int .i64 0, .int .i64 0, .string ⟨#[]⟩, .int .i64 0, .bool false, .bool false, .int .i64 0])) ((l.length + 1) * 12)) 72)) := fun W => by
    have h := run_make (P := Try.prog) W 68 72 i0 _ Try.underlying68 hi hz0 .i64 .i64 0 ((l.length : Int) + 1) (by omega) (by omega) (by rw [hz2]; omega) (by omega)
    rw [hz1] at h
    simpa [show ((l.length : Int) + 1).toNat = l.length + 1 by omega] using h
  go_enter Try.func72, Try.ntmps72
  go_wp2_with fail
  refine wp_region_E (fun w9 => Below w.heap.size w w9) [(0, 0), (1, 0), (2, 0), (3, 0), (4, 1), (5, 0), (6, 0), (8, 0), (9, 0), (10, 0), (11, 1), (7, 2), (12, 2), (13, 0), (14, 0), (15, 2)] (by kernel_rfl) (by kernel_rfl) (fun KK hKK => ?_)
  simp only [beside, List.filterMap_cons, List.filterMap_nil, List.getElem?_toArray, List.getElem?_cons_zero, List.getElem?_cons_succ, Option.map_some]
  repeat (first | (refine wpX_w ?_ (Or.inl ⟨by rfl, fun w9 => ?_⟩) ?_; rotate_left 1; go_simp; with_reducible rfl; simp only [Act.put, List.setIfInBounds_toArray, List.set_cons_zero, List.set_cons_succ]) | (refine wpX_l ?_ (((Below.refl _ _).drew)) (Or.inl ⟨by rfl, fun w9 hw9 => ?_⟩) ?_; rotate_left 1; obtain ⟨hc9, hf9⟩ := bcell hw9; go_simp; with_reducible rfl; simp only [Act.put, List.setIfInBounds_toArray, List.set_cons_zero, List.set_cons_succ]) | (refine wpX_w undef (Or.inr ⟨by rfl, rfl⟩) ?_; simp only [Act.put, List.setIfInBounds_toArray, List.set_cons_zero, List.set_cons_succ]) | (refine wpX_l undef (((Below.refl _ _).drew)) (Or.inr ⟨by rfl, rfl⟩) ?_; simp only [Act.put, List.setIfInBounds_toArray, List.set_cons_zero, List.set_cons_succ]))
  refine wpX_es (fun K9 hK9 => ?_)
  go_simp
  refine hK9 _ _ (((Below.refl _ _).drew).alloc (Nat.le_refl _) _) ?_
  clear hK9 K9
  refine wpX_e (by kernel_rfl) (fun K9 hK9 => ?_)
  refine step_append_src _ (by rfl) _ _ _ (by rfl) 72 i0 _ 12 112 Try.underlying68 hi hz0 hz1 hz2 rfl (by omega) _ 0 [] (by rfl) (World.ownsRow_made _ _ _ (Nat.zero_le _) (by unfold maxLen; omega) (by simp [madeCells])) A l.length c (l.flatMap Elem.cells) (by rfl) (flat_length Elem.cells_length l)
    ((HRD.out.drew.alloc _).news Elem.cells_length (by omega)) (Elem.oneAll l) (by unfold maxLen; omega) (by omega) ?_
  intro v2 w2 hown hgr hnil hat
  refine hK9 _ _ ?_
  clear hK9 K9
  rw [Nat.zero_add, List.nil_append] at hown
  obtain ⟨A', c', rfl, _, _, hz⟩ := own_form2 hown
  have HB1 := (HB.out.drew.alloc (.cells (madeCells (Value.cells (.agg #[.int .i64 0, .string ⟨#[]⟩, .int .i64 0, .int .i64 0, .string ⟨#[]⟩, .int .i64 0, .int .i64 0, .string ⟨#[]⟩, .int .i64 0, .bool false, .bool false, .int .i64 0])) ((l.length + 1) * 12)) 72)).grown hgr (by simp [Value.ownBlock]; omega)
  have c0 := (HB1.cell 0).trans rfl
  have c1 := (HB1.cell 1).trans rfl
  have z0 := HB1.frozen 0
  have z1 := HB1.frozen 1
  have HB2 := Lib.hid HB1
  clear HB1
  repeat (first | (refine wpX_w ?_ (Or.inl ⟨by rfl, fun w9 => ?_⟩) ?_; rotate_left 1; go_simp; with_reducible rfl; simp only [Act.put, List.setIfInBounds_toArray, List.set_cons_zero, List.set_cons_succ]) | (refine wpX_l ?_ (((Below.refl _ _).drew).alloc (Nat.le_refl _) _) (Or.inl ⟨by rfl, fun w9 hw9 => ?_⟩) ?_; rotate_left 1; obtain ⟨hc9, hf9⟩ := bcell hw9; go_simp; with_reducible rfl; simp only [Act.put, List.setIfInBounds_toArray, List.set_cons_zero, List.set_cons_succ]) | (refine wpX_w undef (Or.inr ⟨by rfl, rfl⟩) ?_; simp only [Act.put, List.setIfInBounds_toArray, List.set_cons_zero, List.set_cons_succ]) | (refine wpX_l undef (((Below.refl _ _).drew).alloc (Nat.le_refl _) _) (Or.inr ⟨by rfl, rfl⟩) ?_; simp only [Act.put, List.setIfInBounds_toArray, List.set_cons_zero, List.set_cons_succ]))
  refine wpX_e (by kernel_rfl) (fun K9 hK9 => ?_)
  go_simp
  refine hK9 _ _ ?_
  clear hK9 K9
  refine wpX_nil ?_
  simp only [OnlyN_normal]
  refine hKK _ _ ?_
  clear hKK KK
  go_wp2
  go_end0
  have hb2 : (Value.slice A' l.length c').ownBlock = some w.heap.size ∨ (Value.slice A' l.length c').ownBlock = some (w.heap.size + 1) := by
    rcases hat with h | h
    · left; rw [h]; rfl
    · right; rw [h]; simp
  have hA : ∃ g, w.heap.size ≤ g ∧ A' = some ⟨g, 0, none⟩ := by
    rcases A' with _ | a
    · exfalso; simp [Value.ownBlock] at hb2
    · obtain ⟨g, rfl⟩ := hz a rfl
      refine ⟨g, ?_, rfl⟩
      simp [Value.ownBlock] at hb2
      omega
  obtain ⟨g, hg, rfl⟩ := hA
  have HB1 := HB2.out
  have HF : Fr (· = b) w w2 := ((Fr.refl (· = b) w).drew.alloc _).grown hgr (fun k e => by simp [Value.ownBlock] at e; right; omega)
  refine ⟨rfl, some ⟨g, 0, none⟩, c', ⟨(HB1.set_ 0 _).set_ 1 _, ?_⟩, (HF.setCell (p := ⟨b, 0, none⟩) (.inl rfl) _).setCell (p := ⟨b, 1, none⟩) (.inl rfl) _, .inr ⟨rfl, g, hg, rfl⟩⟩
  have hne : (Value.slice (some ⟨g, 0, none⟩) l.length c').ownBlock ≠ some b := by simp [Value.ownBlock]; omega
  exact ownsRow_setCell_other (a := ⟨b, 1, none⟩) (ownsRow_setCell_other (a := ⟨b, 0, none⟩) hown hne _) hne _
theorem own_Elem (b c : Nat) (sn : Bool) (A : Option Addr) (l : List Elem) (w : World) (hS : ElemSet w b sn A c l) (hl : (l.length : Int) ≤ 1000000000) :
    Calls Try.prog 72 #[.pointer (some ⟨b, 0, none⟩)] w (OwnPostElem w b sn A l) := by
  cases sn
  · exact own_no_Elem b c A l w hS
  · exact own_yes_Elem b c A l w hS hl
end Go.Proofs.Ythhhhjllpejpgaa
