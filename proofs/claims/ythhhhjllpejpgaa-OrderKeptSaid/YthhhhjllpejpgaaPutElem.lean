/-
  The walk of (*Set[T]).Put at ponder/api.Elem: x is in the set behind it; whether it was not there; nothing else is touched.
-/
import Derived.Test.YthhhhjllpejpgaaOpsElem
import Derived.Test.YthhhhjllpejpgaaStore
namespace Go.Proofs.Ythhhhjllpejpgaa
open Go.RowKit

/-- Behind Put. -/
def PutPostElem (w : World) (b : Nat) (sn : Bool) (A : Option Addr) (l : List Elem) (x : Elem) (e : Ending) (w' : World) : Prop :=
  e = .returned (.bool (!has cmpElem l x)) ∧ ∃ sn' A' c', ElemSet w' b sn' A' c' (put cmpElem l x) ∧ Fr (SetMod b sn A) w w' ∧ Moved w sn A sn' A'
set_option maxRecDepth 100000 in
set_option maxHeartbeats 1000000 in
theorem put_there_Elem (b c : Nat) (sn : Bool) (A : Option Addr) (l : List Elem) (x : Elem) (w : World) (hS : ElemSet w b sn A c l) (hs : Srt cmpElem l) (hl : (l.length : Int) ≤ 100000000) (hh : has cmpElem l x = true) :
    Calls Try.prog 64 #[.pointer (some ⟨b, 0, none⟩), .agg #[.int .i64 x.id.kind, .string x.id.text, .int .i64 x.id.n, .int .i64 x.attr.kind, .string x.attr.text, .int .i64 x.attr.n, .int .i64 x.value.kind, .string x.value.text, .int .i64 x.value.n, .bool x.acc, .bool x.goal, .int .i64 x.tag]] w (PutPostElem w b sn A l x) := by
  have HS := Lib.hid hS
  have HO := Lib.hid hs
  clear hS hs
  go_enter Try.func64, Try.ntmps64
  go_wp2_with fail
  refine (find_Elem b c sn A l x _ (HS.out.new_ ((Below.refl _ _).alloc (Nat.le_refl _) _)) HO.out (by omega)).mono ?_
  rintro e w1 ⟨rfl, hb1⟩
  go_wp2_with fail
  go_ret
  refine ⟨by rw [hh]; rfl, sn, A, c, ?_, Fr.of_new (((Below.refl _ _).alloc (Nat.le_refl _) _).trans (hb1.mono (by simp))), .inl ⟨rfl, rfl⟩⟩
  rw [put_has hh]
  exact HS.out.new_ (((Below.refl _ _).alloc (Nat.le_refl _) _).trans (hb1.mono (by simp)))

set_option maxRecDepth 100000 in
set_option maxHeartbeats 4000000 in
theorem put_new_Elem (b c : Nat) (sn : Bool) (A : Option Addr) (l : List Elem) (x : Elem) (w : World) (hS : ElemSet w b sn A c l) (hs : Srt cmpElem l) (hl : (l.length : Int) ≤ 100000000) (hh : has cmpElem l x = false) :
    Calls Try.prog 64 #[.pointer (some ⟨b, 0, none⟩), .agg #[.int .i64 x.id.kind, .string x.id.text, .int .i64 x.id.n, .int .i64 x.attr.kind, .string x.attr.text, .int .i64 x.attr.n, .int .i64 x.value.kind, .string x.value.text, .int .i64 x.value.n, .bool x.acc, .bool x.goal, .int .i64 x.tag]] w (PutPostElem w b sn A l x) := by
  obtain ⟨i0, hi, hz0, hz1, hz2⟩ := info_parts info_Elem
  have HS := Lib.hid hS
  have HO := Lib.hid hs
  have hb := hS.lt
  clear hS hs
  have hrk := rank_le (cmp := cmpElem) l x
  go_enter Try.func64, Try.ntmps64
  go_wp2_with fail
  have hSa := HS.out.new_ ((Below.refl w.heap.size w).alloc (Nat.le_refl _) (.cells #[Value.int IntKind.i64 x.id.kind, Value.string x.id.text, Value.int IntKind.i64 x.id.n, Value.int IntKind.i64 x.attr.kind, Value.string x.attr.text, Value.int IntKind.i64 x.attr.n, Value.int IntKind.i64 x.value.kind, Value.string x.value.text, Value.int IntKind.i64 x.value.n, Value.bool x.acc, Value.bool x.goal, Value.int IntKind.i64 x.tag] 72))
  have HSa := Lib.hid hSa
  clear hSa
  refine (find_Elem b c sn A l x _ HSa.out HO.out (by omega)).mono ?_
  rintro e w1 ⟨rfl, hb1⟩
  have HS1 := Lib.hid (HSa.out.new_ hb1)
  have hsz1 : w.heap.size + 1 ≤ w1.heap.size := by have := hb1.size; (try simp at this); omega
  have y0 := (hb1.cell (p := ⟨w.heap.size, 0, none⟩) (by simp)).trans ((Blk.new w 72 #[Value.int IntKind.i64 x.id.kind, Value.string x.id.text, Value.int IntKind.i64 x.id.n, Value.int IntKind.i64 x.attr.kind, Value.string x.attr.text, Value.int IntKind.i64 x.attr.n, Value.int IntKind.i64 x.value.kind, Value.string x.value.text, Value.int IntKind.i64 x.value.n, Value.bool x.acc, Value.bool x.goal, Value.int IntKind.i64 x.tag]).cell 0)
  have y1 := (hb1.cell (p := ⟨w.heap.size, 1, none⟩) (by simp)).trans ((Blk.new w 72 #[Value.int IntKind.i64 x.id.kind, Value.string x.id.text, Value.int IntKind.i64 x.id.n, Value.int IntKind.i64 x.attr.kind, Value.string x.attr.text, Value.int IntKind.i64 x.attr.n, Value.int IntKind.i64 x.value.kind, Value.string x.value.text, Value.int IntKind.i64 x.value.n, Value.bool x.acc, Value.bool x.goal, Value.int IntKind.i64 x.tag]).cell 1)
  have y2 := (hb1.cell (p := ⟨w.heap.size, 2, none⟩) (by simp)).trans ((Blk.new w 72 #[Value.int IntKind.i64 x.id.kind, Value.string x.id.text, Value.int IntKind.i64 x.id.n, Value.int IntKind.i64 x.attr.kind, Value.string x.attr.text, Value.int IntKind.i64 x.attr.n, Value.int IntKind.i64 x.value.kind, Value.string x.value.text, Value.int IntKind.i64 x.value.n, Value.bool x.acc, Value.bool x.goal, Value.int IntKind.i64 x.tag]).cell 2)
  have y3 := (hb1.cell (p := ⟨w.heap.size, 3, none⟩) (by simp)).trans ((Blk.new w 72 #[Value.int IntKind.i64 x.id.kind, Value.string x.id.text, Value.int IntKind.i64 x.id.n, Value.int IntKind.i64 x.attr.kind, Value.string x.attr.text, Value.int IntKind.i64 x.attr.n, Value.int IntKind.i64 x.value.kind, Value.string x.value.text, Value.int IntKind.i64 x.value.n, Value.bool x.acc, Value.bool x.goal, Value.int IntKind.i64 x.tag]).cell 3)
  have y4 := (hb1.cell (p := ⟨w.heap.size, 4, none⟩) (by simp)).trans ((Blk.new w 72 #[Value.int IntKind.i64 x.id.kind, Value.string x.id.text, Value.int IntKind.i64 x.id.n, Value.int IntKind.i64 x.attr.kind, Value.string x.attr.text, Value.int IntKind.i64 x.attr.n, Value.int IntKind.i64 x.value.kind, Value.string x.value.text, Value.int IntKind.i64 x.value.n, Value.bool x.acc, Value.bool x.goal, Value.int IntKind.i64 x.tag]).cell 4)
  have y5 := (hb1.cell (p := ⟨w.heap.size, 5, none⟩) (by simp)).trans ((Blk.new w 72 #[Value.int IntKind.i64 x.id.kind, Value.string x.id.text, Value.int IntKind.i64 x.id.n, Value.int IntKind.i64 x.attr.kind, Value.string x.attr.text, Value.int IntKind.i64 x.attr.n, Value.int IntKind.i64 x.value.kind, Value.string x.value.text, Value.int IntKind.i64 x.value.n, Value.bool x.acc, Value.bool x.goal, Value.int IntKind.i64 x.tag]).cell 5)
  have y6 := (hb1.cell (p := ⟨w.heap.size, 6, none⟩) (by simp)).trans ((Blk.new w 72 #[Value.int IntKind.i64 x.id.kind, Value.string x.id.text, Value.int IntKind.i64 x.id.n, Value.int IntKind.i64 x.attr.kind, Value.string x.attr.text, Value.int IntKind.i64 x.attr.n, Value.int IntKind.i64 x.value.kind, Value.string x.value.text, Value.int IntKind.i64 x.value.n, Value.bool x.acc, Value.bool x.goal, Value.int IntKind.i64 x.tag]).cell 6)
  have y7 := (hb1.cell (p := ⟨w.heap.size, 7, none⟩) (by simp)).trans ((Blk.new w 72 #[Value.int IntKind.i64 x.id.kind, Value.string x.id.text, Value.int IntKind.i64 x.id.n, Value.int IntKind.i64 x.attr.kind, Value.string x.attr.text, Value.int IntKind.i64 x.attr.n, Value.int IntKind.i64 x.value.kind, Value.string x.value.text, Value.int IntKind.i64 x.value.n, Value.bool x.acc, Value.bool x.goal, Value.int IntKind.i64 x.tag]).cell 7)
  have y8 := (hb1.cell (p := ⟨w.heap.size, 8, none⟩) (by simp)).trans ((Blk.new w 72 #[Value.int IntKind.i64 x.id.kind, Value.string x.id.text, Value.int IntKind.i64 x.id.n, Value.int IntKind.i64 x.attr.kind, Value.string x.attr.text, Value.int IntKind.i64 x.attr.n, Value.int IntKind.i64 x.value.kind, Value.string x.value.text, Value.int IntKind.i64 x.value.n, Value.bool x.acc, Value.bool x.goal, Value.int IntKind.i64 x.tag]).cell 8)
  have y9 := (hb1.cell (p := ⟨w.heap.size, 9, none⟩) (by simp)).trans ((Blk.new w 72 #[Value.int IntKind.i64 x.id.kind, Value.string x.id.text, Value.int IntKind.i64 x.id.n, Value.int IntKind.i64 x.attr.kind, Value.string x.attr.text, Value.int IntKind.i64 x.attr.n, Value.int IntKind.i64 x.value.kind, Value.string x.value.text, Value.int IntKind.i64 x.value.n, Value.bool x.acc, Value.bool x.goal, Value.int IntKind.i64 x.tag]).cell 9)
  have y10 := (hb1.cell (p := ⟨w.heap.size, 10, none⟩) (by simp)).trans ((Blk.new w 72 #[Value.int IntKind.i64 x.id.kind, Value.string x.id.text, Value.int IntKind.i64 x.id.n, Value.int IntKind.i64 x.attr.kind, Value.string x.attr.text, Value.int IntKind.i64 x.attr.n, Value.int IntKind.i64 x.value.kind, Value.string x.value.text, Value.int IntKind.i64 x.value.n, Value.bool x.acc, Value.bool x.goal, Value.int IntKind.i64 x.tag]).cell 10)
  have y11 := (hb1.cell (p := ⟨w.heap.size, 11, none⟩) (by simp)).trans ((Blk.new w 72 #[Value.int IntKind.i64 x.id.kind, Value.string x.id.text, Value.int IntKind.i64 x.id.n, Value.int IntKind.i64 x.attr.kind, Value.string x.attr.text, Value.int IntKind.i64 x.attr.n, Value.int IntKind.i64 x.value.kind, Value.string x.value.text, Value.int IntKind.i64 x.value.n, Value.bool x.acc, Value.bool x.goal, Value.int IntKind.i64 x.tag]).cell 11)
  have HB1 := Lib.hid hb1
  clear hb1
  go_wp2_with fail
  refine (own_Elem b c sn A l _ HS1.out (by omega)).mono ?_
  rintro e w2 ⟨rfl, A1, c1, hS2, hF2, hM2⟩
  have hsz2 : w1.heap.size ≤ w2.heap.size := hF2.size
  have x0 : w2.cell? ⟨w.heap.size, 0, none⟩ = some (.int .i64 x.id.kind) := (hF2.cell (p := ⟨w.heap.size, 0, none⟩) (by dsimp only; omega) (by dsimp only; omega)).trans y0
  have x1 : w2.cell? ⟨w.heap.size, 1, none⟩ = some (.string x.id.text) := (hF2.cell (p := ⟨w.heap.size, 1, none⟩) (by dsimp only; omega) (by dsimp only; omega)).trans y1
  have x2 : w2.cell? ⟨w.heap.size, 2, none⟩ = some (.int .i64 x.id.n) := (hF2.cell (p := ⟨w.heap.size, 2, none⟩) (by dsimp only; omega) (by dsimp only; omega)).trans y2
  have x3 : w2.cell? ⟨w.heap.size, 3, none⟩ = some (.int .i64 x.attr.kind) := (hF2.cell (p := ⟨w.heap.size, 3, none⟩) (by dsimp only; omega) (by dsimp only; omega)).trans y3
  have x4 : w2.cell? ⟨w.heap.size, 4, none⟩ = some (.string x.attr.text) := (hF2.cell (p := ⟨w.heap.size, 4, none⟩) (by dsimp only; omega) (by dsimp only; omega)).trans y4
  have x5 : w2.cell? ⟨w.heap.size, 5, none⟩ = some (.int .i64 x.attr.n) := (hF2.cell (p := ⟨w.heap.size, 5, none⟩) (by dsimp only; omega) (by dsimp only; omega)).trans y5
  have x6 : w2.cell? ⟨w.heap.size, 6, none⟩ = some (.int .i64 x.value.kind) := (hF2.cell (p := ⟨w.heap.size, 6, none⟩) (by dsimp only; omega) (by dsimp only; omega)).trans y6
  have x7 : w2.cell? ⟨w.heap.size, 7, none⟩ = some (.string x.value.text) := (hF2.cell (p := ⟨w.heap.size, 7, none⟩) (by dsimp only; omega) (by dsimp only; omega)).trans y7
  have x8 : w2.cell? ⟨w.heap.size, 8, none⟩ = some (.int .i64 x.value.n) := (hF2.cell (p := ⟨w.heap.size, 8, none⟩) (by dsimp only; omega) (by dsimp only; omega)).trans y8
  have x9 : w2.cell? ⟨w.heap.size, 9, none⟩ = some (.bool x.acc) := (hF2.cell (p := ⟨w.heap.size, 9, none⟩) (by dsimp only; omega) (by dsimp only; omega)).trans y9
  have x10 : w2.cell? ⟨w.heap.size, 10, none⟩ = some (.bool x.goal) := (hF2.cell (p := ⟨w.heap.size, 10, none⟩) (by dsimp only; omega) (by dsimp only; omega)).trans y10
  have x11 : w2.cell? ⟨w.heap.size, 11, none⟩ = some (.int .i64 x.tag) := (hF2.cell (p := ⟨w.heap.size, 11, none⟩) (by dsimp only; omega) (by dsimp only; omega)).trans y11
  have s0 := hS2.cell0
  have f0 := hS2.blk.frozen 0
  have hb2 : b < w2.heap.size := by omega
  have hk2 : w.heap.size < w2.heap.size := by omega
  have HS2 := Lib.hid hS2
  have HF2 := Lib.hid hF2
  have HM2 := Lib.hid hM2
  clear hS2 hF2 hM2 y0 y1 y2 y3 y4 y5 y6 y7 y8 y9 y10 y11
  go_wp2_with fail
  refine wp_region_E (fun w9 => Below w2.heap.size w2 w9) [(0, 0), (1, 0), (2, 0), (3, 0), (4, 1), (5, 1), (6, 2), (7, 2), (8, 0), (9, 0), (10, 2)] (by kernel_rfl) (by kernel_rfl) (fun KK hKK => ?_)
  simp only [beside, List.filterMap_cons, List.filterMap_nil, List.getElem?_toArray, List.getElem?_cons_zero, List.getElem?_cons_succ, Option.map_some]
  repeat (first | (refine wpX_w ?_ (Or.inl ⟨by rfl, fun w9 => ?_⟩) ?_; rotate_left 1; go_simp; with_reducible rfl; simp only [Act.put, List.setIfInBounds_toArray, List.set_cons_zero, List.set_cons_succ]) | (refine wpX_l ?_ (((Below.refl _ _).drew)) (Or.inl ⟨by rfl, fun w9 hw9 => ?_⟩) ?_; rotate_left 1; obtain ⟨hc9, hf9⟩ := bcell hw9; go_simp; with_reducible rfl; simp only [Act.put, List.setIfInBounds_toArray, List.set_cons_zero, List.set_cons_succ]) | (refine wpX_w undef (Or.inr ⟨by rfl, rfl⟩) ?_; simp only [Act.put, List.setIfInBounds_toArray, List.set_cons_zero, List.set_cons_succ]) | (refine wpX_l undef (((Below.refl _ _).drew)) (Or.inr ⟨by rfl, rfl⟩) ?_; simp only [Act.put, List.setIfInBounds_toArray, List.set_cons_zero, List.set_cons_succ]))
  refine wpX_es (fun K9 hK9 => ?_)
  go_simp
  refine hK9 _ _ (((Below.refl _ _).drew).alloc (Nat.le_refl _) _) ?_
  clear hK9 K9
  refine wpX_e (by kernel_rfl) (fun K9 hK9 => ?_)
  refine step_append_src _ (by rfl) _ _ _ (by rfl) 72 i0 _ 12 112 Try.underlying68 hi hz0 hz1 hz2 rfl (by omega) _ l.length (l.flatMap Elem.cells) (by rfl) (ownsRow_new HS2.out.row (((Below.refl _ _).drew).alloc (Nat.le_refl _) _)) (some ⟨w2.heap.size, 0, none⟩) 1 1 (Elem.cells x) (by rfl) (by rfl)
    (fun _ => ⟨_, rfl, World.news_of_block (heap_alloc_new _ _)⟩) (Elem.one x) (by unfold maxLen; omega) (by omega) ?_
  intro v2 w3 hown hgr hnil hat
  refine hK9 _ _ ?_
  clear hK9 K9
  obtain ⟨g, c2, rfl⟩ : ∃ g c2, v2 = .slice (some ⟨g, 0, none⟩) (l.length + 1) c2 := by
    rcases ownsRow_form hown with ⟨_, h0, _⟩ | ⟨g, c2, h, _⟩
    · omega
    · exact ⟨g, c2, h⟩
  have HXN : (Value.slice A1 l.length c1).ownBlock ≠ some w.heap.size := by
    intro h
    rcases HM2.out with ⟨hsn, hA⟩ | ⟨_, g2, hg2, hA⟩
    · rcases A1 with _ | a1
      · cases h
      · have h1 := HS.out.row_lt _ hA.symm
        simp only [Value.ownBlock, Option.some.injEq] at h
        omega
    · subst hA
      simp only [Value.ownBlock, Option.some.injEq] at h
      omega
  have HB3' := (HS2.out.blk.drew.alloc (.cells #[Value.int IntKind.i64 x.id.kind, Value.string x.id.text, Value.int IntKind.i64 x.id.n, Value.int IntKind.i64 x.attr.kind, Value.string x.attr.text, Value.int IntKind.i64 x.attr.n, Value.int IntKind.i64 x.value.kind, Value.string x.value.text, Value.int IntKind.i64 x.value.n, Value.bool x.acc, Value.bool x.goal, Value.int IntKind.i64 x.tag] 72)).grown hgr (own_blk_ne HS2.out.row HS2.out.blk (by decide))
  have c0 := (HB3'.cell 0).trans rfl
  have z0 := HB3'.frozen 0
  have HB3 := Lib.hid HB3'
  have HOWN := Lib.hid hown
  have HGR := Lib.hid hgr
  clear HB3' hown hgr
  repeat (first | (refine wpX_w ?_ (Or.inl ⟨by rfl, fun w9 => ?_⟩) ?_; rotate_left 1; go_simp; with_reducible rfl; simp only [Act.put, List.setIfInBounds_toArray, List.set_cons_zero, List.set_cons_succ]) | (refine wpX_l ?_ (((Below.refl _ _).drew).alloc (Nat.le_refl _) _) (Or.inl ⟨by rfl, fun w9 hw9 => ?_⟩) ?_; rotate_left 1; obtain ⟨hc9, hf9⟩ := bcell hw9; go_simp; with_reducible rfl; simp only [Act.put, List.setIfInBounds_toArray, List.set_cons_zero, List.set_cons_succ]) | (refine wpX_w undef (Or.inr ⟨by rfl, rfl⟩) ?_; simp only [Act.put, List.setIfInBounds_toArray, List.set_cons_zero, List.set_cons_succ]) | (refine wpX_l undef (((Below.refl _ _).drew).alloc (Nat.le_refl _) _) (Or.inr ⟨by rfl, rfl⟩) ?_; simp only [Act.put, List.setIfInBounds_toArray, List.set_cons_zero, List.set_cons_succ]))
  refine wpX_e (by kernel_rfl) (fun K9 hK9 => ?_)
  go_simp
  refine hK9 _ _ ?_
  clear hK9 K9
  refine wpX_nil ?_
  simp only [OnlyN_normal]
  refine hKK _ _ ?_
  clear hKK KK
  have hlg : ((l.length + 1 : Nat) : Int) = (l.length : Int) + 1 := by omega
  have hG : (SetMod b sn A g ∨ w.heap.size ≤ g) ∧ Moved w sn A false (some ⟨g, 0, none⟩) ∧ g ≠ w.heap.size ∧ g ≠ b := by
    rcases hat with h | h
    · rcases A1 with _ | a1
      · simp [Value.ownBlock] at h
      · obtain ⟨A', c', hv, _, _, hz⟩ := own_form2 HS2.out.row
        injection hv with hv _ _
        obtain ⟨g', rfl⟩ := hz a1 hv.symm
        have hgg : g' = g := by simpa [Value.ownBlock] using h.symm
        subst hgg
        have hne : g' ≠ b := HS2.out.row_ne (by decide) _ rfl
        rcases HM2.out with ⟨hsn, hA⟩ | ⟨_, g2, hg2, hA⟩
        · have h1 := HS.out.row_lt _ hA.symm
          exact ⟨.inl (.inr ⟨hsn.symm, _, hA.symm, rfl⟩), .inl ⟨hsn, hA⟩, by dsimp only at h1; omega, hne⟩
        · injection hA with hA
          injection hA with hA
          subst hA
          exact ⟨.inr (by omega), .inr ⟨rfl, _, by omega, rfl⟩, by omega, hne⟩
    · have hgg : g = w2.heap.size + 1 := by simpa [Value.ownBlock] using h
      subst hgg
      exact ⟨.inr (by omega), .inr ⟨rfl, _, by omega, rfl⟩, by omega, by omega⟩
  obtain ⟨hgM, hgMv, hgk1, hgb⟩ := hG
  obtain ⟨w4, hw4⟩ : ∃ w4, w4 = w3.setCell ⟨b, 0, none⟩ (.slice (some ⟨g, 0, none⟩) (l.length + 1) c2) := ⟨_, rfl⟩
  have hB4 : Blk w4 b 94 #[.slice (some ⟨g, 0, none⟩) (l.length + 1) c2, .bool false] := by rw [hw4]; exact HB3.out.set_ 0 _
  have hR4 : w4.ownsRow 0 72 12 (.slice (some ⟨g, 0, none⟩) (l.length + 1) c2) (l.length + 1) ((shiftAt l x l.length).flatMap Elem.cells) := by
    rw [hw4, shiftAt_start]
    refine ownsRow_setCell_other (a := ⟨b, 0, none⟩) ?_ (by simpa [Value.ownBlock] using hgb) _
    rw [List.flatMap_append, List.flatMap_singleton]
    exact HOWN.out
  have hF4 : Fr (SetMod b sn A) w w4 := by
    rw [hw4]
    have h1 : Fr (SetMod b sn A) w w1 := Fr.of_new (((Below.refl _ _).alloc (Nat.le_refl _) _).trans (HB1.out.mono (by simp)))
    have h2 : Fr (SetMod b sn A) w w2 := h1.trans (HF2.out.mono (fun k _ h => .inl h))
    refine ((h2.drew.alloc _).grown HGR.out (fun k hk => ?_)).setCell (p := ⟨b, 0, none⟩) (.inl (.inl rfl)) _
    rcases A1 with _ | a1
    · cases hk
    · simp only [Value.ownBlock, Option.some.injEq] at hk
      subst hk
      rcases HM2.out with ⟨hsn, hA⟩ | ⟨_, g', hg', hA⟩
      · left; right; exact ⟨hsn.symm, a1, hA.symm, rfl⟩
      · injection hA with hA
        subst hA
        right; dsimp only; omega
  have z0 : w4.cell? ⟨w.heap.size, 0, none⟩ = some (.int .i64 x.id.kind) := by
    rw [hw4, World.cell?_setCell_other _ _ _ _ (by intro h; injection h; omega)]
    refine HGR.out.cell ((World.cell?_alloc_lt w2.drew _ ⟨w.heap.size, 0, none⟩ hk2).trans x0) ?_
    intro h
    exact HXN (by simpa using h.symm)
  have z1 : w4.cell? ⟨w.heap.size, 1, none⟩ = some (.string x.id.text) := by
    rw [hw4, World.cell?_setCell_other _ _ _ _ (by intro h; injection h; omega)]
    refine HGR.out.cell ((World.cell?_alloc_lt w2.drew _ ⟨w.heap.size, 1, none⟩ hk2).trans x1) ?_
    intro h
    exact HXN (by simpa using h.symm)
  have z2 : w4.cell? ⟨w.heap.size, 2, none⟩ = some (.int .i64 x.id.n) := by
    rw [hw4, World.cell?_setCell_other _ _ _ _ (by intro h; injection h; omega)]
    refine HGR.out.cell ((World.cell?_alloc_lt w2.drew _ ⟨w.heap.size, 2, none⟩ hk2).trans x2) ?_
    intro h
    exact HXN (by simpa using h.symm)
  have z3 : w4.cell? ⟨w.heap.size, 3, none⟩ = some (.int .i64 x.attr.kind) := by
    rw [hw4, World.cell?_setCell_other _ _ _ _ (by intro h; injection h; omega)]
    refine HGR.out.cell ((World.cell?_alloc_lt w2.drew _ ⟨w.heap.size, 3, none⟩ hk2).trans x3) ?_
    intro h
    exact HXN (by simpa using h.symm)
  have z4 : w4.cell? ⟨w.heap.size, 4, none⟩ = some (.string x.attr.text) := by
    rw [hw4, World.cell?_setCell_other _ _ _ _ (by intro h; injection h; omega)]
    refine HGR.out.cell ((World.cell?_alloc_lt w2.drew _ ⟨w.heap.size, 4, none⟩ hk2).trans x4) ?_
    intro h
    exact HXN (by simpa using h.symm)
  have z5 : w4.cell? ⟨w.heap.size, 5, none⟩ = some (.int .i64 x.attr.n) := by
    rw [hw4, World.cell?_setCell_other _ _ _ _ (by intro h; injection h; omega)]
    refine HGR.out.cell ((World.cell?_alloc_lt w2.drew _ ⟨w.heap.size, 5, none⟩ hk2).trans x5) ?_
    intro h
    exact HXN (by simpa using h.symm)
  have z6 : w4.cell? ⟨w.heap.size, 6, none⟩ = some (.int .i64 x.value.kind) := by
    rw [hw4, World.cell?_setCell_other _ _ _ _ (by intro h; injection h; omega)]
    refine HGR.out.cell ((World.cell?_alloc_lt w2.drew _ ⟨w.heap.size, 6, none⟩ hk2).trans x6) ?_
    intro h
    exact HXN (by simpa using h.symm)
  have z7 : w4.cell? ⟨w.heap.size, 7, none⟩ = some (.string x.value.text) := by
    rw [hw4, World.cell?_setCell_other _ _ _ _ (by intro h; injection h; omega)]
    refine HGR.out.cell ((World.cell?_alloc_lt w2.drew _ ⟨w.heap.size, 7, none⟩ hk2).trans x7) ?_
    intro h
    exact HXN (by simpa using h.symm)
  have z8 : w4.cell? ⟨w.heap.size, 8, none⟩ = some (.int .i64 x.value.n) := by
    rw [hw4, World.cell?_setCell_other _ _ _ _ (by intro h; injection h; omega)]
    refine HGR.out.cell ((World.cell?_alloc_lt w2.drew _ ⟨w.heap.size, 8, none⟩ hk2).trans x8) ?_
    intro h
    exact HXN (by simpa using h.symm)
  have z9 : w4.cell? ⟨w.heap.size, 9, none⟩ = some (.bool x.acc) := by
    rw [hw4, World.cell?_setCell_other _ _ _ _ (by intro h; injection h; omega)]
    refine HGR.out.cell ((World.cell?_alloc_lt w2.drew _ ⟨w.heap.size, 9, none⟩ hk2).trans x9) ?_
    intro h
    exact HXN (by simpa using h.symm)
  have z10 : w4.cell? ⟨w.heap.size, 10, none⟩ = some (.bool x.goal) := by
    rw [hw4, World.cell?_setCell_other _ _ _ _ (by intro h; injection h; omega)]
    refine HGR.out.cell ((World.cell?_alloc_lt w2.drew _ ⟨w.heap.size, 10, none⟩ hk2).trans x10) ?_
    intro h
    exact HXN (by simpa using h.symm)
  have z11 : w4.cell? ⟨w.heap.size, 11, none⟩ = some (.int .i64 x.tag) := by
    rw [hw4, World.cell?_setCell_other _ _ _ _ (by intro h; injection h; omega)]
    refine HGR.out.cell ((World.cell?_alloc_lt w2.drew _ ⟨w.heap.size, 11, none⟩ hk2).trans x11) ?_
    intro h
    exact HXN (by simpa using h.symm)
  have hk4 : w.heap.size < w4.heap.size := by rw [hw4]; have := HGR.out.size; simp at this ⊢; omega
  rw [← hw4]
  have HgM := Lib.hid hgM
  have HgMv := Lib.hid hgMv
  have HB4 := Lib.hid hB4
  have HR4 := Lib.hid hR4
  have HF4 := Lib.hid hF4
  have s4 := hB4.cell 0
  have s4' : w4.cell? ⟨b, 0, none⟩ = some (.slice (some ⟨g, 0, none⟩) (l.length + 1) c2) := s4
  clear s4 hw4 hB4 hR4 hF4 hat hgM hgMv hnil x0 x1 x2 x3 x4 x5 x6 x7 x8 x9 x10 x11 s0 f0
  go_wp2_with fail
  go_loopw [7] (fun s wr => ∃ i : Nat, s = .int .i64 i ∧ rank cmpElem l x ≤ i ∧ i ≤ l.length ∧ wr.ownsRow 0 72 12 (.slice (some ⟨g, 0, none⟩) (l.length + 1) c2) (l.length + 1) ((shiftAt l x i).flatMap Elem.cells) ∧ Fr (· = g) w4 wr) (fun s wr => (intOf s).toNat)
  case atStart => exact ⟨l.length, by go_num, hrk, Nat.le_refl _, HR4.out, Fr.refl _ _⟩
  case round =>
    obtain ⟨i, rfl, hi1, hi2, hown, hfr⟩ := hrel
    have hgw : g < wr.heap.size := (hown.lt g rfl).2
    have r0 : wr.cell? ⟨b, 0, none⟩ = some (.slice (some ⟨g, 0, none⟩) (l.length + 1) c2) := (hfr.cell (p := ⟨b, 0, none⟩) HB4.out.lt (fun h => hgb h.symm)).trans s4'
    have fz : ∀ o, wr.frozen? ⟨g, o, none⟩ = false := fun o => hown.frozenAt o
    have HOW := Lib.hid hown
    have HFR := Lib.hid hfr
    clear hown hfr
    by_cases hlt : rank cmpElem l x < i
    · obtain ⟨j, rfl⟩ : ∃ j, i = j + 1 := ⟨i - 1, by omega⟩
      have hj : j < l.length := by omega
      have hrd := ownsRow_rd (A := some ⟨g, 0, none⟩) (c := c2) (l := shiftAt l x (j + 1)) Elem.cells_length (by rw [shiftAt_length l x hi2]; exact HOW.out)
      obtain ⟨g', o', hgo, _, hcell⟩ := hrd.at_ (k := j) (by rw [shiftAt_length l x hi2]; omega)
      injection hgo with hgo
      injection hgo with hg1 hg2
      subst hg1; subst hg2
      rw [shiftAt_read l x hj] at hcell
      have q0 : wr.cell? ⟨g, j * 12, none⟩ = some (.int .i64 l[j].id.kind) := by simpa using hcell 0 _ rfl
      have q1 : wr.cell? ⟨g, j * 12 + 1, none⟩ = some (.string l[j].id.text) := by simpa using hcell 1 _ rfl
      have q2 : wr.cell? ⟨g, j * 12 + 2, none⟩ = some (.int .i64 l[j].id.n) := by simpa using hcell 2 _ rfl
      have q3 : wr.cell? ⟨g, j * 12 + 3, none⟩ = some (.int .i64 l[j].attr.kind) := by simpa using hcell 3 _ rfl
      have q4 : wr.cell? ⟨g, j * 12 + 4, none⟩ = some (.string l[j].attr.text) := by simpa using hcell 4 _ rfl
      have q5 : wr.cell? ⟨g, j * 12 + 5, none⟩ = some (.int .i64 l[j].attr.n) := by simpa using hcell 5 _ rfl
      have q6 : wr.cell? ⟨g, j * 12 + 6, none⟩ = some (.int .i64 l[j].value.kind) := by simpa using hcell 6 _ rfl
      have q7 : wr.cell? ⟨g, j * 12 + 7, none⟩ = some (.string l[j].value.text) := by simpa using hcell 7 _ rfl
      have q8 : wr.cell? ⟨g, j * 12 + 8, none⟩ = some (.int .i64 l[j].value.n) := by simpa using hcell 8 _ rfl
      have q9 : wr.cell? ⟨g, j * 12 + 9, none⟩ = some (.bool l[j].acc) := by simpa using hcell 9 _ rfl
      have q10 : wr.cell? ⟨g, j * 12 + 10, none⟩ = some (.bool l[j].goal) := by simpa using hcell 10 _ rfl
      have q11 : wr.cell? ⟨g, j * 12 + 11, none⟩ = some (.int .i64 l[j].tag) := by simpa using hcell 11 _ rfl
      have rmj : Room wr g 72 (c2 * 12) ∧ l.length + 1 ≤ c2 := by
        rcases ownsRow_form HOW.out with ⟨hv, _⟩ | ⟨g', cap, hv, hn, _, hr, _⟩
        · cases hv
        · injection hv with hA _ hc
          injection hA with hA
          injection hA with hA
          subst hA; subst hc
          exact ⟨hr, hn⟩
      obtain ⟨hrm, hcap⟩ := rmj
      have b0 : (0 : Int) ≤ (j : Int) + 1 := by omega
      have b1 : (0 : Int) ≤ (j : Int) := by omega
      have b4 : (j : Int) < (l.length : Int) := by omega
      have b2 : (j : Int) < (l.length : Int) + 1 := by omega
      have b3 : (j : Int) + 1 < (l.length : Int) + 1 := by omega
      have w1 : IntKind.i64.wrap ((j : Int)) = (j : Int) := IntWalk.i64_in _ (by omega)
      have w2 : IntKind.i64.wrap ((j : Int) + 1 - 1) = (j : Int) := by rw [IntWalk.i64_in _ (by omega)]; omega
      have HRM := Lib.hid hrm
      clear hcell hrd hrm
      obtain ⟨y, hy⟩ : ∃ y, y = l[j] := ⟨_, rfl⟩
      rw [← hy] at q0 q1 q2 q3 q4 q5 q6 q7 q8 q9 q10 q11
      have HY := Lib.hid hy
      have hbw : b < wr.heap.size := World.block_lt_of_cell? wr _ r0
      clear hy
      go_wp2_with fail
      refine wp_region_E (fun w9 => Below wr.heap.size wr w9) [(0, 0), (1, 0), (2, 0), (3, 1), (4, 0), (5, 0), (6, 0), (7, 0), (8, 1), (9, 0), (10, 0), (11, 0), (12, 1), (13, 0), (14, 2)] (by kernel_rfl) (by kernel_rfl) (fun KK hKK => ?_)
      simp only [beside, List.filterMap_cons, List.filterMap_nil, List.getElem?_toArray, List.getElem?_cons_zero, List.getElem?_cons_succ, Option.map_some]
      repeat (first | (refine wpX_w ?_ (Or.inl ⟨by rfl, fun w9 => ?_⟩) ?_; rotate_left 1; go_simp; with_reducible rfl; simp only [Act.put, List.setIfInBounds_toArray, List.set_cons_zero, List.set_cons_succ]) | (refine wpX_l ?_ (((Below.refl _ _).drew)) (Or.inl ⟨by rfl, fun w9 hw9 => ?_⟩) ?_; rotate_left 1; obtain ⟨hc9, hf9⟩ := bcell hw9; go_simp; with_reducible rfl; simp only [Act.put, List.setIfInBounds_toArray, List.set_cons_zero, List.set_cons_succ]) | (refine wpX_w undef (Or.inr ⟨by rfl, rfl⟩) ?_; simp only [Act.put, List.setIfInBounds_toArray, List.set_cons_zero, List.set_cons_succ]) | (refine wpX_l undef (((Below.refl _ _).drew)) (Or.inr ⟨by rfl, rfl⟩) ?_; simp only [Act.put, List.setIfInBounds_toArray, List.set_cons_zero, List.set_cons_succ]))
      refine wpX_e (by kernel_rfl) (fun K9 hK9 => ?_)
      refine step_store_el rfl 72 (.tmp 53) (.tmp 52) rfl g ((j + 1) * 12) #[.int .i64 y.id.kind, .string y.id.text, .int .i64 y.id.n, .int .i64 y.attr.kind, .string y.attr.text, .int .i64 y.attr.n, .int .i64 y.value.kind, .string y.value.text, .int .i64 y.value.n, .bool y.acc, .bool y.goal, .int .i64 y.tag] (by rfl) (by rfl) (Room.there (w := wr.drew) HRM.out.drew (by simp; omega)) (by kernel_rfl) (all_oneCell_toArray (cs := Elem.cells y) (Elem.one y)) ?_
      refine hK9 _ _ ?_
      clear hK9 K9
      refine wpX_nil ?_
      simp only [OnlyN_normal]
      refine hKK _ _ ?_
      clear hKK KK
      go_wp2_with fail
      go_roundw
      case rel =>
        refine ⟨j, by go_num, by omega, by omega, ?_, Fr.setCells _ _ (Fr.drew HFR.out) (.inl rfl)⟩
        have hst := ownsRow_element Elem.cells_length (by omega) (show wr.drew.ownsRow 0 72 12 (.slice (some ⟨g, 0, none⟩) (l.length + 1) c2) (l.length + 1) ((shiftAt l x (j + 1)).flatMap Elem.cells) from HOW.out) (j + 1) (by rw [shiftAt_length l x hi2]; omega) y
        have e9 : (shiftAt l x (j + 1)).set (j + 1) y = shiftAt l x j := by rw [HY.out, shiftAt_step l x hj]
        rw [e9] at hst
        exact hst
      case measure => simp [intOf] <;> omega
    · obtain rfl : i = rank cmpElem l x := by omega
      have rmj : Room wr g 72 (c2 * 12) ∧ l.length + 1 ≤ c2 := by
        rcases ownsRow_form HOW.out with ⟨hv, _⟩ | ⟨g', cap, hv, hn, _, hr, _⟩
        · cases hv
        · injection hv with hA _ hc
          injection hA with hA
          injection hA with hA
          subst hA; subst hc
          exact ⟨hr, hn⟩
      obtain ⟨hrm, hcap⟩ := rmj
      obtain ⟨k, hk⟩ : ∃ k, k = rank cmpElem l x := ⟨_, rfl⟩
      rw [← hk] at hi2 hlt ⊢
      have x0 := (HFR.out.cell (p := ⟨w.heap.size, 0, none⟩) hk4 (fun h => hgk1 h.symm)).trans z0
      have x1 := (HFR.out.cell (p := ⟨w.heap.size, 1, none⟩) hk4 (fun h => hgk1 h.symm)).trans z1
      have x2 := (HFR.out.cell (p := ⟨w.heap.size, 2, none⟩) hk4 (fun h => hgk1 h.symm)).trans z2
      have x3 := (HFR.out.cell (p := ⟨w.heap.size, 3, none⟩) hk4 (fun h => hgk1 h.symm)).trans z3
      have x4 := (HFR.out.cell (p := ⟨w.heap.size, 4, none⟩) hk4 (fun h => hgk1 h.symm)).trans z4
      have x5 := (HFR.out.cell (p := ⟨w.heap.size, 5, none⟩) hk4 (fun h => hgk1 h.symm)).trans z5
      have x6 := (HFR.out.cell (p := ⟨w.heap.size, 6, none⟩) hk4 (fun h => hgk1 h.symm)).trans z6
      have x7 := (HFR.out.cell (p := ⟨w.heap.size, 7, none⟩) hk4 (fun h => hgk1 h.symm)).trans z7
      have x8 := (HFR.out.cell (p := ⟨w.heap.size, 8, none⟩) hk4 (fun h => hgk1 h.symm)).trans z8
      have x9 := (HFR.out.cell (p := ⟨w.heap.size, 9, none⟩) hk4 (fun h => hgk1 h.symm)).trans z9
      have x10 := (HFR.out.cell (p := ⟨w.heap.size, 10, none⟩) hk4 (fun h => hgk1 h.symm)).trans z10
      have x11 := (HFR.out.cell (p := ⟨w.heap.size, 11, none⟩) hk4 (fun h => hgk1 h.symm)).trans z11
      have b1 : (0 : Int) ≤ (k : Int) := by omega
      have b2 : (k : Int) < (l.length : Int) + 1 := by omega
      have HK := Lib.hid hk
      have hkw : w.heap.size < wr.heap.size := by have := HFR.out.size; omega
      have hbw : b < wr.heap.size := World.block_lt_of_cell? wr _ r0
      have HRM := Lib.hid hrm
      clear hrm hk z0 z1 z2 z3 z4 z5 z6 z7 z8 z9 z10 z11
      go_wp2_with fail
      refine wp_region_E (fun w9 => Below wr.heap.size wr w9) [(0, 0), (1, 0), (2, 0), (3, 1), (4, 0), (5, 1), (6, 0), (7, 2)] (by kernel_rfl) (by kernel_rfl) (fun KK hKK => ?_)
      simp only [beside, List.filterMap_cons, List.filterMap_nil, List.getElem?_toArray, List.getElem?_cons_zero, List.getElem?_cons_succ, Option.map_some]
      repeat (first | (refine wpX_w ?_ (Or.inl ⟨by rfl, fun w9 => ?_⟩) ?_; rotate_left 1; go_simp; with_reducible rfl; simp only [Act.put, List.setIfInBounds_toArray, List.set_cons_zero, List.set_cons_succ]) | (refine wpX_l ?_ (((Below.refl _ _).drew)) (Or.inl ⟨by rfl, fun w9 hw9 => ?_⟩) ?_; rotate_left 1; obtain ⟨hc9, hf9⟩ := bcell hw9; go_simp; with_reducible rfl; simp only [Act.put, List.setIfInBounds_toArray, List.set_cons_zero, List.set_cons_succ]) | (refine wpX_w undef (Or.inr ⟨by rfl, rfl⟩) ?_; simp only [Act.put, List.setIfInBounds_toArray, List.set_cons_zero, List.set_cons_succ]) | (refine wpX_l undef (((Below.refl _ _).drew)) (Or.inr ⟨by rfl, rfl⟩) ?_; simp only [Act.put, List.setIfInBounds_toArray, List.set_cons_zero, List.set_cons_succ]))
      refine wpX_e (by kernel_rfl) (fun K9 hK9 => ?_)
      refine step_store_el rfl 72 (.tmp 60) (.tmp 59) rfl g (k * 12) #[.int .i64 x.id.kind, .string x.id.text, .int .i64 x.id.n, .int .i64 x.attr.kind, .string x.attr.text, .int .i64 x.attr.n, .int .i64 x.value.kind, .string x.value.text, .int .i64 x.value.n, .bool x.acc, .bool x.goal, .int .i64 x.tag] (by rfl) (by rfl) (Room.there (w := wr.drew) HRM.out.drew (by simp; omega)) (by kernel_rfl) (all_oneCell_toArray (cs := Elem.cells x) (Elem.one x)) ?_
      refine hK9 _ _ ?_
      clear hK9 K9
      refine wpX_nil ?_
      simp only [OnlyN_normal]
      refine hKK _ _ ?_
      clear hKK KK
      go_wp2_with fail
      go_ret
      have HOWk := HOW.out
      rw [← HK.out] at HOWk
      have hst := ownsRow_element Elem.cells_length (by omega) (show wr.drew.ownsRow 0 72 12 (.slice (some ⟨g, 0, none⟩) (l.length + 1) c2) (l.length + 1) ((shiftAt l x k).flatMap Elem.cells) from HOWk) k (by rw [shiftAt_length l x hi2]; omega) x
      have e9 : (shiftAt l x k).set k x = put cmpElem l x := by rw [shiftAt_end l x hi2, put_eq tc_elem HO.out hh, HK.out]
      rw [e9] at hst
      have hln := length_put tc_elem HO.out hh
      refine ⟨by rw [hh]; rfl, false, some ⟨g, 0, none⟩, c2, ⟨?_, ?_⟩, ?_, ?_⟩
      · rw [hln]
        exact Blk.farCells _ _ (HB4.out.fr HFR.out (fun h => hgb h.symm)).drew (fun h => hgb h.symm)
      · rw [hln]
        exact hst
      · exact HF4.out.into (Fr.setCells _ _ (Fr.drew HFR.out) (.inl rfl)) (fun k hk => by subst hk; exact HgM.out)
      · exact HgMv.out

theorem put_Elem (b c : Nat) (sn : Bool) (A : Option Addr) (l : List Elem) (x : Elem) (w : World) (hS : ElemSet w b sn A c l) (hs : Srt cmpElem l) (hl : (l.length : Int) ≤ 100000000) :
    Calls Try.prog 64 #[.pointer (some ⟨b, 0, none⟩), .agg #[.int .i64 x.id.kind, .string x.id.text, .int .i64 x.id.n, .int .i64 x.attr.kind, .string x.attr.text, .int .i64 x.attr.n, .int .i64 x.value.kind, .string x.value.text, .int .i64 x.value.n, .bool x.acc, .bool x.goal, .int .i64 x.tag]] w (PutPostElem w b sn A l x) := by
  cases hh : has cmpElem l x
  · exact put_new_Elem b c sn A l x w hS hs hl hh
  · exact put_there_Elem b c sn A l x w hS hs hl hh
end Go.Proofs.Ythhhhjllpejpgaa
