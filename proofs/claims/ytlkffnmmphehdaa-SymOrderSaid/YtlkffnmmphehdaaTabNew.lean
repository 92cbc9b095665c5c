/-
  The walks of a table of symbols: New, Len, Next, and of a map's New.
-/
import Derived.Test.YtlkffnmmphehdaaBookPut2
import Derived.Test.YtlkffnmmphehdaaSymValid
namespace Go.Proofs.Ytlkffnmmphehdaa
open Go.RowKit
/-- Where a table lies: its block, its room, its set of symbols, its map, that one's set of pages. -/
structure TB where
  b : Nat
  room : Int
  bs : Nat
  bm : Nat
  bp : Nat
def TabBlk (w : World) (T : TB) : Prop := Blk w T.b 75 #[.int .i64 T.room, .pointer (some ⟨T.bs, 0, none⟩), .pointer (some ⟨T.bm, 0, none⟩)] ∧ Blk w T.bm 89 #[.pointer (some ⟨T.bp, 0, none⟩)]
theorem TabBlk.kb {w w' : World} {T : TB} (h : TabBlk w T) (hk : KB w w') : TabBlk w' T := ⟨hk _ _ _ (by decide) (by decide) (by decide) (by decide) h.1, hk _ _ _ (by decide) (by decide) (by decide) (by decide) h.2⟩
theorem TabBlk.below {w w' : World} {T : TB} (h : TabBlk w T) (hk : Below w.heap.size w w') : TabBlk w' T := ⟨h.1.new_ hk, h.2.new_ hk⟩
section
variable {D : Nat → Prop} {w : World} {S : Nat → Option (List Sym)} {σ : Nat → St} {S2 : Nat → Option (List Page)} {σ2 : Nat → St}
/-- A new map. -/
def MadeMap (D : Nat → Prop) (w : World) (S : Nat → Option (List Sym)) (σ : Nat → St) (S2 : Nat → Option (List Page)) (e : Ending) (w' : World) : Prop :=
  ∃ bm bp, e = .returned (.pointer (some ⟨bm, 0, none⟩)) ∧ Blk w' bm 89 #[.pointer (some ⟨bp, 0, none⟩)] ∧ (∃ σ2', Tabs D w' S σ (upd S2 bp (some [])) σ2') ∧ Below w.heap.size w w' ∧ w.heap.size ≤ bm ∧ w.heap.size ≤ bp
set_option maxHeartbeats 1000000 in
theorem booknew_is (hT : Tabs D w S σ S2 σ2) : Calls Try.prog 49 #[] w (MadeMap D w S σ S2) := by
  have HT := Lib.hid hT
  clear hT
  go_enter Try.func49, Try.ntmps49
  go_wp2_with fail
  refine (sNew_Page none 0 [] HT.out.pages (RowRd.nil _ _ _) (by simp)).mono ?_
  rintro e w1 ⟨⟨k, rfl, hk, _, σ', h1, _⟩, hB⟩
  have HB := Lib.hid hB
  have H1 := Lib.hid (show Tabs D w1 S σ (upd S2 k (some [])) σ' from ⟨HT.out.syms.below hB, h1⟩)
  clear hB h1
  go_wp2_with fail
  go_ret
  have hz := HB.out.size
  exact ⟨w1.heap.size, k, rfl, Blk.new _ _ _, ⟨σ', H1.out.below ((Below.refl _ _).alloc (Nat.le_refl _) _)⟩, HB.out.alloc hz _, hz, hk⟩
/-- A new table. -/
def MadeTab (D : Nat → Prop) (w : World) (S : Nat → Option (List Sym)) (S2 : Nat → Option (List Page)) (room : Int) (e : Ending) (w' : World) : Prop :=
  ∃ T : TB, e = .returned (.tuple #[.pointer (some ⟨T.b, 0, none⟩), .int .i64 0]) ∧ T.room = room ∧ TabBlk w' T ∧ (∃ σ' σ2', Tabs D w' (upd S T.bs (some [])) σ' (upd S2 T.bp (some [])) σ2') ∧ Below w.heap.size w w' ∧ w.heap.size ≤ T.bs ∧ w.heap.size ≤ T.bp
set_option maxHeartbeats 1000000 in
theorem tabnew_is (room : Int) (h1 : 1 ≤ room) (h2 : room ≤ 4096) (hT : Tabs D w S σ S2 σ2) : Calls Try.prog 21 #[.int .i64 room] w (MadeTab D w S S2 room) := by
  have HT := Lib.hid hT
  have t1 : decide (room < 1) = false := by simp; omega
  have t2 : decide ((4096 : Int) < room) = false := by simp; omega
  clear hT h1 h2
  go_enter Try.func21, Try.ntmps21
  go_wp2_with fail
  refine (sNew_Sym none 0 [] HT.out.syms (RowRd.nil _ _ _) (by simp)).mono ?_
  rintro e w1 ⟨⟨k, rfl, hk, _, σ', h1, _⟩, hB⟩
  have HB := Lib.hid hB
  have H1 := Lib.hid (show Tabs D w1 (upd S k (some [])) σ' S2 σ2 from ⟨h1, HT.out.pages.below hB⟩)
  clear hB h1
  go_wp2_with fail
  refine (booknew_is H1.out).mono ?_
  rintro e w2 ⟨bm, bp, rfl, hM, ⟨σ2', h2⟩, hB2, hbm, hbp⟩
  have HM := Lib.hid hM
  have H2 := Lib.hid h2
  have hz1 := HB.out.size
  have hz2 := hB2.size
  have HB2 := Lib.hid (HB.out.trans (hB2.mono hz1))
  clear hM h2 hB2
  go_wp2_with fail
  go_ret2
  have hnew : Below w2.heap.size w2 (w2.alloc (.cells #[.int .i64 room, .pointer (some ⟨k, 0, none⟩), .pointer (some ⟨bm, 0, none⟩)] 75)) := (Below.refl _ _).alloc (Nat.le_refl _) _
  exact ⟨⟨w2.heap.size, room, k, bm, bp⟩, rfl, rfl, ⟨Blk.new _ _ _, HM.out.new_ hnew⟩, ⟨σ', σ2', H2.out.below hnew⟩, HB2.out.alloc (by omega) _, hk, by dsimp only; omega⟩
set_option maxHeartbeats 1000000 in
theorem tabnew_no (room : Int) (h : room < 1 ∨ 4096 < room) (w : World) : Calls Try.prog 21 #[.int .i64 room] w fun e w' => e = .returned (.tuple #[.pointer none, .int .i64 1]) ∧ w = w' := by
  by_cases h1 : room < 1
  · have t1 : decide (room < 1) = true := by simpa using h1
    clear h
    go_enter Try.func21, Try.ntmps21
    go_wp2_with fail
    go_ret2
    exact ⟨rfl, rfl⟩
  · have t1 : decide (room < 1) = false := by simpa using h1
    have t2 : decide ((4096 : Int) < room) = true := by simp; omega
    clear h
    go_enter Try.func21, Try.ntmps21
    go_wp2_with fail
    go_ret2
    exact ⟨rfl, rfl⟩
/-- One above the greatest number of a letter's identifiers. -/
def nextB (m : List Page) (c : UInt8) : Int := if greatB c = true then (mget m c).getD 1 else 0
set_option maxHeartbeats 1000000 in
theorem next_is (T : TB) (m : List Page) (c : UInt8) (hT : Tabs D w S σ S2 σ2) (hB : TabBlk w T) (hb : S2 T.bp = some m) (hl : (m.length : Int) ≤ 1000000) :
    Calls Try.prog 29 #[.pointer (some ⟨T.b, 0, none⟩), .int .u8 (c.toNat : Int)] w fun e w' => e = .returned (.int .i64 (nextB m c)) ∧ Below w.heap.size w w' := by
  have hS := hT.pages.at_ T.bp m hb
  have hs := hT.pages.srt T.bp m hb
  have HS := Lib.hid hS
  have HO := Lib.hid hs
  have HB := Lib.hid hB
  have s2 := (hB.1.cell 2).trans rfl
  clear hT hB hb hS hs
  cases hg : greatB c
  · have HN : Hid (nextB m c = 0) := Lib.hid (by unfold nextB; rw [hg]; rfl)
    go_enter Try.func29, Try.ntmps29
    go_wp2_with (go_at_call 37; refine (great_is _ _).mono ?_; rintro e w' ⟨rfl, rfl⟩)
    go_ret
    exact ⟨by rw [HN.out] <;> rfl, Below.refl _ _⟩
  · cases hh : has cmpPage m ⟨c, 0⟩
    · have HN : Hid (nextB m c = 1) := Lib.hid (by unfold nextB; rw [hg, mget_none hh]; rfl)
      have HH := Lib.hid hh
      clear hh
      go_enter Try.func29, Try.ntmps29
      go_wp2_with (first | (go_at_call 37; refine (great_is _ _).mono ?_; rintro e w' ⟨rfl, rfl⟩) | (go_at_call 56; refine (mapget_no T.bm T.bp _ _ _ m c _ HB.out.2 HS.out HO.out hl HH.out).mono ?_; rintro e w' ⟨rfl, hb1⟩))
      go_ret
      exact ⟨by rw [HN.out] <;> rfl, hb1⟩
    · obtain ⟨y, hy, _, hm⟩ := found_page HO.out hh
      have HN : Hid (nextB m c = y.v) := Lib.hid (by unfold nextB; rw [hg, hm]; rfl)
      have HH := Lib.hid hh
      have HY := Lib.hid hy
      clear hh hy hm
      go_enter Try.func29, Try.ntmps29
      go_wp2_with (first | (go_at_call 37; refine (great_is _ _).mono ?_; rintro e w' ⟨rfl, rfl⟩) | (go_at_call 56; refine (mapget_is T.bm T.bp _ _ _ m c y _ HB.out.2 HS.out HO.out hl HH.out HY.out).mono ?_; rintro e w' ⟨rfl, hb1⟩))
      go_ret
      exact ⟨by rw [HN.out] <;> rfl, hb1⟩
set_option maxHeartbeats 1000000 in
theorem tablen_is (T : TB) (l : List Sym) (hT : Tabs D w S σ S2 σ2) (hB : TabBlk w T) (hb : S T.bs = some l) :
    Calls Try.prog 31 #[.pointer (some ⟨T.b, 0, none⟩)] w fun e w' => e = .returned (.int .i64 l.length) ∧ w = w' := by
  have HS := Lib.hid (hT.syms.at_ T.bs l hb)
  have s1 := (hB.1.cell 1).trans rfl
  clear hT hB hb
  go_enter Try.func31, Try.ntmps31
  go_wp2_with fail
  refine (len_Sym T.bs _ _ _ l _ HS.out).mono ?_
  rintro e w' ⟨rfl, rfl⟩
  go_wp2_with fail
  go_ret
  exact ⟨rfl, rfl⟩
end
end Go.Proofs.Ytlkffnmmphehdaa
