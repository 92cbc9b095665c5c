/-
  The walks of an ordered set's Len, Place, At, Get, Clone, Same, New at ponder/book.page[ponder/sym.letter, int], and of the makers of its sequences.
-/
import Derived.Test.YtlkffnmmphehdaaDropPage
namespace Go.Proofs.Ytlkffnmmphehdaa
open Go.RowKit

set_option maxRecDepth 100000 in
set_option maxHeartbeats 1000000 in
theorem get_no_Page (b c : Nat) (sn : Bool) (A : Option Addr) (l : List Page) (x : Page) (w : World) (hS : PageSet w b sn A c l) (hs : Srt cmpPage l) (hl : (l.length : Int) ≤ 1000000000) (hh : has cmpPage l x = false) :
    Calls Try.prog 69 #[.pointer (some ⟨b, 0, none⟩), .agg #[.int .u8 x.kk, .int .i64 x.v]] w fun e w' => e = .returned (.tuple #[.agg #[.int .u8 0, .int .i64 0], .bool false]) ∧ Below w.heap.size w w' := by
  have HS := Lib.hid hS
  have HO := Lib.hid hs
  clear hS hs
  go_enter Try.func69, Try.ntmps69
  go_wp2_with fail
  refine (find_Page b c sn A l x _ (HS.out.new_ ((((Below.refl _ _).alloc (Nat.le_refl _) _).alloc (by simp) _).alloc (by simp; omega) _)) HO.out (by omega)).mono ?_
  rintro e w1 ⟨rfl, hb1⟩
  obtain ⟨hc1, hf1⟩ := bcell hb1
  have hz1 : w.heap.size + 2 < w1.heap.size := by have := hb1.size; simp at this; omega
  have HB := Lib.hid ((((((Below.refl w.heap.size w).alloc (Nat.le_refl _) _).alloc (by simp) _).alloc (by simp; omega) _)).trans (hb1.mono (by simp; omega)))
  clear hb1
  go_wp2_with fail
  exact bodyPost_ret (v := .tuple #[.agg #[.int .u8 0, .int .i64 0], .bool false]) (by simp [results, Try.results69, go_sem, hc1]) rfl ⟨rfl, by (repeat (first | exact Below.refl _ _ | exact HB.out | (refine Below.drew ?_) | (refine Below.alloc ?_ (by simp <;> omega) _) | (refine Below.setCell ?_ (by simp <;> omega) _)))⟩
set_option maxRecDepth 100000 in
set_option maxHeartbeats 1000000 in
theorem get_is_Page (b c : Nat) (sn : Bool) (A : Option Addr) (l : List Page) (x y : Page) (w : World) (hS : PageSet w b sn A c l) (hs : Srt cmpPage l) (hl : (l.length : Int) ≤ 1000000000) (hh : has cmpPage l x = true) (hy : l[rank cmpPage l x]? = some y) :
    Calls Try.prog 69 #[.pointer (some ⟨b, 0, none⟩), .agg #[.int .u8 x.kk, .int .i64 x.v]] w fun e w' => e = .returned (.tuple #[.agg #[.int .u8 y.kk, .int .i64 y.v], .bool true]) ∧ Below w.heap.size w w' := by
  have HS := Lib.hid hS
  have HO := Lib.hid hs
  obtain ⟨hrk, hye⟩ := List.getElem?_eq_some_iff.1 hy
  have hrd := hS.rd Page.cells_length
  have s0 := hS.cell0
  have hb := hS.lt
  clear hS hs hy
  obtain ⟨g, off, rfl, hgs, hcell⟩ := hrd.at_ hrk
  rw [hye] at hcell
  obtain ⟨k, hk⟩ : ∃ k, k = rank cmpPage l x := ⟨_, rfl⟩
  rw [← hk] at hcell hrk
  have q0 : w.cell? ⟨g, off + k * 2, none⟩ = some (.int .u8 y.kk) := by simpa using hcell 0 _ rfl
  have q1 : w.cell? ⟨g, off + k * 2 + 1, none⟩ = some (.int .i64 y.v) := by simpa using hcell 1 _ rfl
  have b1 : (0 : Int) ≤ (k : Int) := by omega
  have b2 : (k : Int) < (l.length : Int) := by omega
  have HK := Lib.hid hk
  clear hcell hrd hye hk
  go_enter Try.func69, Try.ntmps69
  go_wp2_with fail
  refine (find_Page b c sn _ l x _ (HS.out.new_ ((((Below.refl _ _).alloc (Nat.le_refl _) _).alloc (by simp) _).alloc (by simp; omega) _)) HO.out (by omega)).mono ?_
  rintro e w1 ⟨rfl, hb1⟩
  rw [← HK.out]
  obtain ⟨hc1, hf1⟩ := bcell hb1
  have hz1 : w.heap.size + 2 < w1.heap.size := by have := hb1.size; simp at this; omega
  have HB := Lib.hid ((((((Below.refl w.heap.size w).alloc (Nat.le_refl _) _).alloc (by simp) _).alloc (by simp; omega) _)).trans (hb1.mono (by simp; omega)))
  clear hb1
  have r0 := (HB.out.cell (p := ⟨b, 0, none⟩) hb).trans s0
  have r1 := (HB.out.cell (p := ⟨g, off + k * 2, none⟩) hgs).trans q0
  have r2 := (HB.out.cell (p := ⟨g, off + k * 2 + 1, none⟩) hgs).trans q1
  clear s0 q0 q1
  go_wp2_with fail
  exact bodyPost_ret (v := .tuple #[.agg #[.int .u8 y.kk, .int .i64 y.v], .bool true]) (by simp [results, Try.results69, go_sem, hc1]) rfl ⟨rfl, by (repeat (first | exact Below.refl _ _ | exact HB.out | (refine Below.drew ?_) | (refine Below.alloc ?_ (by simp <;> omega) _) | (refine Below.setCell ?_ (by simp <;> omega) _)))⟩

/-- Behind Clone: two sets over one list, each marked as seen. -/
def ClonePostPage (w : World) (b : Nat) (A : Option Addr) (c : Nat) (l : List Page) (e : Ending) (w' : World) : Prop :=
  ∃ k, e = .returned (.pointer (some ⟨k, 0, none⟩)) ∧ w.heap.size ≤ k ∧ PageSet w' b true A c l ∧ PageSet w' k true A c l ∧ Fr (· = b) w w'
set_option maxRecDepth 100000 in
set_option maxHeartbeats 1000000 in
theorem clone_Page (b c : Nat) (sn : Bool) (A : Option Addr) (l : List Page) (w : World) (hS : PageSet w b sn A c l) :
    Calls Try.prog 71 #[.pointer (some ⟨b, 0, none⟩)] w (ClonePostPage w b A c l) := by
  have s0 := hS.cell0
  have s1 := hS.cell1
  have f1 := hS.blk.frozen 1
  have hb := hS.lt
  have HS := Lib.hid hS
  clear hS
  go_enter Try.func71, Try.ntmps71
  go_wp2
  go_ret
  have h1 : PageSet (w.setCell ⟨b, 1, none⟩ (.bool true)) b true A c l := ⟨HS.out.blk.set_ 1 _, ownsRow_setCell_other HS.out.row (own_blk_ne HS.out.row HS.out.blk (by decide)) _⟩
  refine ⟨w.heap.size, by simp, Nat.le_refl _, h1.new_ ((Below.refl _ _).alloc (Nat.le_refl _) _), ⟨?_, ownsRow_new h1.row ((Below.refl _ _).alloc (Nat.le_refl _) _)⟩, ((Fr.refl (· = b) w).setCell (p := ⟨b, 1, none⟩) (.inl rfl) _).alloc _⟩
  have h2 := Blk.new (w.setCell ⟨b, 1, none⟩ (.bool true)) 98 #[.slice A l.length c, .bool true]
  simpa using h2
end Go.Proofs.Ytlkffnmmphehdaa
