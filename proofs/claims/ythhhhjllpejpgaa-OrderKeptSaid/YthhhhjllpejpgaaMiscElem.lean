/-
  The walks of an ordered set's Len, Place, At, Get, Clone, Same, New at ponder/api.Elem, and of the makers of its sequences.
-/
import Derived.Test.YthhhhjllpejpgaaPutElem
import Derived.Test.YthhhhjllpejpgaaStore
namespace Go.Proofs.Ythhhhjllpejpgaa
open Go.RowKit

set_option maxRecDepth 100000 in
set_option maxHeartbeats 400000 in
theorem place_Elem (b c : Nat) (sn : Bool) (A : Option Addr) (l : List Elem) (x : Elem) (w : World) (hS : ElemSet w b sn A c l) (hs : Srt cmpElem l) (hl : (l.length : Int) ≤ 1000000000) :
    Calls Try.prog 69 #[.pointer (some ⟨b, 0, none⟩), .agg #[.int .i64 x.id.kind, .string x.id.text, .int .i64 x.id.n, .int .i64 x.attr.kind, .string x.attr.text, .int .i64 x.attr.n, .int .i64 x.value.kind, .string x.value.text, .int .i64 x.value.n, .bool x.acc, .bool x.goal, .int .i64 x.tag]] w (FoundElem l x w) := by
  have HS := Lib.hid hS
  have HO := Lib.hid hs
  clear hS hs
  go_enter Try.func69, Try.ntmps69
  go_wp2_with fail
  refine (find_Elem b c sn A l x _ (HS.out.new_ ((Below.refl _ _).alloc (Nat.le_refl _) _)) HO.out (by omega)).mono ?_
  rintro e w1 ⟨rfl, hb1⟩
  go_wp2_with fail
  go_ret2
  exact ⟨rfl, ((Below.refl _ _).alloc (Nat.le_refl _) _).trans (hb1.mono (by simp))⟩

set_option maxRecDepth 100000 in
set_option maxHeartbeats 4000000 in
theorem get_no_Elem (b c : Nat) (sn : Bool) (A : Option Addr) (l : List Elem) (x : Elem) (w : World) (hS : ElemSet w b sn A c l) (hs : Srt cmpElem l) (hl : (l.length : Int) ≤ 1000000000) (hh : has cmpElem l x = false) :
    Calls Try.prog 49 #[.pointer (some ⟨b, 0, none⟩), .agg #[.int .i64 x.id.kind, .string x.id.text, .int .i64 x.id.n, .int .i64 x.attr.kind, .string x.attr.text, .int .i64 x.attr.n, .int .i64 x.value.kind, .string x.value.text, .int .i64 x.value.n, .bool x.acc, .bool x.goal, .int .i64 x.tag]] w fun e w' => e = .returned (.tuple #[.agg #[.int .i64 0, .string ⟨#[]⟩, .int .i64 0, .int .i64 0, .string ⟨#[]⟩, .int .i64 0, .int .i64 0, .string ⟨#[]⟩, .int .i64 0, .bool false, .bool false, .int .i64 0], .bool false]) ∧ Below w.heap.size w w' := by
  have HS := Lib.hid hS
  have HO := Lib.hid hs
  clear hS hs
  go_enter Try.func49, Try.ntmps49
  go_wp2_with fail
  obtain ⟨W, hW⟩ : ∃ W, W = ((w.alloc (.cells #[Value.int IntKind.i64 x.id.kind, Value.string x.id.text, Value.int IntKind.i64 x.id.n, Value.int IntKind.i64 x.attr.kind, Value.string x.attr.text, Value.int IntKind.i64 x.attr.n, Value.int IntKind.i64 x.value.kind, Value.string x.value.text, Value.int IntKind.i64 x.value.n, Value.bool x.acc, Value.bool x.goal, Value.int IntKind.i64 x.tag] 72)).alloc (.cells #[.int .i64 0, .string ⟨#[]⟩, .int .i64 0, .int .i64 0, .string ⟨#[]⟩, .int .i64 0, .int .i64 0, .string ⟨#[]⟩, .int .i64 0, .bool false, .bool false, .int .i64 0] 72)).alloc (.cells #[.int .i64 0, .string ⟨#[]⟩, .int .i64 0, .int .i64 0, .string ⟨#[]⟩, .int .i64 0, .int .i64 0, .string ⟨#[]⟩, .int .i64 0, .bool false, .bool false, .int .i64 0] 72) := ⟨_, rfl⟩
  have hR : Blk W (w.heap.size + 1) 72 #[.int .i64 0, .string ⟨#[]⟩, .int .i64 0, .int .i64 0, .string ⟨#[]⟩, .int .i64 0, .int .i64 0, .string ⟨#[]⟩, .int .i64 0, .bool false, .bool false, .int .i64 0] := by
    rw [hW]
    have := (Blk.new (w.alloc (.cells #[Value.int IntKind.i64 x.id.kind, Value.string x.id.text, Value.int IntKind.i64 x.id.n, Value.int IntKind.i64 x.attr.kind, Value.string x.attr.text, Value.int IntKind.i64 x.attr.n, Value.int IntKind.i64 x.value.kind, Value.string x.value.text, Value.int IntKind.i64 x.value.n, Value.bool x.acc, Value.bool x.goal, Value.int IntKind.i64 x.tag] 72)) 72 #[.int .i64 0, .string ⟨#[]⟩, .int .i64 0, .int .i64 0, .string ⟨#[]⟩, .int .i64 0, .int .i64 0, .string ⟨#[]⟩, .int .i64 0, .bool false, .bool false, .int .i64 0]).alloc (.cells #[.int .i64 0, .string ⟨#[]⟩, .int .i64 0, .int .i64 0, .string ⟨#[]⟩, .int .i64 0, .int .i64 0, .string ⟨#[]⟩, .int .i64 0, .bool false, .bool false, .int .i64 0] 72)
    simpa using this
  have hZ : Blk W (w.heap.size + 1 + 1) 72 #[.int .i64 0, .string ⟨#[]⟩, .int .i64 0, .int .i64 0, .string ⟨#[]⟩, .int .i64 0, .int .i64 0, .string ⟨#[]⟩, .int .i64 0, .bool false, .bool false, .int .i64 0] := by
    rw [hW]
    have := Blk.new ((w.alloc (.cells #[Value.int IntKind.i64 x.id.kind, Value.string x.id.text, Value.int IntKind.i64 x.id.n, Value.int IntKind.i64 x.attr.kind, Value.string x.attr.text, Value.int IntKind.i64 x.attr.n, Value.int IntKind.i64 x.value.kind, Value.string x.value.text, Value.int IntKind.i64 x.value.n, Value.bool x.acc, Value.bool x.goal, Value.int IntKind.i64 x.tag] 72)).alloc (.cells #[.int .i64 0, .string ⟨#[]⟩, .int .i64 0, .int .i64 0, .string ⟨#[]⟩, .int .i64 0, .int .i64 0, .string ⟨#[]⟩, .int .i64 0, .bool false, .bool false, .int .i64 0] 72)) 72 #[.int .i64 0, .string ⟨#[]⟩, .int .i64 0, .int .i64 0, .string ⟨#[]⟩, .int .i64 0, .int .i64 0, .string ⟨#[]⟩, .int .i64 0, .bool false, .bool false, .int .i64 0]
    simpa using this
  have hB0 : Below w.heap.size w W := by rw [hW]; exact (((Below.refl w.heap.size w).alloc (Nat.le_refl _) _).alloc (by simp) _).alloc (by simp; omega) _
  rw [← hW]
  clear hW
  refine (find_Elem b c sn A l x _ (HS.out.new_ hB0) HO.out (by omega)).mono ?_
  rintro e w1 ⟨rfl, hb1⟩
  have HR := Lib.hid (hR.new_ hb1)
  have HZ := Lib.hid (hZ.new_ hb1)
  have HB := Lib.hid (hB0.trans (hb1.mono hB0.size))
  have hrl := (hR.new_ hb1).lt
  clear hb1 hB0 hR hZ
  go_wp2_with (first | (with_reducible refine wpList_load_mid rfl 72 _ rfl (w.heap.size + 1 + 1) 0 rfl [.int .i64 0, .string ⟨#[]⟩, .int .i64 0, .int .i64 0, .string ⟨#[]⟩, .int .i64 0, .int .i64 0, .string ⟨#[]⟩, .int .i64 0, .bool false, .bool false, .int .i64 0] _ HZ.out.range Try.underlying72 rfl (by kernel_rfl) ?_) | (with_reducible refine wpList_store_mid rfl 72 _ _ rfl (w.heap.size + 1) 0 #[.int .i64 0, .string ⟨#[]⟩, .int .i64 0, .int .i64 0, .string ⟨#[]⟩, .int .i64 0, .int .i64 0, .string ⟨#[]⟩, .int .i64 0, .bool false, .bool false, .int .i64 0] rfl rfl HR.out.there (by kernel_rfl) (by kernel_rfl) ?_))
  try simp only [Exit.inBlock, Exit.then]
  refine bodyPost_ret (v := .tuple #[.agg #[.int .i64 0, .string ⟨#[]⟩, .int .i64 0, .int .i64 0, .string ⟨#[]⟩, .int .i64 0, .int .i64 0, .string ⟨#[]⟩, .int .i64 0, .bool false, .bool false, .int .i64 0], .bool false]) ?_ rfl ⟨rfl, Below.setCells' _ _ HB.out (by omega)⟩
  exact results_cell_tmp (t := 4) (s := 5) (T := 72) rfl _ _ (w.heap.size + 1) [.int .i64 0, .string ⟨#[]⟩, .int .i64 0, .int .i64 0, .string ⟨#[]⟩, .int .i64 0, .int .i64 0, .string ⟨#[]⟩, .int .i64 0, .bool false, .bool false, .int .i64 0] _ rfl (World.rangeAt_setCells_same w1 (w.heap.size + 1) 0 [.int .i64 0, .string ⟨#[]⟩, .int .i64 0, .int .i64 0, .string ⟨#[]⟩, .int .i64 0, .int .i64 0, .string ⟨#[]⟩, .int .i64 0, .bool false, .bool false, .int .i64 0] HR.out.there) Try.underlying72 rfl (by kernel_rfl)
set_option maxRecDepth 100000 in
set_option maxHeartbeats 4000000 in
theorem get_is_Elem (b c : Nat) (sn : Bool) (A : Option Addr) (l : List Elem) (x y : Elem) (w : World) (hS : ElemSet w b sn A c l) (hs : Srt cmpElem l) (hl : (l.length : Int) ≤ 1000000000) (hh : has cmpElem l x = true) (hy : l[rank cmpElem l x]? = some y) :
    Calls Try.prog 49 #[.pointer (some ⟨b, 0, none⟩), .agg #[.int .i64 x.id.kind, .string x.id.text, .int .i64 x.id.n, .int .i64 x.attr.kind, .string x.attr.text, .int .i64 x.attr.n, .int .i64 x.value.kind, .string x.value.text, .int .i64 x.value.n, .bool x.acc, .bool x.goal, .int .i64 x.tag]] w fun e w' => e = .returned (.tuple #[.agg #[.int .i64 y.id.kind, .string y.id.text, .int .i64 y.id.n, .int .i64 y.attr.kind, .string y.attr.text, .int .i64 y.attr.n, .int .i64 y.value.kind, .string y.value.text, .int .i64 y.value.n, .bool y.acc, .bool y.goal, .int .i64 y.tag], .bool true]) ∧ Below w.heap.size w w' := by
  have HS := Lib.hid hS
  have HO := Lib.hid hs
  obtain ⟨hrk, hye⟩ := List.getElem?_eq_some_iff.1 hy
  have hrd := hS.rd Elem.cells_length
  have s0 := hS.cell0
  have hb := hS.lt
  clear hS hs hy
  obtain ⟨g, off, rfl, hgs, hrg⟩ := hrd.range hrk
  rw [hye] at hrg
  obtain ⟨k, hk⟩ : ∃ k, k = rank cmpElem l x := ⟨_, rfl⟩
  rw [← hk] at hrg hrk
  have b1 : (0 : Int) ≤ (k : Int) := by omega
  have b2 : (k : Int) < (l.length : Int) := by omega
  have HK := Lib.hid hk
  have HRG := Lib.hid hrg
  clear hrg hrd hye hk
  go_enter Try.func49, Try.ntmps49
  go_wp2_with fail
  obtain ⟨W, hW⟩ : ∃ W, W = ((w.alloc (.cells #[Value.int IntKind.i64 x.id.kind, Value.string x.id.text, Value.int IntKind.i64 x.id.n, Value.int IntKind.i64 x.attr.kind, Value.string x.attr.text, Value.int IntKind.i64 x.attr.n, Value.int IntKind.i64 x.value.kind, Value.string x.value.text, Value.int IntKind.i64 x.value.n, Value.bool x.acc, Value.bool x.goal, Value.int IntKind.i64 x.tag] 72)).alloc (.cells #[.int .i64 0, .string ⟨#[]⟩, .int .i64 0, .int .i64 0, .string ⟨#[]⟩, .int .i64 0, .int .i64 0, .string ⟨#[]⟩, .int .i64 0, .bool false, .bool false, .int .i64 0] 72)).alloc (.cells #[.int .i64 0, .string ⟨#[]⟩, .int .i64 0, .int .i64 0, .string ⟨#[]⟩, .int .i64 0, .int .i64 0, .string ⟨#[]⟩, .int .i64 0, .bool false, .bool false, .int .i64 0] 72) := ⟨_, rfl⟩
  have hR : Blk W (w.heap.size + 1) 72 #[.int .i64 0, .string ⟨#[]⟩, .int .i64 0, .int .i64 0, .string ⟨#[]⟩, .int .i64 0, .int .i64 0, .string ⟨#[]⟩, .int .i64 0, .bool false, .bool false, .int .i64 0] := by
    rw [hW]
    have := (Blk.new (w.alloc (.cells #[Value.int IntKind.i64 x.id.kind, Value.string x.id.text, Value.int IntKind.i64 x.id.n, Value.int IntKind.i64 x.attr.kind, Value.string x.attr.text, Value.int IntKind.i64 x.attr.n, Value.int IntKind.i64 x.value.kind, Value.string x.value.text, Value.int IntKind.i64 x.value.n, Value.bool x.acc, Value.bool x.goal, Value.int IntKind.i64 x.tag] 72)) 72 #[.int .i64 0, .string ⟨#[]⟩, .int .i64 0, .int .i64 0, .string ⟨#[]⟩, .int .i64 0, .int .i64 0, .string ⟨#[]⟩, .int .i64 0, .bool false, .bool false, .int .i64 0]).alloc (.cells #[.int .i64 0, .string ⟨#[]⟩, .int .i64 0, .int .i64 0, .string ⟨#[]⟩, .int .i64 0, .int .i64 0, .string ⟨#[]⟩, .int .i64 0, .bool false, .bool false, .int .i64 0] 72)
    simpa using this
  have hB0 : Below w.heap.size w W := by rw [hW]; exact (((Below.refl w.heap.size w).alloc (Nat.le_refl _) _).alloc (by simp) _).alloc (by simp; omega) _
  rw [← hW]
  clear hW
  refine (find_Elem b c sn _ l x _ (HS.out.new_ hB0) HO.out (by omega)).mono ?_
  rintro e w1 ⟨rfl, hb1⟩
  rw [← HK.out]
  have HR := Lib.hid (hR.new_ hb1)
  have HB := Lib.hid (hB0.trans (hb1.mono hB0.size))
  have hrl := (hR.new_ hb1).lt
  have r0 : w1.cell? ⟨b, 0, none⟩ = some (.slice (some ⟨g, off, none⟩) l.length c) := (HB.out.cell (p := ⟨b, 0, none⟩) hb).trans s0
  have HTH := Lib.hid (show w1.there (w.heap.size + 1) 0 (#[Value.int IntKind.i64 y.id.kind, Value.string y.id.text, Value.int IntKind.i64 y.id.n, Value.int IntKind.i64 y.attr.kind, Value.string y.attr.text, Value.int IntKind.i64 y.attr.n, Value.int IntKind.i64 y.value.kind, Value.string y.value.text, Value.int IntKind.i64 y.value.n, Value.bool y.acc, Value.bool y.goal, Value.int IntKind.i64 y.tag] : Array Value).size from HR.out.there)
  have HRG1 := Lib.hid (show w1.rangeAt g (off + k * 12) [Value.int IntKind.i64 y.id.kind, Value.string y.id.text, Value.int IntKind.i64 y.id.n, Value.int IntKind.i64 y.attr.kind, Value.string y.attr.text, Value.int IntKind.i64 y.attr.n, Value.int IntKind.i64 y.value.kind, Value.string y.value.text, Value.int IntKind.i64 y.value.n, Value.bool y.acc, Value.bool y.goal, Value.int IntKind.i64 y.tag] from rangeAt_below HRG.out HB.out hgs)
  clear hb1 hB0 hR s0
  go_wp2_with (first | (with_reducible refine wpList_load_mid rfl 72 _ rfl g (off + k * 12) rfl [Value.int IntKind.i64 y.id.kind, Value.string y.id.text, Value.int IntKind.i64 y.id.n, Value.int IntKind.i64 y.attr.kind, Value.string y.attr.text, Value.int IntKind.i64 y.attr.n, Value.int IntKind.i64 y.value.kind, Value.string y.value.text, Value.int IntKind.i64 y.value.n, Value.bool y.acc, Value.bool y.goal, Value.int IntKind.i64 y.tag] _ HRG1.out Try.underlying72 rfl (by kernel_rfl) ?_) | (with_reducible refine wpList_store_mid rfl 72 _ _ rfl (w.heap.size + 1) 0 #[Value.int IntKind.i64 y.id.kind, Value.string y.id.text, Value.int IntKind.i64 y.id.n, Value.int IntKind.i64 y.attr.kind, Value.string y.attr.text, Value.int IntKind.i64 y.attr.n, Value.int IntKind.i64 y.value.kind, Value.string y.value.text, Value.int IntKind.i64 y.value.n, Value.bool y.acc, Value.bool y.goal, Value.int IntKind.i64 y.tag] rfl rfl HTH.out (by kernel_rfl) (by kernel_rfl) ?_))
  try simp only [Exit.inBlock, Exit.then]
  refine bodyPost_ret (v := .tuple #[.agg #[.int .i64 y.id.kind, .string y.id.text, .int .i64 y.id.n, .int .i64 y.attr.kind, .string y.attr.text, .int .i64 y.attr.n, .int .i64 y.value.kind, .string y.value.text, .int .i64 y.value.n, .bool y.acc, .bool y.goal, .int .i64 y.tag], .bool true]) ?_ rfl ⟨rfl, Below.setCells' _ _ HB.out (by omega)⟩
  exact results_cell_tmp (t := 4) (s := 5) (T := 72) rfl _ _ (w.heap.size + 1) [Value.int IntKind.i64 y.id.kind, Value.string y.id.text, Value.int IntKind.i64 y.id.n, Value.int IntKind.i64 y.attr.kind, Value.string y.attr.text, Value.int IntKind.i64 y.attr.n, Value.int IntKind.i64 y.value.kind, Value.string y.value.text, Value.int IntKind.i64 y.value.n, Value.bool y.acc, Value.bool y.goal, Value.int IntKind.i64 y.tag] _ rfl (World.rangeAt_setCells_same w1 (w.heap.size + 1) 0 [Value.int IntKind.i64 y.id.kind, Value.string y.id.text, Value.int IntKind.i64 y.id.n, Value.int IntKind.i64 y.attr.kind, Value.string y.attr.text, Value.int IntKind.i64 y.attr.n, Value.int IntKind.i64 y.value.kind, Value.string y.value.text, Value.int IntKind.i64 y.value.n, Value.bool y.acc, Value.bool y.goal, Value.int IntKind.i64 y.tag] HTH.out) Try.underlying72 rfl (by kernel_rfl)

/-- Behind Clone: two sets over one list, each marked as seen. -/
def ClonePostElem (w : World) (b : Nat) (A : Option Addr) (c : Nat) (l : List Elem) (e : Ending) (w' : World) : Prop :=
  ∃ k, e = .returned (.pointer (some ⟨k, 0, none⟩)) ∧ w.heap.size ≤ k ∧ ElemSet w' b true A c l ∧ ElemSet w' k true A c l ∧ Fr (· = b) w w'
set_option maxRecDepth 100000 in
set_option maxHeartbeats 16000000 in
theorem clone_Elem (b c : Nat) (sn : Bool) (A : Option Addr) (l : List Elem) (w : World) (hS : ElemSet w b sn A c l) :
    Calls Try.prog 68 #[.pointer (some ⟨b, 0, none⟩)] w (ClonePostElem w b A c l) := by
  have s0 := hS.cell0
  have s1 := hS.cell1
  have f1 := hS.blk.frozen 1
  have hb := hS.lt
  have HS := Lib.hid hS
  clear hS
  go_enter Try.func68, Try.ntmps68
  go_wp2
  go_ret
  have h1 : ElemSet (w.setCell ⟨b, 1, none⟩ (.bool true)) b true A c l := ⟨HS.out.blk.set_ 1 _, ownsRow_setCell_other HS.out.row (own_blk_ne HS.out.row HS.out.blk (by decide)) _⟩
  refine ⟨w.heap.size, by simp, Nat.le_refl _, h1.new_ ((Below.refl _ _).alloc (Nat.le_refl _) _), ⟨?_, ownsRow_new h1.row ((Below.refl _ _).alloc (Nat.le_refl _) _)⟩, ((Fr.refl (· = b) w).setCell (p := ⟨b, 1, none⟩) (.inl rfl) _).alloc _⟩
  have h2 := Blk.new (w.setCell ⟨b, 1, none⟩ (.bool true)) 94 #[.slice A l.length c, .bool true]
  simpa using h2
end Go.Proofs.Ythhhhjllpejpgaa
