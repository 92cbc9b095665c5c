/-
  The walks of an ordered set's Len, Place, At, Get, Clone, Same, New at ponder/api.Sym, and of the makers of its sequences.
-/
import Derived.Test.YthhhhjllpejpgaaDropSym
namespace Go.Proofs.Ythhhhjllpejpgaa
open Go.RowKit

set_option maxHeartbeats 400000 in
theorem len_Sym (b c : Nat) (sn : Bool) (A : Option Addr) (l : List Sym) (w : World) (hS : SymSet w b sn A c l) :
    Calls Try.prog 37 #[.pointer (some ⟨b, 0, none⟩)] w fun e w' => e = .returned (.int .i64 l.length) ∧ w = w' := by
  have s0 := hS.cell0
  clear hS
  go_enter Try.func37, Try.ntmps37
  go_wp2
  go_ret
  exact ⟨rfl, rfl⟩

set_option maxRecDepth 100000 in
set_option maxHeartbeats 400000 in
theorem place_Sym (b c : Nat) (sn : Bool) (A : Option Addr) (l : List Sym) (x : Sym) (w : World) (hS : SymSet w b sn A c l) (hs : Srt cmpSym l) (hl : (l.length : Int) ≤ 1000000000) :
    Calls Try.prog 35 #[.pointer (some ⟨b, 0, none⟩), .agg #[.int .i64 x.kind, .string x.text, .int .i64 x.n]] w (FoundSym l x w) := by
  have HS := Lib.hid hS
  have HO := Lib.hid hs
  clear hS hs
  go_enter Try.func35, Try.ntmps35
  go_wp2_with fail
  refine (find_Sym b c sn A l x _ (HS.out.new_ ((Below.refl _ _).alloc (Nat.le_refl _) _)) HO.out (by omega)).mono ?_
  rintro e w1 ⟨rfl, hb1⟩
  go_wp2_with fail
  go_ret2
  exact ⟨rfl, ((Below.refl _ _).alloc (Nat.le_refl _) _).trans (hb1.mono (by simp))⟩

set_option maxRecDepth 100000 in
set_option maxHeartbeats 1000000 in
theorem at_out_Sym (b c : Nat) (sn : Bool) (A : Option Addr) (l : List Sym) (i : Int) (w : World) (hS : SymSet w b sn A c l) (hi : i < 0 ∨ (l.length : Int) ≤ i) :
    Calls Try.prog 36 #[.pointer (some ⟨b, 0, none⟩), .int .i64 i] w fun e w' => e = .returned (.tuple #[.agg #[.int .i64 0, .string ⟨#[]⟩, .int .i64 0], .bool false]) ∧ Below w.heap.size w w' := by
  have s0 := hS.cell0
  have hb := hS.lt
  clear hS
  by_cases h1 : i < 0
  · clear hi
    have d1 : decide (i < 0) = true := by simpa using h1
    go_enter Try.func36, Try.ntmps36
    go_wp2
    exact bodyPost_ret (v := .tuple #[.agg #[.int .i64 0, .string ⟨#[]⟩, .int .i64 0], .bool false]) (by simp [results, Try.results36, go_sem]) rfl ⟨rfl, by (repeat (first | exact Below.refl _ _ | (refine Below.drew ?_) | (refine Below.alloc ?_ (by simp <;> omega) _) | (refine Below.setCell ?_ (by simp <;> omega) _)))⟩
  · have h2 : (l.length : Int) ≤ i := by omega
    have d1 : decide (i < 0) = false := by simpa using h1
    clear hi h1
    go_enter Try.func36, Try.ntmps36
    go_wp2
    exact bodyPost_ret (v := .tuple #[.agg #[.int .i64 0, .string ⟨#[]⟩, .int .i64 0], .bool false]) (by simp [results, Try.results36, go_sem]) rfl ⟨rfl, by (repeat (first | exact Below.refl _ _ | (refine Below.drew ?_) | (refine Below.alloc ?_ (by simp <;> omega) _) | (refine Below.setCell ?_ (by simp <;> omega) _)))⟩
set_option maxRecDepth 100000 in
set_option maxHeartbeats 1000000 in
theorem at_in_Sym (b c : Nat) (sn : Bool) (A : Option Addr) (l : List Sym) (i : Nat) (w : World) (hS : SymSet w b sn A c l) (hi : i < l.length) (x : Sym) (hx : x = l[i]) :
    Calls Try.prog 36 #[.pointer (some ⟨b, 0, none⟩), .int .i64 i] w fun e w' => e = .returned (.tuple #[.agg #[.int .i64 x.kind, .string x.text, .int .i64 x.n], .bool true]) ∧ Below w.heap.size w w' := by
  have s0 := hS.cell0
  have hb := hS.lt
  obtain ⟨g, off, rfl, hgs, hcell⟩ := (hS.rd Sym.cells_length).at_ hi
  rw [← hx] at hcell
  have q0 : w.cell? ⟨g, off + i * 3, none⟩ = some (.int .i64 x.kind) := by simpa using hcell 0 _ rfl
  have q1 : w.cell? ⟨g, off + i * 3 + 1, none⟩ = some (.string x.text) := by simpa using hcell 1 _ rfl
  have q2 : w.cell? ⟨g, off + i * 3 + 2, none⟩ = some (.int .i64 x.n) := by simpa using hcell 2 _ rfl
  have d1 : decide ((i : Int) < 0) = false := by simp
  have d2 : decide ((l.length : Int) ≤ (i : Int)) = false := by simp; omega
  have b1 : (0 : Int) ≤ (i : Int) := by omega
  have b2 : (i : Int) < (l.length : Int) := by omega
  clear hS hcell hx
  go_enter Try.func36, Try.ntmps36
  go_wp2
  exact bodyPost_ret (v := .tuple #[.agg #[.int .i64 x.kind, .string x.text, .int .i64 x.n], .bool true]) (by simp [results, Try.results36, go_sem]) rfl ⟨rfl, by (repeat (first | exact Below.refl _ _ | (refine Below.drew ?_) | (refine Below.alloc ?_ (by simp <;> omega) _) | (refine Below.setCell ?_ (by simp <;> omega) _)))⟩

set_option maxRecDepth 100000 in
set_option maxHeartbeats 1000000 in
theorem get_no_Sym (b c : Nat) (sn : Bool) (A : Option Addr) (l : List Sym) (x : Sym) (w : World) (hS : SymSet w b sn A c l) (hs : Srt cmpSym l) (hl : (l.length : Int) ≤ 1000000000) (hh : has cmpSym l x = false) :
    Calls Try.prog 34 #[.pointer (some ⟨b, 0, none⟩), .agg #[.int .i64 x.kind, .string x.text, .int .i64 x.n]] w fun e w' => e = .returned (.tuple #[.agg #[.int .i64 0, .string ⟨#[]⟩, .int .i64 0], .bool false]) ∧ Below w.heap.size w w' := by
  have HS := Lib.hid hS
  have HO := Lib.hid hs
  clear hS hs
  go_enter Try.func34, Try.ntmps34
  go_wp2_with fail
  refine (find_Sym b c sn A l x _ (HS.out.new_ ((((Below.refl _ _).alloc (Nat.le_refl _) _).alloc (by simp) _).alloc (by simp; omega) _)) HO.out (by omega)).mono ?_
  rintro e w1 ⟨rfl, hb1⟩
  obtain ⟨hc1, hf1⟩ := bcell hb1
  have hz1 : w.heap.size + 2 < w1.heap.size := by have := hb1.size; simp at this; omega
  have HB := Lib.hid ((((((Below.refl w.heap.size w).alloc (Nat.le_refl _) _).alloc (by simp) _).alloc (by simp; omega) _)).trans (hb1.mono (by simp; omega)))
  clear hb1
  go_wp2_with fail
  exact bodyPost_ret (v := .tuple #[.agg #[.int .i64 0, .string ⟨#[]⟩, .int .i64 0], .bool false]) (by simp [results, Try.results34, go_sem, hc1]) rfl ⟨rfl, by (repeat (first | exact Below.refl _ _ | exact HB.out | (refine Below.drew ?_) | (refine Below.alloc ?_ (by simp <;> omega) _) | (refine Below.setCell ?_ (by simp <;> omega) _)))⟩
set_option maxRecDepth 100000 in
set_option maxHeartbeats 1000000 in
theorem get_is_Sym (b c : Nat) (sn : Bool) (A : Option Addr) (l : List Sym) (x y : Sym) (w : World) (hS : SymSet w b sn A c l) (hs : Srt cmpSym l) (hl : (l.length : Int) ≤ 1000000000) (hh : has cmpSym l x = true) (hy : l[rank cmpSym l x]? = some y) :
    Calls Try.prog 34 #[.pointer (some ⟨b, 0, none⟩), .agg #[.int .i64 x.kind, .string x.text, .int .i64 x.n]] w fun e w' => e = .returned (.tuple #[.agg #[.int .i64 y.kind, .string y.text, .int .i64 y.n], .bool true]) ∧ Below w.heap.size w w' := by
  have HS := Lib.hid hS
  have HO := Lib.hid hs
  obtain ⟨hrk, hye⟩ := List.getElem?_eq_some_iff.1 hy
  have hrd := hS.rd Sym.cells_length
  have s0 := hS.cell0
  have hb := hS.lt
  clear hS hs hy
  obtain ⟨g, off, rfl, hgs, hcell⟩ := hrd.at_ hrk
  rw [hye] at hcell
  obtain ⟨k, hk⟩ : ∃ k, k = rank cmpSym l x := ⟨_, rfl⟩
  rw [← hk] at hcell hrk
  have q0 : w.cell? ⟨g, off + k * 3, none⟩ = some (.int .i64 y.kind) := by simpa using hcell 0 _ rfl
  have q1 : w.cell? ⟨g, off + k * 3 + 1, none⟩ = some (.string y.text) := by simpa using hcell 1 _ rfl
  have q2 : w.cell? ⟨g, off + k * 3 + 2, none⟩ = some (.int .i64 y.n) := by simpa using hcell 2 _ rfl
  have b1 : (0 : Int) ≤ (k : Int) := by omega
  have b2 : (k : Int) < (l.length : Int) := by omega
  have HK := Lib.hid hk
  clear hcell hrd hye hk
  go_enter Try.func34, Try.ntmps34
  go_wp2_with fail
  refine (find_Sym b c sn _ l x _ (HS.out.new_ ((((Below.refl _ _).alloc (Nat.le_refl _) _).alloc (by simp) _).alloc (by simp; omega) _)) HO.out (by omega)).mono ?_
  rintro e w1 ⟨rfl, hb1⟩
  rw [← HK.out]
  obtain ⟨hc1, hf1⟩ := bcell hb1
  have hz1 : w.heap.size + 2 < w1.heap.size := by have := hb1.size; simp at this; omega
  have HB := Lib.hid ((((((Below.refl w.heap.size w).alloc (Nat.le_refl _) _).alloc (by simp) _).alloc (by simp; omega) _)).trans (hb1.mono (by simp; omega)))
  clear hb1
  have r0 := (HB.out.cell (p := ⟨b, 0, none⟩) hb).trans s0
  have r1 := (HB.out.cell (p := ⟨g, off + k * 3, none⟩) hgs).trans q0
  have r2 := (HB.out.cell (p := ⟨g, off + k * 3 + 1, none⟩) hgs).trans q1
  have r3 := (HB.out.cell (p := ⟨g, off + k * 3 + 2, none⟩) hgs).trans q2
  clear s0 q0 q1 q2
  go_wp2_with fail
  exact bodyPost_ret (v := .tuple #[.agg #[.int .i64 y.kind, .string y.text, .int .i64 y.n], .bool true]) (by simp [results, Try.results34, go_sem, hc1]) rfl ⟨rfl, by (repeat (first | exact Below.refl _ _ | exact HB.out | (refine Below.drew ?_) | (refine Below.alloc ?_ (by simp <;> omega) _) | (refine Below.setCell ?_ (by simp <;> omega) _)))⟩

/-- Behind Clone: two sets over one list, each marked as seen. -/
def ClonePostSym (w : World) (b : Nat) (A : Option Addr) (c : Nat) (l : List Sym) (e : Ending) (w' : World) : Prop :=
  ∃ k, e = .returned (.pointer (some ⟨k, 0, none⟩)) ∧ w.heap.size ≤ k ∧ SymSet w' b true A c l ∧ SymSet w' k true A c l ∧ Fr (· = b) w w'
set_option maxRecDepth 100000 in
set_option maxHeartbeats 1000000 in
theorem clone_Sym (b c : Nat) (sn : Bool) (A : Option Addr) (l : List Sym) (w : World) (hS : SymSet w b sn A c l) :
    Calls Try.prog 38 #[.pointer (some ⟨b, 0, none⟩)] w (ClonePostSym w b A c l) := by
  have s0 := hS.cell0
  have s1 := hS.cell1
  have f1 := hS.blk.frozen 1
  have hb := hS.lt
  have HS := Lib.hid hS
  clear hS
  go_enter Try.func38, Try.ntmps38
  go_wp2
  go_ret
  have h1 : SymSet (w.setCell ⟨b, 1, none⟩ (.bool true)) b true A c l := ⟨HS.out.blk.set_ 1 _, ownsRow_setCell_other HS.out.row (own_blk_ne HS.out.row HS.out.blk (by decide)) _⟩
  refine ⟨w.heap.size, by simp, Nat.le_refl _, h1.new_ ((Below.refl _ _).alloc (Nat.le_refl _) _), ⟨?_, ownsRow_new h1.row ((Below.refl _ _).alloc (Nat.le_refl _) _)⟩, ((Fr.refl (· = b) w).setCell (p := ⟨b, 1, none⟩) (.inl rfl) _).alloc _⟩
  have h2 := Blk.new (w.setCell ⟨b, 1, none⟩ (.bool true)) 86 #[.slice A l.length c, .bool true]
  simpa using h2
end Go.Proofs.Ythhhhjllpejpgaa
