/-
  The walks of an ordered set's Len, Place, At, Get, Clone, Same, New at ponder/ponderlaw01.Num, and of the makers of its sequences.
-/
import Derived.Test.YthhhhjllpejpgaaPutNum
namespace Go.Proofs.Ythhhhjllpejpgaa
open Go.RowKit

set_option maxHeartbeats 400000 in
theorem len_Num (b c : Nat) (sn : Bool) (A : Option Addr) (l : List Num) (w : World) (hS : NumSet w b sn A c l) :
    Calls Try.prog 27 #[.pointer (some ⟨b, 0, none⟩)] w fun e w' => e = .returned (.int .i64 l.length) ∧ w = w' := by
  have s0 := hS.cell0
  clear hS
  go_enter Try.func27, Try.ntmps27
  go_wp2
  go_ret
  exact ⟨rfl, rfl⟩

set_option maxRecDepth 100000 in
set_option maxHeartbeats 400000 in
theorem place_Num (b c : Nat) (sn : Bool) (A : Option Addr) (l : List Num) (x : Num) (w : World) (hS : NumSet w b sn A c l) (hs : Srt cmpNum l) (hl : (l.length : Int) ≤ 1000000000) :
    Calls Try.prog 25 #[.pointer (some ⟨b, 0, none⟩), .int .i64 x] w (FoundNum l x w) := by
  have HS := Lib.hid hS
  have HO := Lib.hid hs
  clear hS hs
  go_enter Try.func25, Try.ntmps25
  go_wp2_with fail
  refine (find_Num b c sn A l x _ (HS.out.new_ (Below.refl _ _)) HO.out (by omega)).mono ?_
  rintro e w1 ⟨rfl, hb1⟩
  go_wp2_with fail
  go_ret2
  exact ⟨rfl, (Below.refl _ _).trans (hb1.mono (by simp))⟩

set_option maxRecDepth 100000 in
set_option maxHeartbeats 1000000 in
theorem get_no_Num (b c : Nat) (sn : Bool) (A : Option Addr) (l : List Num) (x : Num) (w : World) (hS : NumSet w b sn A c l) (hs : Srt cmpNum l) (hl : (l.length : Int) ≤ 1000000000) (hh : has cmpNum l x = false) :
    Calls Try.prog 26 #[.pointer (some ⟨b, 0, none⟩), .int .i64 x] w fun e w' => e = .returned (.tuple #[.int .i64 0, .bool false]) ∧ Below w.heap.size w w' := by
  have HS := Lib.hid hS
  have HO := Lib.hid hs
  clear hS hs
  go_enter Try.func26, Try.ntmps26
  go_wp2_with fail
  refine (find_Num b c sn A l x _ HS.out HO.out (by omega)).mono ?_
  rintro e w1 ⟨rfl, hb1⟩
  have HB := Lib.hid hb1
  clear hb1
  go_wp2_with fail
  go_ret2
  exact ⟨rfl, HB.out⟩
set_option maxRecDepth 100000 in
set_option maxHeartbeats 1000000 in
theorem get_is_Num (b c : Nat) (sn : Bool) (A : Option Addr) (l : List Num) (x y : Num) (w : World) (hS : NumSet w b sn A c l) (hs : Srt cmpNum l) (hl : (l.length : Int) ≤ 1000000000) (hh : has cmpNum l x = true) (hy : l[rank cmpNum l x]? = some y) :
    Calls Try.prog 26 #[.pointer (some ⟨b, 0, none⟩), .int .i64 x] w fun e w' => e = .returned (.tuple #[.int .i64 y, .bool true]) ∧ Below w.heap.size w w' := by
  have HS := Lib.hid hS
  have HO := Lib.hid hs
  obtain ⟨hrk, hye⟩ := List.getElem?_eq_some_iff.1 hy
  have hrd := hS.rd Num.cells_length
  have s0 := hS.cell0
  have hb := hS.lt
  clear hS hs hy
  obtain ⟨g, off, rfl, hgs, hcell⟩ := hrd.at_ hrk
  rw [hye] at hcell
  obtain ⟨k, hk⟩ : ∃ k, k = rank cmpNum l x := ⟨_, rfl⟩
  rw [← hk] at hcell hrk
  have q0 : w.cell? ⟨g, off + k, none⟩ = some (.int .i64 y) := by simpa using hcell 0 _ rfl
  have b1 : (0 : Int) ≤ (k : Int) := by omega
  have b2 : (k : Int) < (l.length : Int) := by omega
  have HK := Lib.hid hk
  clear hcell hrd hye hk
  go_enter Try.func26, Try.ntmps26
  go_wp2_with fail
  refine (find_Num b c sn _ l x _ HS.out HO.out (by omega)).mono ?_
  rintro e w1 ⟨rfl, hb1⟩
  rw [← HK.out]
  have HB := Lib.hid hb1
  clear hb1
  have r0 := (HB.out.cell (p := ⟨b, 0, none⟩) hb).trans s0
  have r1 := (HB.out.cell (p := ⟨g, off + k, none⟩) hgs).trans q0
  clear s0 q0
  go_wp2_with fail
  go_ret2
  exact ⟨rfl, HB.out⟩
end Go.Proofs.Ythhhhjllpejpgaa
