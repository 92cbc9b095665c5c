/-
  The walks of order.New and order.Same at ponder/api.Elem.
-/
import Derived.Test.YthhhhjllpejpgaaMiscElem
namespace Go.Proofs.Ythhhhjllpejpgaa
open Go.RowKit
/-- Behind New: a set in new memory. -/
def NewPostElem (w : World) (xs : List Elem) (e : Ending) (w' : World) : Prop :=
  ∃ k, e = .returned (.pointer (some ⟨k, 0, none⟩)) ∧ w.heap.size ≤ k ∧ ∃ sn A c, ElemSet w' k sn A c (puts cmpElem [] xs) ∧ AIn A (w.heap.size ≤ ·) ∧ Below w.heap.size w w'
set_option maxRecDepth 100000 in
set_option maxHeartbeats 2000000 in
theorem new_Elem (A : Option Addr) (c : Nat) (xs : List Elem) (w : World) (hrd : RowRd w 12 Elem.cells A c xs) (hl : (xs.length : Int) ≤ 10000000) :
    Calls Try.prog 40 #[.slice A xs.length c] w (NewPostElem w xs) := by
  have HRD := Lib.hid hrd
  clear hrd
  go_enter Try.func40, Try.ntmps40
  go_wp2_with fail
  obtain ⟨W0, hW0⟩ : ∃ W0, W0 = w.alloc (.cells #[.slice none 0 0, .bool false] 94) := ⟨_, rfl⟩
  have hb0 : Below w.heap.size w W0 := by rw [hW0]; exact (Below.refl _ _).alloc (Nat.le_refl _) _
  have hS0 : ElemSet W0 w.heap.size false none 0 [] := ⟨by rw [hW0]; exact Blk.new _ _ _, ⟨by simp, .inl ⟨rfl, rfl⟩⟩⟩
  rw [← hW0]
  clear hW0
  have HB0 := Lib.hid hb0
  have HS0 := Lib.hid hS0
  clear hb0 hS0
  go_loopw [10] (fun s wr => ∃ i : Nat, s = .int .i64 i ∧ i ≤ xs.length ∧ ∃ sn A' c', ElemSet wr w.heap.size sn A' c' (puts cmpElem [] (xs.take i)) ∧ AIn A' (w.heap.size ≤ ·) ∧ Below w.heap.size w wr) (fun s wr => xs.length - (intOf s).toNat)
  case atStart => exact ⟨0, rfl, Nat.zero_le _, false, none, 0, HS0.out, AIn.none_ _, HB0.out⟩
  case round =>
    obtain ⟨i, rfl, hi, sn, A', c', hS, hA', hB⟩ := hrel
    have HS := Lib.hid hS
    have HA := Lib.hid hA'
    have HB := Lib.hid hB
    clear hS hA' hB
    by_cases hlt : i < xs.length
    · obtain ⟨x, hx⟩ : ∃ x, x = xs[i] := ⟨_, rfl⟩
      obtain ⟨g, off, rfl, hgs, hcell⟩ := (HRD.out.fr (Fr.of_new (M := fun _ => False) HB.out) (fun _ _ h => h)).at_ hlt
      rw [← hx] at hcell
      have q0 : wr.cell? ⟨g, off + i * 12, none⟩ = some (.int .i64 x.id.kind) := by simpa using hcell 0 _ rfl
      have q1 : wr.cell? ⟨g, off + i * 12 + 1, none⟩ = some (.string x.id.text) := by simpa using hcell 1 _ rfl
      have q2 : wr.cell? ⟨g, off + i * 12 + 2, none⟩ = some (.int .i64 x.id.n) := by simpa using hcell 2 _ rfl
      have q3 : wr.cell? ⟨g, off + i * 12 + 3, none⟩ = some (.int .i64 x.attr.kind) := by simpa using hcell 3 _ rfl
      have q4 : wr.cell? ⟨g, off + i * 12 + 4, none⟩ = some (.string x.attr.text) := by simpa using hcell 4 _ rfl
      have q5 : wr.cell? ⟨g, off + i * 12 + 5, none⟩ = some (.int .i64 x.attr.n) := by simpa using hcell 5 _ rfl
      have q6 : wr.cell? ⟨g, off + i * 12 + 6, none⟩ = some (.int .i64 x.value.kind) := by simpa using hcell 6 _ rfl
      have q7 : wr.cell? ⟨g, off + i * 12 + 7, none⟩ = some (.string x.value.text) := by simpa using hcell 7 _ rfl
      have q8 : wr.cell? ⟨g, off + i * 12 + 8, none⟩ = some (.int .i64 x.value.n) := by simpa using hcell 8 _ rfl
      have q9 : wr.cell? ⟨g, off + i * 12 + 9, none⟩ = some (.bool x.acc) := by simpa using hcell 9 _ rfl
      have q10 : wr.cell? ⟨g, off + i * 12 + 10, none⟩ = some (.bool x.goal) := by simpa using hcell 10 _ rfl
      have q11 : wr.cell? ⟨g, off + i * 12 + 11, none⟩ = some (.int .i64 x.tag) := by simpa using hcell 11 _ rfl
      have b1 : (0 : Int) ≤ (i : Int) := by omega
      have b2 : (i : Int) < (xs.length : Int) := by omega
      have HX := Lib.hid hx
      clear hcell hx
      go_wp2_with fail
      have hsr := Srt.puts tc_elem (xs.take i) (Srt.nil (cmp := cmpElem))
      have hlen : (((puts cmpElem [] (xs.take i)).length : Nat) : Int) ≤ 100000000 := by
        have := length_puts_le tc_elem (xs.take i) (Srt.nil (cmp := cmpElem))
        simp at this
        omega
      refine (put_Elem w.heap.size c' sn A' _ x _ (HS.out.new_ ((Below.refl _ _).alloc (Nat.le_refl _) _)) hsr hlen).mono ?_
      rintro e w1 ⟨rfl, sn2, A2, c2, hS2, hF2, hM2⟩
      have hB1 : Below w.heap.size w w1 := (HB.out.alloc HB.out.size _).trans (hF2.below (by have := HB.out.size; (try simp); omega) (fun k hk hm => by
        rcases hm with hm | ⟨_, a, ha, hm⟩
        · omega
        · have := HA.out a ha; omega))
      have hA2 : AIn A2 (w.heap.size ≤ ·) := by
        rcases hM2 with ⟨_, rfl⟩ | ⟨_, g2, hg2, rfl⟩
        · exact HA.out
        · intro a ha; cases ha; have := HB.out.size; (try simp at hg2 ⊢); omega
      have HS2 := Lib.hid hS2
      have HB1 := Lib.hid hB1
      have HA2 := Lib.hid hA2
      clear hS2 hB1 hA2 hF2 hM2 hsr hlen q0 q1 q2 q3 q4 q5 q6 q7 q8 q9 q10 q11
      go_wp2_with fail
      go_roundw
      case rel =>
        refine ⟨i + 1, by go_num, by omega, sn2, A2, c2, ?_, HA2.out, HB1.out⟩
        rw [List.take_add_one, List.getElem?_eq_getElem hlt, ← HX.out]
        simp only [Option.toList_some, puts_snoc]
        exact HS2.out
      case measure => simp [intOf] <;> omega
    · have hie : i = xs.length := by omega
      subst hie
      go_wp2_with fail
      go_ret
      refine ⟨w.heap.size, rfl, Nat.le_refl _, sn, A', c', ?_, HA.out, HB.out⟩
      have := HS.out
      rwa [List.take_length] at this
end Go.Proofs.Ythhhhjllpejpgaa
