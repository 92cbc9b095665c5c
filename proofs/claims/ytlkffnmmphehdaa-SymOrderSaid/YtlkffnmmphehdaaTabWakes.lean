/-
  The walk of the example that each law of chapter 4 asks for.
-/
import Derived.Test.YtlkffnmmphehdaaTabFresh
import Derived.Test.YtlkffnmmphehdaaSymParse
namespace Go.Proofs.Ytlkffnmmphehdaa
open Go.RowKit
def symS (n : Int) : Sym := ⟨1, letB 83, n⟩
theorem next0 : nextB [] 83 = 1 := by rfl
theorem put0 : put cmpSym [] (symS 1) = [symS 1] := by rfl
theorem tput0 : tputM [] (symS 1) = [⟨83, 2⟩] := by rfl
theorem next1 : nextB [⟨83, 2⟩] 83 = 2 := by rfl
theorem texts1 : textB ⟨1, letB 83, 1⟩ = ⟨#[83, 49]⟩ := by kernel_rfl
theorem texts2 : textB ⟨1, letB 83, 2⟩ = ⟨#[83, 50]⟩ := by kernel_rfl
theorem parse0 : parseB ⟨#[45, 48]⟩ = none := by kernel_rfl
theorem great83 : greatB 83 = true := by rfl
theorem sym_cells (w : World) (k : Int) (t : ByteArray) (n : Int) : Blk (w.alloc (.cells #[.int .i64 k, .string t, .int .i64 n] 23)) w.heap.size 23 #[.int .i64 k, .string t, .int .i64 n] := Blk.new _ _ _
set_option maxRecDepth 100000 in
set_option maxHeartbeats 4000000 in
theorem wakes4_is (w : World) : Calls Try.prog 10 #[] w fun e w' => e = .returned (.bool true) ∧ Below w.heap.size w w' := by
  go_enter Try.func10, Try.ntmps10
  go_wp2_with fail
  refine (tabnew_is 9 (by omega) (by omega) (Tabs.start w)).mono ?_
  rintro e w1 ⟨T, rfl, hroom, hB1, ⟨σ1, σ2, hT1⟩, hb1, _, _⟩
  have HT1 := Lib.hid hT1
  have HB1 := Lib.hid hB1
  have HR := Lib.hid hroom
  have HF1 := Lib.hid hb1
  have hz1 := hb1.size
  clear hT1 hB1 hb1 hroom
  go_wp2_with fail
  refine (fresh_new T [] [] 83 HT1.out HB1.out (upd_same _ _ _) (upd_same _ _ _) great83 (by rw [HR.out]; decide) (by rw [next0]; decide) (by rw [next0]; decide) (by decide) (by decide)).mono ?_
  rintro e w2 ⟨rfl, ⟨σ3, σ4, hT2, _⟩, hK2, hF2⟩
  rw [next0] at hT2 ⊢
  rw [show put cmpSym [] ⟨1, letB 83, 1⟩ = [symS 1] from put0, show tputM [] ⟨1, letB 83, 1⟩ = [⟨83, 2⟩] from tput0] at hT2
  have hz2 := hF2.size
  have HT2 := Lib.hid hT2
  have HB2 := Lib.hid (HB1.out.kb hK2)
  have HF2 := Lib.hid (HF1.out.trans (hF2.below hz1 (fun k hk hd => hd hk)))
  clear hT2 hK2 hF2
  go_wp2_with fail
  obtain ⟨w3, hw3⟩ : ∃ w3, w3 = w2.alloc (.cells #[.int .i64 1, .string (letB 83), .int .i64 1] 23) := ⟨_, rfl⟩
  have hA : Blk w3 w2.heap.size 23 #[.int .i64 1, .string (letB 83), .int .i64 1] := by rw [hw3]; exact sym_cells _ _ _ _
  have hb3 : Below w2.heap.size w2 w3 := by rw [hw3]; exact (Below.refl _ _).alloc (Nat.le_refl _) _
  rw [← hw3]
  clear hw3
  have hal := hA.lt
  have hz3 := hb3.size
  have HF3 := Lib.hid (HF2.out.trans (hb3.mono (by omega)))
  refine (fresh_new T [symS 1] [⟨83, 2⟩] 83 (HT2.out.protect hb3) (HB2.out.below hb3) (by rw [upd_upd] <;> exact upd_same _ _ _) (by rw [upd_upd] <;> exact upd_same _ _ _) great83 (by rw [HR.out]; decide) (by rw [next1]; decide) (by rw [next1]; decide) (by decide) (by decide)).mono ?_
  rintro e w4 ⟨rfl, _, hK4, hF4⟩
  rw [next1]
  have hz4 := hF4.size
  have hA4 := hA.fr hF4 (fun h => h (.inr ⟨Nat.le_refl _, hal⟩))
  have HF4 := Lib.hid (HF3.out.trans (hF4.below (by omega) (fun k hk hd => hd (.inl hk))))
  have HA4 := Lib.hid hA4
  clear hA hb3 hK4 hF4 hA4
  go_wp2_with fail
  obtain ⟨w5, hw5⟩ : ∃ w5, w5 = w4.alloc (.cells #[.int .i64 1, .string (letB 83), .int .i64 2] 23) := ⟨_, rfl⟩
  have hC : Blk w5 w4.heap.size 23 #[.int .i64 1, .string (letB 83), .int .i64 2] := by rw [hw5]; exact sym_cells _ _ _ _
  have hb5 : Below w4.heap.size w4 w5 := by rw [hw5]; exact (Below.refl _ _).alloc (Nat.le_refl _) _
  rw [← hw5]
  clear hw5
  have hz5 := hb5.size
  have HF5 := Lib.hid (HF4.out.trans (hb5.mono (by omega)))
  have HA5 := Lib.hid (HA4.out.new_ hb5)
  refine (parse_is ⟨#[45, 48]⟩ (by decide) _).mono ?_
  rintro e w6 ⟨rfl, hb6⟩
  rw [parse0]
  have hz6 := hb6.size
  have hA6 := HA5.out.new_ hb6
  have hC6 := hC.new_ hb6
  have HF6 := Lib.hid (HF5.out.trans (hb6.mono (by omega)))
  have HA6 := Lib.hid hA6
  have HC6 := Lib.hid hC6
  have a0 : w6.cell? ⟨w2.heap.size, 0, none⟩ = some (.int .i64 1) := (hA6.cell 0).trans rfl
  have a1 : w6.cell? ⟨w2.heap.size, 1, none⟩ = some (.string (letB 83)) := (hA6.cell 1).trans rfl
  have a2 : w6.cell? ⟨w2.heap.size, 2, none⟩ = some (.int .i64 1) := (hA6.cell 2).trans rfl
  have hal6 := hA6.lt
  have hcl6 := hC6.lt
  clear hC hb5 hb6 hA6 hC6
  simp only [symRes]
  go_wp2_with fail
  refine (text_is ⟨1, letB 83, 1⟩ _).mono ?_
  rintro e w7 ⟨rfl, hb7⟩
  rw [texts1]
  have hC7 := (HC6.out.alloc (Obj.cells #[Value.int IntKind.i64 0, Value.string ⟨#[]⟩, Value.int IntKind.i64 0] 23)).new_ hb7
  have HF7 := Lib.hid ((HF6.out.alloc HF6.out.size (Obj.cells #[Value.int IntKind.i64 0, Value.string ⟨#[]⟩, Value.int IntKind.i64 0] 23)).trans (hb7.mono (by have := HF6.out.size; simp; omega)))
  have c0 : w7.cell? ⟨w4.heap.size, 0, none⟩ = some (.int .i64 1) := (hC7.cell 0).trans rfl
  have c1 : w7.cell? ⟨w4.heap.size, 1, none⟩ = some (.string (letB 83)) := (hC7.cell 1).trans rfl
  have c2 : w7.cell? ⟨w4.heap.size, 2, none⟩ = some (.int .i64 2) := (hC7.cell 2).trans rfl
  have hcl7 := hC7.lt
  clear hb7 hC7 a0 a1 a2
  go_wp2_with fail
  refine (text_is ⟨1, letB 83, 2⟩ _).mono ?_
  rintro e w8 ⟨rfl, hb8⟩
  rw [texts2]
  have HF8 := Lib.hid (HF7.out.trans (hb8.mono HF7.out.size))
  clear hb8 c0 c1 c2
  go_wp2_with fail
  go_ret
  exact ⟨rfl, HF8.out⟩
end Go.Proofs.Ytlkffnmmphehdaa
