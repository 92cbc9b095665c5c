/-
  Texts put together: OpsSym, PutSym, MiscSym, NewSym, IterBase, Seq, IterSym, ListSym, WorkSym, KitSyms, Act1, Act2, Act4P, RangeP, RangeO, Store, RangeO2, Shape1, Shape3.
-/
import Derived.Test.YtpndmjabjjbefaaGreatFa
import Derived.Test.YtpndmjabjjbefaaGreatRows
import Derived.Deep.MidRow
import Derived.Maps.RangeWalk
namespace Go.Proofs.YtpndmjabjjbefaaGreat
open Go.RowKit
theorem info_Sym : (Tryz.prog.info? 23).map (fun i => (i.zero, i.size, i.bytes)) = some (some (.agg #[.int .i64 0, .string ⟨#[]⟩, .int .i64 0]), 3, 32) := by kernel_rfl
theorem Sym.one (x : Sym) : ∀ u ∈ Sym.cells x, u.oneCell' = true := by intro u hu; simp [Sym.cells] at hu; rcases hu with rfl | rfl | rfl <;> rfl
theorem Sym.oneAll (l : List Sym) : ∀ u ∈ l.flatMap Sym.cells, u.oneCell' = true := by intro u hu; obtain ⟨x, _, hx⟩ := List.mem_flatMap.1 hu; exact Sym.one x u hx
def OwnPostSym (w : World) (b : Nat) (sn : Bool) (A : Option Addr) (l : List Sym) (e : Ending) (w' : World) : Prop :=
 e = .returned (.tuple #[]) ∧ ∃ A' c', SymSet w' b false A' c' l ∧ Fr (· = b) w w' ∧ Moved w sn A false A'
set_option maxRecDepth 100000 in
set_option maxHeartbeats 1000000 in
theorem own_no_Sym (b c : Nat) (A : Option Addr) (l : List Sym) (w : World) (hS : SymSet w b false A c l) :
 Calls Tryz.prog 101 #[.pointer (some ⟨b, 0, none⟩)] w (OwnPostSym w b false A l) := by
 have h1 := hS.cell1
 have HS := Lib.hid hS
 clear hS
 go_enter Tryz.func101, Tryz.ntmps101
 go_wp2
 go_end0
 exact ⟨rfl, A, c, HS.out, Fr.refl _ _, .inl ⟨rfl, rfl⟩⟩
set_option maxRecDepth 100000 in
set_option maxHeartbeats 1000000 in
theorem own_yes_Sym (b c : Nat) (A : Option Addr) (l : List Sym) (w : World) (hS : SymSet w b true A c l) (hl : (l.length : Int) ≤ 1000000000) :
 Calls Tryz.prog 101 #[.pointer (some ⟨b, 0, none⟩)] w (OwnPostSym w b true A l) := by
 obtain ⟨i0, hi, hz0, hz1, hz2⟩ := info_parts info_Sym
 have h0 := hS.cell0
 have h1 := hS.cell1
 have hb := hS.lt
 have f0 := hS.blk.frozen 0
 have f1 := hS.blk.frozen 1
 have hrd := hS.rd Sym.cells_length
 have HB := Lib.hid hS.blk
 have HRD := Lib.hid hrd
 clear hS hrd
 have e1 : IntKind.i64.wrap ((l.length : Int) + 1) = (l.length : Int) + 1 := IntWalk.i64_in _ (by omega)
 have hmk : ∀ W : World, (Instr.makeSlice 57 (.int .i64 0) (.int .i64 ((l.length : Int) + 1))).run Tryz.prog W = .ok (.slice (some ⟨W.heap.size, 0, none⟩) 0 (l.length + 1)) (W.alloc (.cells (madeCells (Value.cells (.agg #[.int .i64 0, .string ⟨#[]⟩, .int .i64 0])) ((l.length + 1) * 3)) 23)) := fun W => by
  have h := run_make (P := Tryz.prog) W 57 23 i0 _ Tryz.underlying57 hi hz0 .i64 .i64 0 ((l.length : Int) + 1) (by omega) (by omega) (by rw [hz2]; omega) (by omega)
  rw [hz1] at h
  simpa [show ((l.length : Int) + 1).toNat = l.length + 1 by omega] using h
 go_enter Tryz.func101, Tryz.ntmps101
 go_wp2_with fail
 refine wp_region_E (fun w9 => Below w.heap.size w w9) [(0, 0), (1, 0), (2, 0), (3, 0), (4, 1), (5, 0), (6, 0), (8, 0), (9, 0), (10, 0), (11, 1), (7, 2), (12, 2), (13, 0), (14, 0), (15, 2)] (by kernel_rfl) (by kernel_rfl) (fun KK hKK => ?_)
 simp only [beside, List.filterMap_cons, List.filterMap_nil, List.getElem?_toArray, List.getElem?_cons_zero, List.getElem?_cons_succ, Option.map_some]
 repeat ((first | (refine wpX_w ?_ (Or.inl ⟨by rfl, fun w9 => ?_⟩) ?_; rotate_left 1; go_simp; with_reducible rfl) | (refine wpX_l ?_ (((Below.refl _ _).drew)) (Or.inl ⟨by rfl, fun w9 hw9 => ?_⟩) ?_; rotate_left 1; obtain ⟨hc9, hf9⟩ := bcell hw9; go_simp; with_reducible rfl) | refine wpX_w undef (Or.inr ⟨by rfl, rfl⟩) ?_ | refine wpX_l undef (((Below.refl _ _).drew)) (Or.inr ⟨by rfl, rfl⟩) ?_); go_frame)
 refine wpX_es (fun K9 hK9 => ?_)
 go_simp
 refine hK9 _ _ (((Below.refl _ _).drew).alloc (Nat.le_refl _) _) ?_
 clear hK9 K9
 refine wpX_e (by kernel_rfl) (fun K9 hK9 => ?_)
 refine step_append_src _ (by rfl) _ _ _ (by rfl) 23 i0 _ 3 32 Tryz.underlying57 hi hz0 hz1 hz2 rfl (by omega) _ 0 [] (by rfl) (World.ownsRow_made _ _ _ (Nat.zero_le _) (by unfold maxLen; omega) (by simp [madeCells])) A l.length c (l.flatMap Sym.cells) (by rfl) (flat_length Sym.cells_length l)
  ((HRD.out.drew.alloc _).news Sym.cells_length (by omega)) (Sym.oneAll l) (by unfold maxLen; omega) (by omega) ?_
 intro v2 w2 hown hgr hnil hat
 refine hK9 _ _ ?_
 clear hK9 K9
 rw [Nat.zero_add, List.nil_append] at hown
 obtain ⟨A', c', rfl, _, _, hz⟩ := own_form2 hown
 have HB1 := (HB.out.drew.alloc (.cells (madeCells (Value.cells (.agg #[.int .i64 0, .string ⟨#[]⟩, .int .i64 0])) ((l.length + 1) * 3)) 23)).grown hgr (by simp [Value.ownBlock]; omega)
 have c0 := (HB1.cell 0).trans rfl
 have c1 := (HB1.cell 1).trans rfl
 have z0 := HB1.frozen 0
 have z1 := HB1.frozen 1
 have HB2 := Lib.hid HB1
 clear HB1
 repeat ((first | (refine wpX_w ?_ (Or.inl ⟨by rfl, fun w9 => ?_⟩) ?_; rotate_left 1; go_simp; with_reducible rfl) | (refine wpX_l ?_ (((Below.refl _ _).drew).alloc (Nat.le_refl _) _) (Or.inl ⟨by rfl, fun w9 hw9 => ?_⟩) ?_; rotate_left 1; obtain ⟨hc9, hf9⟩ := bcell hw9; go_simp; with_reducible rfl) | refine wpX_w undef (Or.inr ⟨by rfl, rfl⟩) ?_ | refine wpX_l undef (((Below.refl _ _).drew).alloc (Nat.le_refl _) _) (Or.inr ⟨by rfl, rfl⟩) ?_); go_frame)
 refine wpX_e (by kernel_rfl) (fun K9 hK9 => ?_)
 go_simp
 refine hK9 _ _ ?_
 clear hK9 K9
 refine wpX_nil ?_
 simp only [OnlyN_normal]
 refine hKK _ _ ?_
 clear hKK KK
 go_wp2
 go_end0
 have hb2 : (Value.slice A' l.length c').ownBlock = some w.heap.size ∨ (Value.slice A' l.length c').ownBlock = some (w.heap.size + 1) := by
  rcases hat with h | h
  · left; rw [h]; rfl
  · right; rw [h]; simp
 have hA : ∃ g, w.heap.size ≤ g ∧ A' = some ⟨g, 0, none⟩ := by
  rcases A' with _ | a
  · exfalso; simp [Value.ownBlock] at hb2
  · obtain ⟨g, rfl⟩ := hz a rfl
    refine ⟨g, ?_, rfl⟩
    simp [Value.ownBlock] at hb2
    omega
 obtain ⟨g, hg, rfl⟩ := hA
 have HB1 := HB2.out
 have HF : Fr (· = b) w w2 := ((Fr.refl (· = b) w).drew.alloc _).grown hgr (fun k e => by simp [Value.ownBlock] at e; right; omega)
 refine ⟨rfl, some ⟨g, 0, none⟩, c', ⟨(HB1.set_ 0 _).set_ 1 _, ?_⟩, (HF.setCell (p := ⟨b, 0, none⟩) (.inl rfl) _).setCell (p := ⟨b, 1, none⟩) (.inl rfl) _, .inr ⟨rfl, g, hg, rfl⟩⟩
 have hne : (Value.slice (some ⟨g, 0, none⟩) l.length c').ownBlock ≠ some b := by simp [Value.ownBlock]; omega
 exact ownsRow_setCell_other (a := ⟨b, 1, none⟩) (ownsRow_setCell_other (a := ⟨b, 0, none⟩) hown hne _) hne _
theorem own_Sym (b c : Nat) (sn : Bool) (A : Option Addr) (l : List Sym) (w : World) (hS : SymSet w b sn A c l) (hl : (l.length : Int) ≤ 1000000000) :
 Calls Tryz.prog 101 #[.pointer (some ⟨b, 0, none⟩)] w (OwnPostSym w b sn A l) := by
 cases sn
 · exact own_no_Sym b c A l w hS
 · exact own_yes_Sym b c A l w hS hl
end Go.Proofs.YtpndmjabjjbefaaGreat
namespace Go.Proofs.YtpndmjabjjbefaaGreat
open Go.RowKit
def PutPostSym (w : World) (b : Nat) (sn : Bool) (A : Option Addr) (l : List Sym) (x : Sym) (e : Ending) (w' : World) : Prop :=
 e = .returned (.bool (!has cmpSym l x)) ∧ ∃ sn' A' c', SymSet w' b sn' A' c' (put cmpSym l x) ∧ Fr (SetMod b sn A) w w' ∧ Moved w sn A sn' A'
set_option maxRecDepth 100000 in
set_option maxHeartbeats 1000000 in
theorem put_there_Sym (b c : Nat) (sn : Bool) (A : Option Addr) (l : List Sym) (x : Sym) (w : World) (hS : SymSet w b sn A c l) (hs : Srt cmpSym l) (hl : (l.length : Int) ≤ 100000000) (hh : has cmpSym l x = true) :
 Calls Tryz.prog 73 #[.pointer (some ⟨b, 0, none⟩), .agg #[.int .i64 x.kind, .string x.text, .int .i64 x.n]] w (PutPostSym w b sn A l x) := by
 have HS := Lib.hid hS
 have HO := Lib.hid hs
 clear hS hs
 go_enter Tryz.func73, Tryz.ntmps73
 go_wp2_with fail
 refine (find_Sym b c sn A l x _ (HS.out.new_ ((Below.refl _ _).alloc (Nat.le_refl _) _)) HO.out (by omega)).mono ?_
 rintro e w1 ⟨rfl, hb1⟩
 go_wp2_with fail
 go_ret
 refine ⟨by rw [hh]; rfl, sn, A, c, ?_, Fr.of_new (((Below.refl _ _).alloc (Nat.le_refl _) _).trans (hb1.mono (by simp))), .inl ⟨rfl, rfl⟩⟩
 rw [put_has hh]
 exact HS.out.new_ (((Below.refl _ _).alloc (Nat.le_refl _) _).trans (hb1.mono (by simp)))
set_option maxRecDepth 100000 in
set_option maxHeartbeats 4000000 in
theorem put_new_Sym (b c : Nat) (sn : Bool) (A : Option Addr) (l : List Sym) (x : Sym) (w : World) (hS : SymSet w b sn A c l) (hs : Srt cmpSym l) (hl : (l.length : Int) ≤ 100000000) (hh : has cmpSym l x = false) :
 Calls Tryz.prog 73 #[.pointer (some ⟨b, 0, none⟩), .agg #[.int .i64 x.kind, .string x.text, .int .i64 x.n]] w (PutPostSym w b sn A l x) := by
 obtain ⟨i0, hi, hz0, hz1, hz2⟩ := info_parts info_Sym
 have HS := Lib.hid hS
 have HO := Lib.hid hs
 have hb := hS.lt
 clear hS hs
 have hrk := rank_le (cmp := cmpSym) l x
 go_enter Tryz.func73, Tryz.ntmps73
 go_wp2_with fail
 have hSa := HS.out.new_ ((Below.refl w.heap.size w).alloc (Nat.le_refl _) (.cells #[Value.int IntKind.i64 x.kind, Value.string x.text, Value.int IntKind.i64 x.n] 23))
 have HSa := Lib.hid hSa
 clear hSa
 refine (find_Sym b c sn A l x _ HSa.out HO.out (by omega)).mono ?_
 rintro e w1 ⟨rfl, hb1⟩
 have HS1 := Lib.hid (HSa.out.new_ hb1)
 have hsz1 : w.heap.size + 1 ≤ w1.heap.size := by have := hb1.size; (try simp at this); omega
 have y0 := (hb1.cell (p := ⟨w.heap.size, 0, none⟩) (by simp)).trans ((Blk.new w 23 #[Value.int IntKind.i64 x.kind, Value.string x.text, Value.int IntKind.i64 x.n]).cell 0)
 have y1 := (hb1.cell (p := ⟨w.heap.size, 1, none⟩) (by simp)).trans ((Blk.new w 23 #[Value.int IntKind.i64 x.kind, Value.string x.text, Value.int IntKind.i64 x.n]).cell 1)
 have y2 := (hb1.cell (p := ⟨w.heap.size, 2, none⟩) (by simp)).trans ((Blk.new w 23 #[Value.int IntKind.i64 x.kind, Value.string x.text, Value.int IntKind.i64 x.n]).cell 2)
 have HB1 := Lib.hid hb1
 clear hb1
 go_wp2_with fail
 refine (own_Sym b c sn A l _ HS1.out (by omega)).mono ?_
 rintro e w2 ⟨rfl, A1, c1, hS2, hF2, hM2⟩
 have hsz2 : w1.heap.size ≤ w2.heap.size := hF2.size
 have x0 : w2.cell? ⟨w.heap.size, 0, none⟩ = some (.int .i64 x.kind) := (hF2.cell (p := ⟨w.heap.size, 0, none⟩) (by dsimp only; omega) (by dsimp only; omega)).trans y0
 have x1 : w2.cell? ⟨w.heap.size, 1, none⟩ = some (.string x.text) := (hF2.cell (p := ⟨w.heap.size, 1, none⟩) (by dsimp only; omega) (by dsimp only; omega)).trans y1
 have x2 : w2.cell? ⟨w.heap.size, 2, none⟩ = some (.int .i64 x.n) := (hF2.cell (p := ⟨w.heap.size, 2, none⟩) (by dsimp only; omega) (by dsimp only; omega)).trans y2
 have s0 := hS2.cell0
 have f0 := hS2.blk.frozen 0
 have hb2 : b < w2.heap.size := by omega
 have hk2 : w.heap.size < w2.heap.size := by omega
 have HS2 := Lib.hid hS2
 have HF2 := Lib.hid hF2
 have HM2 := Lib.hid hM2
 clear hS2 hF2 hM2 y0 y1 y2
 go_wp2_with fail
 refine wp_region_E (fun w9 => Below w2.heap.size w2 w9) [(0, 0), (1, 0), (2, 0), (3, 0), (4, 1), (5, 1), (6, 2), (7, 2), (8, 0), (9, 0), (10, 2)] (by kernel_rfl) (by kernel_rfl) (fun KK hKK => ?_)
 simp only [beside, List.filterMap_cons, List.filterMap_nil, List.getElem?_toArray, List.getElem?_cons_zero, List.getElem?_cons_succ, Option.map_some]
 repeat ((first | (refine wpX_w ?_ (Or.inl ⟨by rfl, fun w9 => ?_⟩) ?_; rotate_left 1; go_simp; with_reducible rfl) | (refine wpX_l ?_ (((Below.refl _ _).drew)) (Or.inl ⟨by rfl, fun w9 hw9 => ?_⟩) ?_; rotate_left 1; obtain ⟨hc9, hf9⟩ := bcell hw9; go_simp; with_reducible rfl) | refine wpX_w undef (Or.inr ⟨by rfl, rfl⟩) ?_ | refine wpX_l undef (((Below.refl _ _).drew)) (Or.inr ⟨by rfl, rfl⟩) ?_); go_frame)
 refine wpX_es (fun K9 hK9 => ?_)
 go_simp
 refine hK9 _ _ (((Below.refl _ _).drew).alloc (Nat.le_refl _) _) ?_
 clear hK9 K9
 refine wpX_e (by kernel_rfl) (fun K9 hK9 => ?_)
 refine step_append_src _ (by rfl) _ _ _ (by rfl) 23 i0 _ 3 32 Tryz.underlying57 hi hz0 hz1 hz2 rfl (by omega) _ l.length (l.flatMap Sym.cells) (by rfl) (ownsRow_new HS2.out.row (((Below.refl _ _).drew).alloc (Nat.le_refl _) _)) (some ⟨w2.heap.size, 0, none⟩) 1 1 (Sym.cells x) (by rfl) (by rfl)
  (fun _ => ⟨_, rfl, World.news_of_block (heap_alloc_new _ _)⟩) (Sym.one x) (by unfold maxLen; omega) (by omega) ?_
 intro v2 w3 hown hgr hnil hat
 refine hK9 _ _ ?_
 clear hK9 K9
 obtain ⟨g, c2, rfl⟩ : ∃ g c2, v2 = .slice (some ⟨g, 0, none⟩) (l.length + 1) c2 := by
  rcases ownsRow_form hown with ⟨_, h0, _⟩ | ⟨g, c2, h, _⟩
  · omega
  · exact ⟨g, c2, h⟩
 have HXN : (Value.slice A1 l.length c1).ownBlock ≠ some w.heap.size := by
  intro h
  rcases HM2.out with ⟨hsn, hA⟩ | ⟨_, g2, hg2, hA⟩
  · rcases A1 with _ | a1
    · cases h
    · have h1 := HS.out.row_lt _ hA.symm
      simp only [Value.ownBlock, Option.some.injEq] at h
      omega
  · subst hA
    simp only [Value.ownBlock, Option.some.injEq] at h
    omega
 have HB3' := (HS2.out.blk.drew.alloc (.cells #[Value.int IntKind.i64 x.kind, Value.string x.text, Value.int IntKind.i64 x.n] 23)).grown hgr (own_blk_ne HS2.out.row HS2.out.blk (by decide))
 have c0 := (HB3'.cell 0).trans rfl
 have z0 := HB3'.frozen 0
 have HB3 := Lib.hid HB3'
 have HOWN := Lib.hid hown
 have HGR := Lib.hid hgr
 clear HB3' hown hgr
 repeat ((first | (refine wpX_w ?_ (Or.inl ⟨by rfl, fun w9 => ?_⟩) ?_; rotate_left 1; go_simp; with_reducible rfl) | (refine wpX_l ?_ (((Below.refl _ _).drew).alloc (Nat.le_refl _) _) (Or.inl ⟨by rfl, fun w9 hw9 => ?_⟩) ?_; rotate_left 1; obtain ⟨hc9, hf9⟩ := bcell hw9; go_simp; with_reducible rfl) | refine wpX_w undef (Or.inr ⟨by rfl, rfl⟩) ?_ | refine wpX_l undef (((Below.refl _ _).drew).alloc (Nat.le_refl _) _) (Or.inr ⟨by rfl, rfl⟩) ?_); go_frame)
 refine wpX_e (by kernel_rfl) (fun K9 hK9 => ?_)
 go_simp
 refine hK9 _ _ ?_
 clear hK9 K9
 refine wpX_nil ?_
 simp only [OnlyN_normal]
 refine hKK _ _ ?_
 clear hKK KK
 have hlg : ((l.length + 1 : Nat) : Int) = (l.length : Int) + 1 := by omega
 have hG : (SetMod b sn A g ∨ w.heap.size ≤ g) ∧ Moved w sn A false (some ⟨g, 0, none⟩) ∧ g ≠ w.heap.size ∧ g ≠ b := by
  rcases hat with h | h
  · rcases A1 with _ | a1
    · simp [Value.ownBlock] at h
    · obtain ⟨A', c', hv, _, _, hz⟩ := own_form2 HS2.out.row
      injection hv with hv _ _
      obtain ⟨g', rfl⟩ := hz a1 hv.symm
      have hgg : g' = g := by simpa [Value.ownBlock] using h.symm
      subst hgg
      have hne : g' ≠ b := HS2.out.row_ne (by decide) _ rfl
      rcases HM2.out with ⟨hsn, hA⟩ | ⟨_, g2, hg2, hA⟩
      · have h1 := HS.out.row_lt _ hA.symm
        exact ⟨.inl (.inr ⟨hsn.symm, _, hA.symm, rfl⟩), .inl ⟨hsn, hA⟩, by dsimp only at h1; omega, hne⟩
      · injection hA with hA
        injection hA with hA
        subst hA
        exact ⟨.inr (by omega), .inr ⟨rfl, _, by omega, rfl⟩, by omega, hne⟩
  · have hgg : g = w2.heap.size + 1 := by simpa [Value.ownBlock] using h
    subst hgg
    exact ⟨.inr (by omega), .inr ⟨rfl, _, by omega, rfl⟩, by omega, by omega⟩
 obtain ⟨hgM, hgMv, hgk1, hgb⟩ := hG
 obtain ⟨w4, hw4⟩ : ∃ w4, w4 = w3.setCell ⟨b, 0, none⟩ (.slice (some ⟨g, 0, none⟩) (l.length + 1) c2) := ⟨_, rfl⟩
 have hB4 : Blk w4 b 131 #[.slice (some ⟨g, 0, none⟩) (l.length + 1) c2, .bool false] := by rw [hw4]; exact HB3.out.set_ 0 _
 have hR4 : w4.ownsRow 0 23 3 (.slice (some ⟨g, 0, none⟩) (l.length + 1) c2) (l.length + 1) ((shiftAt l x l.length).flatMap Sym.cells) := by
  rw [hw4, shiftAt_start]
  refine ownsRow_setCell_other (a := ⟨b, 0, none⟩) ?_ (by simpa [Value.ownBlock] using hgb) _
  rw [List.flatMap_append, List.flatMap_singleton]
  exact HOWN.out
 have hF4 : Fr (SetMod b sn A) w w4 := by
  rw [hw4]
  have h1 : Fr (SetMod b sn A) w w1 := Fr.of_new (((Below.refl _ _).alloc (Nat.le_refl _) _).trans (HB1.out.mono (by simp)))
  have h2 : Fr (SetMod b sn A) w w2 := h1.trans (HF2.out.mono (fun k _ h => .inl h))
  refine ((h2.drew.alloc _).grown HGR.out (fun k hk => ?_)).setCell (p := ⟨b, 0, none⟩) (.inl (.inl rfl)) _
  rcases A1 with _ | a1
  · cases hk
  · simp only [Value.ownBlock, Option.some.injEq] at hk
    subst hk
    rcases HM2.out with ⟨hsn, hA⟩ | ⟨_, g', hg', hA⟩
    · left; right; exact ⟨hsn.symm, a1, hA.symm, rfl⟩
    · injection hA with hA
      subst hA
      right; dsimp only; omega
 have z0 : w4.cell? ⟨w.heap.size, 0, none⟩ = some (.int .i64 x.kind) := by
  rw [hw4, World.cell?_setCell_other _ _ _ _ (by intro h; injection h; omega)]
  refine HGR.out.cell ((World.cell?_alloc_lt w2.drew _ ⟨w.heap.size, 0, none⟩ hk2).trans x0) ?_
  intro h
  exact HXN (by simpa using h.symm)
 have z1 : w4.cell? ⟨w.heap.size, 1, none⟩ = some (.string x.text) := by
  rw [hw4, World.cell?_setCell_other _ _ _ _ (by intro h; injection h; omega)]
  refine HGR.out.cell ((World.cell?_alloc_lt w2.drew _ ⟨w.heap.size, 1, none⟩ hk2).trans x1) ?_
  intro h
  exact HXN (by simpa using h.symm)
 have z2 : w4.cell? ⟨w.heap.size, 2, none⟩ = some (.int .i64 x.n) := by
  rw [hw4, World.cell?_setCell_other _ _ _ _ (by intro h; injection h; omega)]
  refine HGR.out.cell ((World.cell?_alloc_lt w2.drew _ ⟨w.heap.size, 2, none⟩ hk2).trans x2) ?_
  intro h
  exact HXN (by simpa using h.symm)
 have hk4 : w.heap.size < w4.heap.size := by rw [hw4]; have := HGR.out.size; simp at this ⊢; omega
 rw [← hw4]
 have HgM := Lib.hid hgM
 have HgMv := Lib.hid hgMv
 have HB4 := Lib.hid hB4
 have HR4 := Lib.hid hR4
 have HF4 := Lib.hid hF4
 have s4 := hB4.cell 0
 have s4' : w4.cell? ⟨b, 0, none⟩ = some (.slice (some ⟨g, 0, none⟩) (l.length + 1) c2) := s4
 clear s4 hw4 hB4 hR4 hF4 hat hgM hgMv hnil x0 x1 x2 s0 f0
 go_wp2_with fail
 go_loopw [7] (fun s wr => ∃ i : Nat, s = .int .i64 i ∧ rank cmpSym l x ≤ i ∧ i ≤ l.length ∧ wr.ownsRow 0 23 3 (.slice (some ⟨g, 0, none⟩) (l.length + 1) c2) (l.length + 1) ((shiftAt l x i).flatMap Sym.cells) ∧ Fr (· = g) w4 wr) (fun s wr => (intOf s).toNat)
 case atStart => exact ⟨l.length, by go_num, hrk, Nat.le_refl _, HR4.out, Fr.refl _ _⟩
 case round =>
  obtain ⟨i, rfl, hi1, hi2, hown, hfr⟩ := hrel
  have hgw : g < wr.heap.size := (hown.lt g rfl).2
  have r0 : wr.cell? ⟨b, 0, none⟩ = some (.slice (some ⟨g, 0, none⟩) (l.length + 1) c2) := (hfr.cell (p := ⟨b, 0, none⟩) HB4.out.lt (fun h => hgb h.symm)).trans s4'
  have fz : ∀ o, wr.frozen? ⟨g, o, none⟩ = false := fun o => hown.frozenAt o
  have HOW := Lib.hid hown
  have HFR := Lib.hid hfr
  clear hown hfr
  by_cases hlt : rank cmpSym l x < i
  · obtain ⟨j, rfl⟩ : ∃ j, i = j + 1 := ⟨i - 1, by omega⟩
    have hj : j < l.length := by omega
    have hrd := ownsRow_rd (A := some ⟨g, 0, none⟩) (c := c2) (l := shiftAt l x (j + 1)) Sym.cells_length (by rw [shiftAt_length l x hi2]; exact HOW.out)
    obtain ⟨g', o', hgo, _, hcell⟩ := hrd.at_ (k := j) (by rw [shiftAt_length l x hi2]; omega)
    injection hgo with hgo
    injection hgo with hg1 hg2
    subst hg1; subst hg2
    rw [shiftAt_read l x hj] at hcell
    have q0 : wr.cell? ⟨g, j * 3, none⟩ = some (.int .i64 l[j].kind) := by simpa using hcell 0 _ rfl
    have q1 : wr.cell? ⟨g, j * 3 + 1, none⟩ = some (.string l[j].text) := by simpa using hcell 1 _ rfl
    have q2 : wr.cell? ⟨g, j * 3 + 2, none⟩ = some (.int .i64 l[j].n) := by simpa using hcell 2 _ rfl
    have rmj : Room wr g 23 (c2 * 3) ∧ l.length + 1 ≤ c2 := by
     rcases ownsRow_form HOW.out with ⟨hv, _⟩ | ⟨g', cap, hv, hn, _, hr, _⟩
     · cases hv
     · injection hv with hA _ hc
       injection hA with hA
       injection hA with hA
       subst hA; subst hc
       exact ⟨hr, hn⟩
    obtain ⟨hrm, hcap⟩ := rmj
    obtain ⟨u0, t0⟩ := hrm.cell (i := (j + 1) * 3) (by omega)
    obtain ⟨u1, t1⟩ := hrm.cell (i := (j + 1) * 3 + 1) (by omega)
    obtain ⟨u2, t2⟩ := hrm.cell (i := (j + 1) * 3 + 2) (by omega)
    have b0 : (0 : Int) ≤ (j : Int) + 1 := by omega
    have b1 : (0 : Int) ≤ (j : Int) := by omega
    have b4 : (j : Int) < (l.length : Int) := by omega
    have b2 : (j : Int) < (l.length : Int) + 1 := by omega
    have b3 : (j : Int) + 1 < (l.length : Int) + 1 := by omega
    have w1 : IntKind.i64.wrap ((j : Int)) = (j : Int) := IntWalk.i64_in _ (by omega)
    have w2 : IntKind.i64.wrap ((j : Int) + 1 - 1) = (j : Int) := by rw [IntWalk.i64_in _ (by omega)]; omega
    clear hcell hrd hrm
    obtain ⟨y, hy⟩ : ∃ y, y = l[j] := ⟨_, rfl⟩
    rw [← hy] at q0 q1 q2
    have HY := Lib.hid hy
    have hbw : b < wr.heap.size := World.block_lt_of_cell? wr _ r0
    clear hy
    go_wp2_with fail
    refine wp_region_E (fun w9 => Below wr.heap.size wr w9) [(0, 0), (1, 0), (2, 0), (3, 1), (4, 0), (5, 0), (6, 0), (7, 0), (8, 1), (9, 0), (10, 0), (11, 0), (12, 1), (13, 0), (14, 2)] (by kernel_rfl) (by kernel_rfl) (fun KK hKK => ?_)
    simp only [beside, List.filterMap_cons, List.filterMap_nil, List.getElem?_toArray, List.getElem?_cons_zero, List.getElem?_cons_succ, Option.map_some]
    repeat ((first | (refine wpX_w ?_ (Or.inl ⟨by rfl, fun w9 => ?_⟩) ?_; rotate_left 1; go_simp; with_reducible rfl) | (refine wpX_l ?_ (((Below.refl _ _).drew)) (Or.inl ⟨by rfl, fun w9 hw9 => ?_⟩) ?_; rotate_left 1; obtain ⟨hc9, hf9⟩ := bcell hw9; go_simp; with_reducible rfl) | refine wpX_w undef (Or.inr ⟨by rfl, rfl⟩) ?_ | refine wpX_l undef (((Below.refl _ _).drew)) (Or.inr ⟨by rfl, rfl⟩) ?_); go_frame)
    refine wpX_e (by kernel_rfl) (fun K9 hK9 => ?_)
    go_simp
    refine hK9 _ _ ?_
    clear hK9 K9
    refine wpX_nil ?_
    simp only [OnlyN_normal]
    refine hKK _ _ ?_
    clear hKK KK
    go_wp2_with fail
    go_roundw
    case rel =>
     refine ⟨j, by go_num, by omega, by omega, ?_, Fr.drew ((((HFR.out).setCell (p := ⟨g, (j + 1) * 3, none⟩) (.inl rfl) (_)).setCell (p := ⟨g, (j + 1) * 3 + 1, none⟩) (.inl rfl) (_)).setCell (p := ⟨g, (j + 1) * 3 + 2, none⟩) (.inl rfl) (_))⟩
     have hst := ((((((HOW.out).stored ((j + 1) * 3) (.int .i64 y.kind)).1).stored ((j + 1) * 3 + 1) (.string y.text)).1).stored ((j + 1) * 3 + 2) (.int .i64 y.n)).1
     have he : setAll ((shiftAt l x (j + 1)).flatMap Sym.cells) ((j + 1) * 3) (Sym.cells y) = (shiftAt l x j).flatMap Sym.cells := by
      rw [flat_set Sym.cells_length (by omega) _ (j + 1) (by rw [shiftAt_length l x hi2]; omega), HY.out, shiftAt_step l x hj]
     rw [← he]
     exact hst
    case measure => simp [intOf] <;> omega
  · obtain rfl : i = rank cmpSym l x := by omega
    have rmj : Room wr g 23 (c2 * 3) ∧ l.length + 1 ≤ c2 := by
     rcases ownsRow_form HOW.out with ⟨hv, _⟩ | ⟨g', cap, hv, hn, _, hr, _⟩
     · cases hv
     · injection hv with hA _ hc
       injection hA with hA
       injection hA with hA
       subst hA; subst hc
       exact ⟨hr, hn⟩
    obtain ⟨hrm, hcap⟩ := rmj
    obtain ⟨k, hk⟩ : ∃ k, k = rank cmpSym l x := ⟨_, rfl⟩
    rw [← hk] at hi2 hlt ⊢
    obtain ⟨u0, t0⟩ := hrm.cell (i := k * 3) (by omega)
    obtain ⟨u1, t1⟩ := hrm.cell (i := k * 3 + 1) (by omega)
    obtain ⟨u2, t2⟩ := hrm.cell (i := k * 3 + 2) (by omega)
    have x0 := (HFR.out.cell (p := ⟨w.heap.size, 0, none⟩) hk4 (fun h => hgk1 h.symm)).trans z0
    have x1 := (HFR.out.cell (p := ⟨w.heap.size, 1, none⟩) hk4 (fun h => hgk1 h.symm)).trans z1
    have x2 := (HFR.out.cell (p := ⟨w.heap.size, 2, none⟩) hk4 (fun h => hgk1 h.symm)).trans z2
    have b1 : (0 : Int) ≤ (k : Int) := by omega
    have b2 : (k : Int) < (l.length : Int) + 1 := by omega
    have HK := Lib.hid hk
    have hkw : w.heap.size < wr.heap.size := by have := HFR.out.size; omega
    have hbw : b < wr.heap.size := World.block_lt_of_cell? wr _ r0
    clear hrm hk z0 z1 z2
    go_wp2_with fail
    refine wp_region_E (fun w9 => Below wr.heap.size wr w9) [(0, 0), (1, 0), (2, 0), (3, 1), (4, 0), (5, 1), (6, 0), (7, 2)] (by kernel_rfl) (by kernel_rfl) (fun KK hKK => ?_)
    simp only [beside, List.filterMap_cons, List.filterMap_nil, List.getElem?_toArray, List.getElem?_cons_zero, List.getElem?_cons_succ, Option.map_some]
    repeat ((first | (refine wpX_w ?_ (Or.inl ⟨by rfl, fun w9 => ?_⟩) ?_; rotate_left 1; go_simp; with_reducible rfl) | (refine wpX_l ?_ (((Below.refl _ _).drew)) (Or.inl ⟨by rfl, fun w9 hw9 => ?_⟩) ?_; rotate_left 1; obtain ⟨hc9, hf9⟩ := bcell hw9; go_simp; with_reducible rfl) | refine wpX_w undef (Or.inr ⟨by rfl, rfl⟩) ?_ | refine wpX_l undef (((Below.refl _ _).drew)) (Or.inr ⟨by rfl, rfl⟩) ?_); go_frame)
    refine wpX_e (by kernel_rfl) (fun K9 hK9 => ?_)
    go_simp
    refine hK9 _ _ ?_
    clear hK9 K9
    refine wpX_nil ?_
    simp only [OnlyN_normal]
    refine hKK _ _ ?_
    clear hKK KK
    go_wp2_with fail
    go_ret
    have HOWk := HOW.out
    rw [← HK.out] at HOWk
    have hst := ((((((HOWk).stored (k * 3) (.int .i64 x.kind)).1).stored (k * 3 + 1) (.string x.text)).1).stored (k * 3 + 2) (.int .i64 x.n)).1
    have he : setAll ((shiftAt l x k).flatMap Sym.cells) (k * 3) (Sym.cells x) = (put cmpSym l x).flatMap Sym.cells := by
     rw [flat_set Sym.cells_length (by omega) _ k (by rw [shiftAt_length l x hi2]; omega), shiftAt_end l x hi2, put_eq tc_sym HO.out hh, HK.out]
    have hln := length_put tc_sym HO.out hh
    refine ⟨by rw [hh]; rfl, false, some ⟨g, 0, none⟩, c2, ⟨?_, ?_⟩, ?_, ?_⟩
    · rw [hln]
      exact (((HB4.out.fr HFR.out (fun h => hgb h.symm)).far (p := ⟨g, k * 3, none⟩) (fun h => hgb h.symm) _).far (p := ⟨g, k * 3 + 1, none⟩) (fun h => hgb h.symm) _).far (p := ⟨g, k * 3 + 2, none⟩) (fun h => hgb h.symm) _
    · rw [hln, ← he]
      exact hst
    · exact HF4.out.into (Fr.drew ((((HFR.out).setCell (p := ⟨g, k * 3, none⟩) (.inl rfl) (_)).setCell (p := ⟨g, k * 3 + 1, none⟩) (.inl rfl) (_)).setCell (p := ⟨g, k * 3 + 2, none⟩) (.inl rfl) (_))) (fun k hk => by subst hk; exact HgM.out)
    · exact HgMv.out
theorem put_Sym (b c : Nat) (sn : Bool) (A : Option Addr) (l : List Sym) (x : Sym) (w : World) (hS : SymSet w b sn A c l) (hs : Srt cmpSym l) (hl : (l.length : Int) ≤ 100000000) :
 Calls Tryz.prog 73 #[.pointer (some ⟨b, 0, none⟩), .agg #[.int .i64 x.kind, .string x.text, .int .i64 x.n]] w (PutPostSym w b sn A l x) := by
 cases hh : has cmpSym l x
 · exact put_new_Sym b c sn A l x w hS hs hl hh
 · exact put_there_Sym b c sn A l x w hS hs hl hh
end Go.Proofs.YtpndmjabjjbefaaGreat
namespace Go.Proofs.YtpndmjabjjbefaaGreat
open Go.RowKit
set_option maxHeartbeats 400000 in
theorem len_Sym (b c : Nat) (sn : Bool) (A : Option Addr) (l : List Sym) (w : World) (hS : SymSet w b sn A c l) :
 Calls Tryz.prog 79 #[.pointer (some ⟨b, 0, none⟩)] w fun e w' => e = .returned (.int .i64 l.length) ∧ w = w' := by
 have s0 := hS.cell0
 clear hS
 go_enter Tryz.func79, Tryz.ntmps79
 go_wp2
 go_ret
 exact ⟨rfl, rfl⟩
set_option maxRecDepth 100000 in
set_option maxHeartbeats 400000 in
theorem place_Sym (b c : Nat) (sn : Bool) (A : Option Addr) (l : List Sym) (x : Sym) (w : World) (hS : SymSet w b sn A c l) (hs : Srt cmpSym l) (hl : (l.length : Int) ≤ 1000000000) :
 Calls Tryz.prog 66 #[.pointer (some ⟨b, 0, none⟩), .agg #[.int .i64 x.kind, .string x.text, .int .i64 x.n]] w (FoundSym l x w) := by
 have HS := Lib.hid hS
 have HO := Lib.hid hs
 clear hS hs
 go_enter Tryz.func66, Tryz.ntmps66
 go_wp2_with fail
 refine (find_Sym b c sn A l x _ (HS.out.new_ ((Below.refl _ _).alloc (Nat.le_refl _) _)) HO.out (by omega)).mono ?_
 rintro e w1 ⟨rfl, hb1⟩
 go_wp2_with fail
 go_ret2
 exact ⟨rfl, ((Below.refl _ _).alloc (Nat.le_refl _) _).trans (hb1.mono (by simp))⟩
def ClonePostSym (w : World) (b : Nat) (A : Option Addr) (c : Nat) (l : List Sym) (e : Ending) (w' : World) : Prop :=
 ∃ k, e = .returned (.pointer (some ⟨k, 0, none⟩)) ∧ w.heap.size ≤ k ∧ SymSet w' b true A c l ∧ SymSet w' k true A c l ∧ Fr (· = b) w w'
set_option maxRecDepth 100000 in
set_option maxHeartbeats 1000000 in
theorem clone_Sym (b c : Nat) (sn : Bool) (A : Option Addr) (l : List Sym) (w : World) (hS : SymSet w b sn A c l) :
 Calls Tryz.prog 75 #[.pointer (some ⟨b, 0, none⟩)] w (ClonePostSym w b A c l) := by
 have s0 := hS.cell0
 have s1 := hS.cell1
 have f1 := hS.blk.frozen 1
 have hb := hS.lt
 have HS := Lib.hid hS
 clear hS
 go_enter Tryz.func75, Tryz.ntmps75
 go_wp2
 go_ret
 have h1 : SymSet (w.setCell ⟨b, 1, none⟩ (.bool true)) b true A c l := ⟨HS.out.blk.set_ 1 _, ownsRow_setCell_other HS.out.row (own_blk_ne HS.out.row HS.out.blk (by decide)) _⟩
 refine ⟨w.heap.size, by simp, Nat.le_refl _, h1.new_ ((Below.refl _ _).alloc (Nat.le_refl _) _), ⟨?_, ownsRow_new h1.row ((Below.refl _ _).alloc (Nat.le_refl _) _)⟩, ((Fr.refl (· = b) w).setCell (p := ⟨b, 1, none⟩) (.inl rfl) _).alloc _⟩
 have h2 := Blk.new (w.setCell ⟨b, 1, none⟩ (.bool true)) 131 #[.slice A l.length c, .bool true]
 simpa using h2
end Go.Proofs.YtpndmjabjjbefaaGreat
namespace Go.Proofs.YtpndmjabjjbefaaGreat
open Go.RowKit
def NewPostSym (w : World) (xs : List Sym) (e : Ending) (w' : World) : Prop :=
 ∃ k, e = .returned (.pointer (some ⟨k, 0, none⟩)) ∧ w.heap.size ≤ k ∧ ∃ sn A c, SymSet w' k sn A c (puts cmpSym [] xs) ∧ AIn A (w.heap.size ≤ ·) ∧ Below w.heap.size w w'
set_option maxRecDepth 100000 in
set_option maxHeartbeats 2000000 in
theorem new_Sym (A : Option Addr) (c : Nat) (xs : List Sym) (w : World) (hrd : RowRd w 3 Sym.cells A c xs) (hl : (xs.length : Int) ≤ 10000000) :
 Calls Tryz.prog 52 #[.slice A xs.length c] w (NewPostSym w xs) := by
 have HRD := Lib.hid hrd
 clear hrd
 go_enter Tryz.func52, Tryz.ntmps52
 go_wp2_with fail
 obtain ⟨W0, hW0⟩ : ∃ W0, W0 = w.alloc (.cells #[.slice none 0 0, .bool false] 131) := ⟨_, rfl⟩
 have hb0 : Below w.heap.size w W0 := by rw [hW0]; exact (Below.refl _ _).alloc (Nat.le_refl _) _
 have hS0 : SymSet W0 w.heap.size false none 0 [] := ⟨by rw [hW0]; exact Blk.new _ _ _, ⟨by simp, .inl ⟨rfl, rfl⟩⟩⟩
 rw [← hW0]
 clear hW0
 have HB0 := Lib.hid hb0
 have HS0 := Lib.hid hS0
 clear hb0 hS0
 go_loopw [10] (fun s wr => ∃ i : Nat, s = .int .i64 i ∧ i ≤ xs.length ∧ ∃ sn A' c', SymSet wr w.heap.size sn A' c' (puts cmpSym [] (xs.take i)) ∧ AIn A' (w.heap.size ≤ ·) ∧ Below w.heap.size w wr) (fun s wr => xs.length - (intOf s).toNat)
 case atStart => exact ⟨0, rfl, Nat.zero_le _, false, none, 0, HS0.out, AIn.none_ _, HB0.out⟩
 case round =>
  obtain ⟨i, rfl, hi, sn, A', c', hS, hA', hB⟩ := hrel
  have HS := Lib.hid hS
  have HA := Lib.hid hA'
  have HB := Lib.hid hB
  clear hS hA' hB
  by_cases hlt : i < xs.length
  · obtain ⟨x, hx⟩ : ∃ x, x = xs[i] := ⟨_, rfl⟩
    obtain ⟨g, off, rfl, hgs, hcell⟩ := (HRD.out.fr (Fr.of_new (M := fun _ => False) HB.out) (fun _ _ h => h)).at_ hlt
    rw [← hx] at hcell
    have q0 : wr.cell? ⟨g, off + i * 3, none⟩ = some (.int .i64 x.kind) := by simpa using hcell 0 _ rfl
    have q1 : wr.cell? ⟨g, off + i * 3 + 1, none⟩ = some (.string x.text) := by simpa using hcell 1 _ rfl
    have q2 : wr.cell? ⟨g, off + i * 3 + 2, none⟩ = some (.int .i64 x.n) := by simpa using hcell 2 _ rfl
    have b1 : (0 : Int) ≤ (i : Int) := by omega
    have b2 : (i : Int) < (xs.length : Int) := by omega
    have HX := Lib.hid hx
    clear hcell hx
    go_wp2_with fail
    have hsr := Srt.puts tc_sym (xs.take i) (Srt.nil (cmp := cmpSym))
    have hlen : (((puts cmpSym [] (xs.take i)).length : Nat) : Int) ≤ 100000000 := by
     have := length_puts_le tc_sym (xs.take i) (Srt.nil (cmp := cmpSym))
     simp at this
     omega
    refine (put_Sym w.heap.size c' sn A' _ x _ (HS.out.new_ ((Below.refl _ _).alloc (Nat.le_refl _) _)) hsr hlen).mono ?_
    rintro e w1 ⟨rfl, sn2, A2, c2, hS2, hF2, hM2⟩
    have hB1 : Below w.heap.size w w1 := (HB.out.alloc HB.out.size _).trans (hF2.below (by have := HB.out.size; (try simp); omega) (fun k hk hm => by
     rcases hm with hm | ⟨_, a, ha, hm⟩
     · omega
     · have := HA.out a ha; omega))
    have hA2 : AIn A2 (w.heap.size ≤ ·) := by
     rcases hM2 with ⟨_, rfl⟩ | ⟨_, g2, hg2, rfl⟩
     · exact HA.out
     · intro a ha; cases ha; have := HB.out.size; (try simp at hg2 ⊢); omega
    have HS2 := Lib.hid hS2
    have HB1 := Lib.hid hB1
    have HA2 := Lib.hid hA2
    clear hS2 hB1 hA2 hF2 hM2 hsr hlen q0 q1 q2
    go_wp2_with fail
    go_roundw
    case rel =>
     refine ⟨i + 1, by go_num, by omega, sn2, A2, c2, ?_, HA2.out, HB1.out⟩
     rw [List.take_add_one, List.getElem?_eq_getElem hlt, ← HX.out]
     simp only [Option.toList_some, puts_snoc]
     exact HS2.out
    case measure => simp [intOf] <;> omega
  · have hie : i = xs.length := by omega
    subst hie
    go_wp2_with fail
    go_ret
    refine ⟨w.heap.size, rfl, Nat.le_refl _, sn, A', c', ?_, HA.out, HB.out⟩
    have := HS.out
    rwa [List.take_length] at this
end Go.Proofs.YtpndmjabjjbefaaGreat
namespace Go.Proofs.YtpndmjabjjbefaaGreat
open Go.RowKit Go.Shelf
def RowKeep (A : Option Addr) (W W' : World) : Prop := W.heap.size ≤ W'.heap.size ∧ ∀ a, A = some a → a.block < W.heap.size → W'.heap[a.block]? = W.heap[a.block]?
theorem RowKeep.trans {A : Option Addr} {X Y Z : World} (h : RowKeep A X Y) (k : RowKeep A Y Z) : RowKeep A X Z := ⟨Nat.le_trans h.1 k.1, fun a e hl => (k.2 a e (Nat.lt_of_lt_of_le hl h.1)).trans (h.2 a e hl)⟩
theorem RowKeep.of_priv {A : Option Addr} {B : Nat} {X Y : World} (hA : AIn A (· < B)) (h : Priv B X Y) : RowKeep A X Y := ⟨h.size, fun a e hl => h.block _ hl (.inl (hA a e))⟩
theorem RowKeep.of_below {A : Option Addr} {B : Nat} {X Y : World} (hA : AIn A (· < B)) (h : Below B X Y) : RowKeep A X Y := ⟨h.size, fun a e _ => h.block _ (hA a e)⟩
theorem RowKeep.rd {α : Type} {size c : Nat} {cells : α → List Value} {A : Option Addr} {l : List α} {W W' : World} (hk : RowKeep A W W') (h : RowRd W size cells A c l) : RowRd W' size cells A c l :=
 h.keep hk.1 (fun p hp ⟨a, ha, hb⟩ => World.cell?_of_block (by rw [← hb]; exact hk.2 a ha (by rw [hb]; exact hp)))
def SeenStart (b : Nat) (X Y : World) : Prop := ∃ X1, Below X.heap.size X X1 ∧ Y = X1.setCell ⟨b, 1, none⟩ (.bool true)
theorem SeenStart.set_ {α : Type} {tSet tE size : Nat} {cells : α → List Value} {W W1 : World} {b : Nat} {sn : Bool} {A : Option Addr} {c : Nat} {l : List α} (h : SeenStart b W W1) (hS : SetAt tSet tE size cells W b sn A c l) (hne : tE ≠ tSet) : SetAt tSet tE size cells W1 b true A c l := by
 obtain ⟨X1, hb, rfl⟩ := h
 refine ⟨(hS.new_ hb).blk.set_ 1 _, ownsRow_setCell_other (hS.new_ hb).row ?_ _⟩
 exact own_blk_ne hS.row hS.blk hne
theorem SeenStart.fr {b : Nat} {W W1 : World} (h : SeenStart b W W1) : Fr (· = b) W W1 := by
 obtain ⟨X1, hb, rfl⟩ := h
 exact (Fr.of_new (M := (· = b)) hb).setCell (p := ⟨b, 1, none⟩) (.inl rfl) _
abbrev Rounds {α : Type} (lo : Nat) (encs : α → Array Value) (xs : List α) (Kp : World → World → Prop) (J Jx : List α → World → Prop) : Prop :=
 ∀ pre x post W1, xs = pre ++ x :: post → J pre W1 → YieldAt Fence.wide 0 Tryz.prog lo (encs x) W1 fun e W' =>
  (e = .returned (.bool true) ∧ J (pre ++ [x]) W' ∧ Kp W1 W') ∨ (e = .returned (.bool false) ∧ Jx (pre ++ [x]) W')
abbrev Told {α : Type} (xs : List α) (J Jx : List α → World → Prop) (e : Ending) (W' : World) : Prop := (∃ v, e = .returned v) ∧ (J xs W' ∨ ∃ pre post, xs = pre ++ post ∧ Jx pre W')
end Go.Proofs.YtpndmjabjjbefaaGreat
namespace Go.Proofs.YtpndmjabjjbefaaGreat
open Go.RowKit Go.Shelf
attribute [local go_sem] Oper.semAt_some
structure Seq {α : Type} (gf : Nat) (lb : Array Value) (encs : α → Array Value) (xs : List α) (w : World) (start Kp : World → World → Prop) : Prop where
 enter : ∀ args w, (callFunc gf args).run Tryz.prog w = .ok (.enter gf args) w
 iter : ∀ W, Below w.heap.size w W → Iter Tryz.prog gf lb encs xs W start (fun X Y => Kp X Y ∧ KeepsFrom W.heap.size X Y)
 trans : ∀ A B C, Kp A B → Kp B C → Kp A C
 keep : ∀ A B, Priv w.heap.size A B → Kp A B
 below : ∀ A B, Below w.heap.size A B → Kp A B
 mods : ∀ W W1, start W W1 → Fr (· < w.heap.size) W W1
theorem keepsFrom_of_fr {B : Nat} {X Y : World} (h : Fr (· < B) X Y) : KeepsFrom B X Y := ⟨h.size, fun k _ hB hk _ => (h.block k (Array.getElem?_eq_some_iff.1 hk).1 (by omega)).trans hk⟩
theorem owns_base {W : World} {base base' : Nat} {e : TypeId} {size : Nat} {v : Value} {n : Nat} {xs : List Value} (h : W.ownsRow base e size v n xs) (hb : base' ≤ base) : W.ownsRow base' e size v n xs :=
 ⟨h.1, h.2.imp id fun ⟨g, cap, cur, hv, h0, hg, hr⟩ => ⟨g, cap, cur, hv, Nat.le_trans hb h0, hg, hr⟩⟩
theorem owns_form {W : World} {base : Nat} {e : TypeId} {size : Nat} {v : Value} {n : Nat} {xs : List Value} (h : W.ownsRow base e size v n xs) : ∃ A c, v = .slice A n c ∧ AIn A (base ≤ ·) := by
 rcases h.2 with ⟨rfl, rfl⟩ | ⟨g, cap, cur, rfl, h0, _⟩
 · exact ⟨none, 0, rfl, AIn.none_ _⟩
 · exact ⟨_, cap, rfl, fun a e => by cases e; exact h0⟩
theorem owns_block {W : World} {base : Nat} {e : TypeId} {size : Nat} {v : Value} {n : Nat} {xs : List Value} (h : W.ownsRow base e size v n xs) : ∀ k, v.ownBlock = some k → base ≤ k := by
 rcases h.2 with ⟨rfl, rfl⟩ | ⟨g, cap, cur, rfl, h0, _⟩
 · intro k hk; cases hk
 · intro k hk; cases hk; exact h0
theorem owns_below {W W' : World} {base : Nat} {e : TypeId} {size : Nat} {v : Value} {n : Nat} {xs : List Value} (h : W.ownsRow base e size v n xs) (hb : Below W.heap.size W W') : W'.ownsRow base e size v n xs :=
 ⟨h.1, h.2.imp id fun ⟨g, cap, cur, hv, h0, hg, hr⟩ => ⟨g, cap, cur, hv, h0, Blk.new_ (t := e) hg hb, hr⟩⟩
theorem owns_cells {W : World} {base : Nat} {e : TypeId} {size : Nat} {v : Value} {n : Nat} {xs : List Value} (h : W.ownsRow base e size v n xs) : ∀ k, v.ownBlock = some k → cellsAt W k := by
 rcases h.2 with ⟨rfl, rfl⟩ | ⟨g, cap, cur, rfl, h0, hg, _⟩
 · intro k hk; cases hk
 · intro k hk; cases hk; exact ⟨_, _, _, hg⟩
theorem owns_nil (W : World) (base : Nat) (e : TypeId) (size : Nat) : W.ownsRow base e size (.slice none 0 0) 0 [] := ⟨by simp, .inl ⟨rfl, rfl⟩⟩
theorem Seq.new_ {α : Type} {gf : Nat} {lb : Array Value} {encs : α → Array Value} {xs : List α} {w w' : World} {start Kp : World → World → Prop} (h : Seq gf lb encs xs w start Kp) (hb : Below w.heap.size w w') : Seq gf lb encs xs w' start Kp :=
 ⟨h.enter, fun W hW => h.iter W (hb.trans (hW.mono hb.size)), h.trans, fun A B hp => h.keep A B (hp.mono hb.size), fun A B hp => h.below A B (hp.mono hb.size), fun W W1 hs => (h.mods W W1 hs).mono (fun _ _ hk => Nat.lt_of_lt_of_le hk hb.size)⟩
end Go.Proofs.YtpndmjabjjbefaaGreat
namespace Go.Proofs.YtpndmjabjjbefaaGreat
open Go.RowKit Go.Shelf
attribute [local go_sem] Oper.semAt_some
def encSym (x : Sym) : Array Value := #[.agg #[.int .i64 x.kind, .string x.text, .int .i64 x.n]]
set_option maxRecDepth 100000 in
set_option maxHeartbeats 2000000 in
theorem from_Sym (lo b c k : Nat) (sn : Bool) (A : Option Addr) (l : List Sym) (W : World) (hS : SymSet W b sn A c l) (hk : k ≤ l.length) (J Jx : List Sym → World → Prop)
 (h0 : J [] (W.setCell ⟨b, 1, none⟩ (.bool true))) (hY : Rounds lo encSym (l.drop k) (RowKeep A) J Jx) :
 CallsIn Fence.wide 0 Tryz.prog 89 #[.pointer (some ⟨b, 0, none⟩), .int .i64 k, .func (.yield lo) #[] #[]] W (Told (l.drop k) J Jx) := by
 have s0 := hS.cell0
 have s1 := hS.cell1
 have f1 := hS.blk.frozen 1
 have hne := own_blk_ne hS.row hS.blk (by decide)
 have hrd : RowRd (W.setCell ⟨b, 1, none⟩ (.bool true)) 3 Sym.cells A c l := ownsRow_rd Sym.cells_length (ownsRow_setCell_other hS.row hne _)
 have hlm : (l.length : Int) ≤ 9223372036854775807 := by have := hrd.cap; omega
 have HRD := Lib.hid hrd
 have H0 := Lib.hid h0
 have HY := Lib.hid hY
 clear hS hrd h0 hY hne
 refine callsIn_of_wp Tryz.func89 rfl trivial ?_
 simp only [Tryz.ntmps89, List.size_toArray, List.length_cons, List.length_nil, Nat.reduceAdd, Nat.reduceSub, Array.replicate_succ, Array.replicate_zero, List.push_toArray, List.append_toArray, List.nil_append, List.cons_append]
 gi_wp2
 gi_loopw [7] (fun s wr => ∃ pre post, s = .int .i64 ((k + pre.length : Nat) : Int) ∧ l.drop k = pre ++ post ∧ J pre wr ∧ RowRd wr 3 Sym.cells A c l) (fun s wr => l.length - (intOf s).toNat)
 case atStart => exact ⟨[], l.drop k, by simp, by simp, H0.out, HRD.out⟩
 case round =>
  obtain ⟨pre, post, rfl, hx, hJ, hrd⟩ := hrel
  have hlen : k + pre.length + post.length = l.length := by have := congrArg List.length hx; simp at this; omega
  have HX := Lib.hid hx
  have HJ := Lib.hid hJ
  have HR := Lib.hid hrd
  clear hx hJ hrd
  cases post with
  | nil =>
    have e1 : ((k + pre.length : Nat) : Int) = (l.length : Int) := by simp at hlen; omega
    rw [e1]
    clear hlen e1
    gi_wp2
    go_end0
    exact ⟨⟨_, rfl⟩, .inl (by have := HX.out; rw [List.append_nil] at this; rw [this]; exact HJ.out)⟩
  | cons x post =>
    obtain ⟨m, hm⟩ : ∃ m, m = k + pre.length := ⟨_, rfl⟩
    have hml : m < l.length := by simp at hlen; omega
    have hget : l[m] = x := by
     apply Option.some.inj
     rw [← List.getElem?_eq_getElem, hm, ← List.getElem?_drop, HX.out]
     simp
    obtain ⟨g, off, rfl, hgs, hcell⟩ := HR.out.at_ hml
    rw [hget] at hcell
    have q0 : wr.cell? ⟨g, off + m * 3, none⟩ = some (.int .i64 x.kind) := by simpa using hcell 0 _ rfl
    have q1 : wr.cell? ⟨g, off + m * 3 + 1, none⟩ = some (.string x.text) := by simpa using hcell 1 _ rfl
    have q2 : wr.cell? ⟨g, off + m * 3 + 2, none⟩ = some (.int .i64 x.n) := by simpa using hcell 2 _ rfl
    have b1 : (0 : Int) ≤ (m : Int) := by omega
    have b2 : (m : Int) < (l.length : Int) := by omega
    rw [← hm]
    have HM := Lib.hid hm
    clear hcell hget hlen hm
    obtain ⟨fn, tmps, assign, body, hy, hR⟩ := HY.out pre x post wr HX.out HJ.out
    dsimp only [encSym] at hy
    have HRR := Lib.hid hR
    clear hR
    gi_wp2_with fail
    refine ⟨rfl, HRR.out.mono ?_⟩
    rintro e W3 (⟨rfl, hJ3, hk3⟩ | ⟨rfl, hJx3⟩)
    · have HJ3 := Lib.hid hJ3
      have HK3 := Lib.hid hk3
      clear hJ3 hk3 hy q0 q1 q2
      gi_wp2
      go_roundw
      case rel => exact ⟨pre ++ [x], post, by rw [HM.out, List.length_append, List.length_singleton]; go_num, by rw [HX.out]; simp, HJ3.out, HK3.out.rd HR.out⟩
      case measure => simp [intOf] <;> omega
    · have HJ3 := Lib.hid hJx3
      clear hJx3 hy q0 q1 q2
      gi_wp2
      refine bodyPost_ret (results_none rfl _ _ _) rfl ?_
      exact ⟨⟨_, rfl⟩, .inr ⟨pre ++ [x], post, by rw [HX.out]; simp, HJ3.out⟩⟩
set_option maxRecDepth 100000 in
set_option maxHeartbeats 2000000 in
theorem all_Sym (kb b c : Nat) (sn : Bool) (A : Option Addr) (l : List Sym) (W : World) (hbox : W.cell? ⟨kb, 0, none⟩ = some (.pointer (some ⟨b, 0, none⟩))) (hS : SymSet W b sn A c l) :
 Iter Tryz.prog 88 #[.pointer (some ⟨kb, 0, none⟩)] encSym l W (SeenStart b) (RowKeep A) := by
 intro lo J Jx _ _ h0 hY
 have H0 := Lib.hid (h0 (W.setCell ⟨b, 1, none⟩ (.bool true)) ⟨W, Below.refl _ _, rfl⟩)
 have HY := Lib.hid hY
 have HS := Lib.hid hS
 clear h0 hY hS
 refine callsIn_of_wp Tryz.func88 rfl trivial ?_
 simp only [Tryz.ntmps88, List.size_toArray, List.length_cons, List.length_nil, Nat.reduceAdd, Nat.reduceSub, Array.replicate_succ, Array.replicate_zero, List.push_toArray, List.append_toArray, List.nil_append, List.cons_append]
 gi_wp2_with fail
 have hz : ((0 : Nat) : Int) = 0 := rfl
 refine ⟨trivial, rfl, ?_⟩
 refine (from_Sym lo b c 0 sn A l W HS.out (Nat.zero_le _) J Jx H0.out (by rw [List.drop_zero]; exact HY.out)).mono ?_
 rintro e W3 ⟨⟨v, rfl⟩, h⟩
 rw [List.drop_zero] at h
 have H := Lib.hid h
 clear h
 gi_wp2
 go_end0
 exact ⟨⟨_, rfl⟩, H.out⟩
end Go.Proofs.YtpndmjabjjbefaaGreat
namespace Go.Proofs.YtpndmjabjjbefaaGreat
open Go.RowKit Go.Shelf
attribute [local go_sem] Oper.semAt_some
set_option maxHeartbeats 400000 in
theorem mkall_Sym (b : Nat) (w : World) :
 Calls Tryz.prog 65 #[.pointer (some ⟨b, 0, none⟩)] w fun e w' => e = .returned (.func (.func 88) #[] #[.pointer (some ⟨w.heap.size, 0, none⟩)]) ∧ Below w.heap.size w w' ∧ w'.cell? ⟨w.heap.size, 0, none⟩ = some (.pointer (some ⟨b, 0, none⟩)) := by
 go_enter Tryz.func65, Tryz.ntmps65
 go_wp2
 go_ret
 exact ⟨rfl, (Below.refl _ _).alloc (Nat.le_refl _) _, by go_simp⟩
theorem seq_all_Sym (kb b c : Nat) (sn : Bool) (A : Option Addr) (l : List Sym) (w : World) (hbox : w.cell? ⟨kb, 0, none⟩ = some (.pointer (some ⟨b, 0, none⟩))) (hS : SymSet w b sn A c l) :
 Seq 88 #[.pointer (some ⟨kb, 0, none⟩)] encSym l w (SeenStart b) (RowKeep A) :=
 ⟨by intro args w; kernel_rfl, fun W hW => (all_Sym kb b c sn A l W ((hW.cell (World.block_lt_of_cell? _ _ hbox)).trans hbox) (hS.new_ hW)).weak (fun _ _ h => h.1), fun _ _ _ => RowKeep.trans, fun _ _ => RowKeep.of_priv hS.row_lt, fun _ _ => RowKeep.of_below hS.row_lt, fun _ _ h => h.fr.mono (fun k _ hk => by subst hk; exact hS.lt)⟩
def ListPostSym (w : World) (start : World → World → Prop) (xs : List Sym) (e : Ending) (w' : World) : Prop :=
 ∃ A c, e = .returned (.slice A xs.length c) ∧ w'.ownsRow 0 23 3 (.slice A xs.length c) xs.length (xs.flatMap Sym.cells) ∧ AIn A (w.heap.size ≤ ·) ∧ ∃ W1 W2, Below w.heap.size w W1 ∧ start W1 W2 ∧ Below w.heap.size W2 w'
end Go.Proofs.YtpndmjabjjbefaaGreat
namespace Go.Proofs.YtpndmjabjjbefaaGreat
open Go.RowKit
abbrev SymSets := Sets (α := Sym) 131 23 3 Sym.cells cmpSym
section
variable {D : Nat → Prop} {w : World} {S : Nat → Option (List Sym)} {σ : Nat → St} {b : Nat} {l : List Sym}
theorem sClone_Sym (h : SymSets D w S σ) (hb : S b = some l) :
 Calls Tryz.prog 75 #[.pointer (some ⟨b, 0, none⟩)] w fun e w' => ∃ k, e = .returned (.pointer (some ⟨k, 0, none⟩)) ∧ w.heap.size ≤ k ∧ (∀ b l, S b = some l → b ≠ k) ∧
  ∃ σ', SymSets D w' (upd S k (some l)) σ' ∧ (∀ j, j ≠ k → j ≠ b → σ' j = σ j) ∧ (σ' b).sn = true ∧ (σ' b).A = (σ b).A ∧ (σ' k).sn = true ∧ (σ' k).A = (σ b).A ∧ Fr (fun k => ¬ D k) w w' ∧ Fr (· = b) w w' := by
 refine (clone_Sym b _ _ _ l w (h.at_ b l hb)).mono ?_
 rintro e w' ⟨k, he, hk, h1, h2, hF⟩
 have hnb : b ≠ k := fun e => by have := h.lt hb; omega
 have hD : Fr (fun k => ¬ D k) w w' := hF.mono (fun k _ hk => by rw [hk]; exact (h.out b l hb).1)
 have hs := h.seen (by decide) hb h1 hF
 have hrow := (h.at_ b l hb).row_lt
 refine ⟨k, he, hk, fun b l hb e => by have := h.lt hb; omega, upd (upd σ b ⟨true, (σ b).A, (σ b).c⟩) k ⟨true, (σ b).A, (σ b).c⟩, ⟨fun j m hj => ?_, fun j m hj => ?_, fun j m hj => ?_, fun j m j' m' hj hj' hjj hsj a a' ha ha' => ?_, hs.low⟩, fun j h1 h2 => by rw [upd_ne _ _ h1, upd_ne _ _ h2], by rw [upd_ne _ _ hnb, upd_same], by rw [upd_ne _ _ hnb, upd_same], by rw [upd_same], by rw [upd_same], hD, hF⟩
 · by_cases e : j = k
   · subst e; rw [upd_same] at hj ⊢; cases hj; exact h2
   · rw [upd_ne _ _ e] at hj ⊢; exact hs.at_ j m hj
 · by_cases e : j = k
   · subst e; rw [upd_same] at hj; cases hj; exact h.srt b l hb
   · rw [upd_ne _ _ e] at hj; exact h.srt j m hj
 · by_cases e : j = k
   · subst e; rw [upd_same] at hj ⊢; cases hj
     exact ⟨fun hd => by have := h.low _ hd; omega, fun hs2 => by cases hs2⟩
   · rw [upd_ne _ _ e] at hj ⊢; exact hs.out j m hj
 · by_cases e : j = k
   · subst e; rw [upd_same] at hsj; cases hsj
   · rw [upd_ne _ _ e] at hj hsj ha
     by_cases e2 : j' = k
     · subst e2
       rw [upd_same] at ha'
       by_cases e3 : j = b
       · subst e3; rw [upd_same] at hsj; cases hsj
       · exact hs.apart j m b l hj hb e3 hsj a a' ha (by rw [upd_same]; exact ha')
     · rw [upd_ne _ _ e2] at hj' ha'
       exact hs.apart j m j' m' hj hj' hjj hsj a a' ha ha'
end
end Go.Proofs.YtpndmjabjjbefaaGreat
namespace Go.Proofs.YtpndmjabjjbefaaGreat
open Go.RowKit
theorem eql_sym (x y : Sym) (W : World) : (binOp .eql 23 (.agg #[.int .i64 x.kind, .string x.text, .int .i64 x.n]) (.agg #[.int .i64 y.kind, .string y.text, .int .i64 y.n])).run Tryz.prog W = .ok (.bool (decide (x = y))) W := by
 rw [run_eql_struct]
 go_simp
 by_cases h : x = y
 · subst h; simp
 · have h2 : ¬ (x.kind = y.kind ∧ x.text.toList = y.text.toList ∧ x.n = y.n) := fun ⟨h1, h2, h3⟩ => h (Sym.ext' h1 (toList_inj h2) h3)
   rw [decide_eq_false h]
   split
   · split
     · split
       · exact absurd ⟨by assumption, by assumption, by assumption⟩ h2
       · rfl
     · rfl
   · rfl
theorem neq_sym (x y : Sym) (W : World) : (binOp .neq 23 (.agg #[.int .i64 x.kind, .string x.text, .int .i64 x.n]) (.agg #[.int .i64 y.kind, .string y.text, .int .i64 y.n])).run Tryz.prog W = .ok (.bool (!decide (x = y))) W := by
 rw [run_neq_struct]
 go_simp
 by_cases h : x = y
 · subst h; simp
 · have h2 : ¬ (x.kind = y.kind ∧ x.text.toList = y.text.toList ∧ x.n = y.n) := fun ⟨h1, h2, h3⟩ => h (Sym.ext' h1 (toList_inj h2) h3)
   rw [decide_eq_false h]
   split
   · split
     · split
       · exact absurd ⟨by assumption, by assumption, by assumption⟩ h2
       · rfl
     · rfl
   · rfl
attribute [local go_sem] eql_sym neq_sym
theorem sym_at {w : World} {A : Option Addr} {c k : Nat} {l : List Sym} (h : RowRd w 3 Sym.cells A c l) (hk : k < l.length) : ∃ g off, A = some ⟨g, off, none⟩ ∧ g < w.heap.size ∧
 w.cell? ⟨g, off + k * 3, none⟩ = some (.int .i64 l[k].kind) ∧ w.cell? ⟨g, off + k * 3 + 1, none⟩ = some (.string l[k].text) ∧ w.cell? ⟨g, off + k * 3 + 2, none⟩ = some (.int .i64 l[k].n) := by
 obtain ⟨g, off, hA, hg, hc⟩ := h.at_ hk
 exact ⟨g, off, hA, hg, by simpa using hc 0 _ rfl, by simpa using hc 1 _ rfl, by simpa using hc 2 _ rfl⟩
end Go.Proofs.YtpndmjabjjbefaaGreat
namespace Go.Proofs.YtpndmjabjjbefaaGreat
open Go.RowKit Go.Shelf
def getB : List BindT → ByteArray → Sym × Bool
 | [], _ => (zS, false)
 | b :: l, v => if b.var.toList = v.toList then (b.sym, true) else getB l v
theorem getB_cons (b : BindT) (l : List BindT) (v : ByteArray) : getB (b :: l) v = if b.var.toList = v.toList then (b.sym, true) else getB l v := rfl
def atomV (a : AtomT) (l : List BindT) : Sym × Bool := if a.var.toList = [] then (a.sym, true) else getB l a.var
def SymTo (W : World) (r : Sym × Bool) (e : Ending) (W' : World) : Prop := e = .returned (.tuple #[.agg #[.int .i64 r.1.kind, .string r.1.text, .int .i64 r.1.n], .bool r.2]) ∧ Below W.heap.size W W'
theorem Blk.z3 {w : World} {g : Nat} {t : TypeId} (h : Blk w g t #[.int .i64 0, .string ⟨#[]⟩, .int .i64 0]) : w.cell? ⟨g, 0, none⟩ = some (.int .i64 0) ∧ w.cell? ⟨g, 1, none⟩ = some (.string ⟨#[]⟩) ∧ w.cell? ⟨g, 2, none⟩ = some (.int .i64 0) ∧ w.frozen? ⟨g, 0, none⟩ = false ∧ w.frozen? ⟨g, 1, none⟩ = false ∧ w.frozen? ⟨g, 2, none⟩ = false ∧ g < w.heap.size :=
 ⟨(h.cell 0).trans rfl, (h.cell 1).trans rfl, (h.cell 2).trans rfl, h.frozen 0, h.frozen 1, h.frozen 2, h.lt⟩
theorem Blk.s3 {w : World} {g : Nat} {t : TypeId} {s : Sym} (h : Blk w g t #[.int .i64 s.kind, .string s.text, .int .i64 s.n]) : w.cell? ⟨g, 0, none⟩ = some (.int .i64 s.kind) ∧ w.cell? ⟨g, 1, none⟩ = some (.string s.text) ∧ w.cell? ⟨g, 2, none⟩ = some (.int .i64 s.n) ∧ w.frozen? ⟨g, 0, none⟩ = false ∧ w.frozen? ⟨g, 1, none⟩ = false ∧ w.frozen? ⟨g, 2, none⟩ = false ∧ g < w.heap.size :=
 ⟨(h.cell 0).trans rfl, (h.cell 1).trans rfl, (h.cell 2).trans rfl, h.frozen 0, h.frozen 1, h.frozen 2, h.lt⟩
set_option maxRecDepth 100000 in
set_option maxHeartbeats 4000000 in
theorem get_is {D : Nat → Prop} {A : Option Addr} {c : Nat} (l : List BindT) (v : ByteArray) (w : World) (h : RowR repBindT D w A c l) :
 Calls Tryz.prog 49 #[.slice A l.length c, .string v] w (SymTo w (getB l v)) := by
 have H0 := Lib.hid h
 have hlc := h.cap
 clear h
 go_enter Tryz.func49, Tryz.ntmps49
 go_upto_region 1 with fail
 obtain ⟨W1, hW1⟩ : ∃ W1, W1 = w.alloc (.cells #[.int .i64 0, .string ⟨#[]⟩, .int .i64 0] 23) := ⟨_, rfl⟩
 rw [← hW1]
 have HB1 := Lib.hid (show Below w.heap.size w W1 by rw [hW1]; exact (Below.refl _ _).alloc (Nat.le_refl _) _)
 have HK1 := Lib.hid (show Blk W1 w.heap.size 23 #[.int .i64 0, .string ⟨#[]⟩, .int .i64 0] by rw [hW1]; exact Blk.new _ _ _)
 clear hW1
 go_wp2_with fail
 go_loopw [10] (fun s wr => ∃ i : Nat, s = .int .i64 i ∧ i ≤ l.length ∧ getB l v = getB (l.drop i) v ∧ Below W1.heap.size W1 wr) (fun s wr => l.length - (intOf s).toNat)
 case atStart => exact ⟨0, rfl, Nat.zero_le _, rfl, Below.refl _ _⟩
 case round =>
  obtain ⟨i, rfl, hi, hG, hBr⟩ := hrel
  have HG := Lib.hid hG
  have HBr := Lib.hid (HB1.out.trans (hBr.mono HB1.out.size))
  have HBw := Lib.hid hBr
  obtain ⟨u0, u1, u2, f0, f1, f2, hu⟩ := (HK1.out.new_ hBr).z3
  have hszw := hBr.size
  have hszw2 := HBr.out.size
  clear hG hBr
  by_cases hlt : i < l.length
  · obtain ⟨y, hy⟩ : ∃ y, y = l[i] := ⟨_, rfl⟩
    have hdr : l.drop i = l[i] :: l.drop (i + 1) := List.drop_eq_getElem_cons hlt
    rw [← hy] at hdr
    obtain ⟨g, off, rfl, _, hg, q0, q1, q2, q3⟩ := at_BindT (H0.out.new_ HBr.out) hlt
    rw [← hy] at q0 q1 q2 q3
    have HDR := Lib.hid hdr
    have b1 : (0 : Int) ≤ (i : Int) := by omega
    have b2 : (i : Int) < (l.length : Int) := by omega
    clear hy hdr
    by_cases hv : y.var.toList = v.toList
    · have HR := Lib.hid (show getB l v = (y.sym, true) by rw [HG.out, HDR.out, getB_cons, if_pos hv])
      have v1 : (y.var.toList == v.toList) = true := by simp [hv]
      have v2 : decide (y.var.toList = v.toList) = true := by simp [hv]
      clear hv
      go_wp2_with fail
      unfold SymTo
      rw [HR.out]
      exact bodyPost_ret (v := .tuple #[.agg #[.int .i64 y.sym.kind, .string y.sym.text, .int .i64 y.sym.n], .bool true]) (by simp [results, Tryz.results49, go_sem, *]) rfl ⟨rfl, by (repeat (first | exact Below.refl _ _ | exact HB1.out | exact (HBr.out) | refine Below.drew ?_ | refine Below.al ?_ _ | refine Below.sc ?_ _))⟩
    · have HR := Lib.hid (show getB l v = getB (l.drop (i + 1)) v by rw [HG.out, HDR.out, getB_cons, if_neg hv])
      have v1 : (y.var.toList == v.toList) = false := by simp [hv]
      have v2 : decide (y.var.toList = v.toList) = false := by simp [hv]
      clear hv
      go_wp2_with fail
      go_roundw
      case rel => exact ⟨i + 1, by go_num, by omega, HR.out, by (repeat (first | exact Below.refl _ _ | exact HBw.out | refine Below.drew ?_ | refine Below.al ?_ _ | refine Below.sc ?_ _))⟩
      case measure => simp [intOf] <;> omega
  · have hie : i = l.length := by omega
    subst hie
    have HR := Lib.hid (show getB l v = (zS, false) by rw [HG.out, List.drop_length]; rfl)
    go_wp2_with fail
    unfold SymTo
    rw [HR.out]
    exact bodyPost_ret (v := .tuple #[.agg #[.int .i64 0, .string ⟨#[]⟩, .int .i64 0], .bool false]) (by simp [results, Tryz.results49, go_sem, *]) rfl ⟨rfl, by (repeat (first | exact Below.refl _ _ | exact HB1.out | exact (HBr.out) | refine Below.drew ?_ | refine Below.al ?_ _ | refine Below.sc ?_ _))⟩
set_option maxRecDepth 100000 in
set_option maxHeartbeats 4000000 in
theorem atomV_is {D : Nat → Prop} {A : Option Addr} {c : Nat} (a : AtomT) (l : List BindT) (w : World) (h : RowR repBindT D w A c l) :
 Calls Tryz.prog 37 #[.agg #[.string a.var, .int .i64 a.sym.kind, .string a.sym.text, .int .i64 a.sym.n], .slice A l.length c] w (SymTo w (atomV a l)) := by
 have H0 := Lib.hid h
 clear h
 by_cases hv : a.var.toList = []
 · have v1 : (a.var.toList == []) = true := by simp [hv]
   have v2 : a.var.toList.isEmpty = true := by simp [hv]
   have v3 : decide (a.var.toList = []) = true := by simp [hv]
   have HR := Lib.hid (show atomV a l = (a.sym, true) by simp [atomV, hv])
   clear hv
   go_enter Tryz.func37, Tryz.ntmps37
   go_wp2_with fail
   unfold SymTo
   rw [HR.out]
   exact bodyPost_ret (v := .tuple #[.agg #[.int .i64 a.sym.kind, .string a.sym.text, .int .i64 a.sym.n], .bool true]) (by simp [results, Tryz.results37, go_sem]) rfl ⟨rfl, by (repeat (first | exact Below.refl _ _ | refine Below.drew ?_ | refine Below.al ?_ _ | refine Below.sc ?_ _))⟩
 · have v1 : (a.var.toList == []) = false := by simp [hv]
   have v2 : a.var.toList.isEmpty = false := by simp [hv]
   have v3 : decide (a.var.toList = []) = false := by simp [hv]
   have HR := Lib.hid (show atomV a l = getB l a.var by simp [atomV, hv])
   clear hv
   go_enter Tryz.func37, Tryz.ntmps37
   go_upto_region 1 with fail
   obtain ⟨W1, hW1⟩ : ∃ W1, W1 = (w.alloc (.cells #[.string a.var, .int .i64 a.sym.kind, .string a.sym.text, .int .i64 a.sym.n] 25)).alloc (.cells #[.int .i64 0, .string ⟨#[]⟩, .int .i64 0] 23) := ⟨_, rfl⟩
   rw [← hW1]
   have HB1 := Lib.hid (show Below w.heap.size w W1 by rw [hW1]; exact ((Below.refl _ _).alloc (Nat.le_refl _) _).alloc (by simp) _)
   have HK1 := Lib.hid (show Blk W1 (w.heap.size + 1) 23 #[.int .i64 0, .string ⟨#[]⟩, .int .i64 0] by
    rw [hW1]; have := Blk.new (w.alloc (.cells #[.string a.var, .int .i64 a.sym.kind, .string a.sym.text, .int .i64 a.sym.n] 25)) 23 #[.int .i64 0, .string ⟨#[]⟩, .int .i64 0]; rwa [World.size_alloc] at this)
   have hA1 : Blk W1 w.heap.size 25 #[.string a.var, .int .i64 a.sym.kind, .string a.sym.text, .int .i64 a.sym.n] := by rw [hW1]; exact (Blk.new _ _ _).alloc _
   have q0 : W1.cell? ⟨w.heap.size, 0, none⟩ = some (.string a.var) := (hA1.cell 0).trans rfl
   have hq := hA1.lt
   clear hW1 hA1
   go_wp2_with fail
   refine (get_is l a.var W1 (H0.out.new_ HB1.out)).mono ?_
   rintro e w2 ⟨rfl, hb2⟩
   obtain ⟨u0, u1, u2, f0, f1, f2, hu⟩ := (HK1.out.new_ hb2).z3
   have HB2 := Lib.hid (HB1.out.trans (hb2.mono HB1.out.size))
   have hsz := HB2.out.size
   clear hb2
   go_wp2_with fail
   unfold SymTo
   rw [HR.out]
   exact bodyPost_ret (v := .tuple #[.agg #[.int .i64 (getB l a.var).1.kind, .string (getB l a.var).1.text, .int .i64 (getB l a.var).1.n], .bool (getB l a.var).2]) (by simp [results, Tryz.results37, go_sem, *]) rfl ⟨rfl, by (repeat (first | exact Below.refl _ _ | exact HB2.out | refine Below.drew ?_ | refine Below.al ?_ _ | refine Below.sc ?_ _))⟩
end Go.Proofs.YtpndmjabjjbefaaGreat
namespace Go.Proofs.YtpndmjabjjbefaaGreat
open Go.RowKit Go.Shelf
def numB2 (s : Sym) : Bool := decide (s.kind = 2) && validB s
def numR (n : Int) : Sym × Bool := if n < -2147483647 ∨ 2147483647 < n then (zS, false) else (⟨2, ⟨#[]⟩, n⟩, true)
theorem numR_no {n : Int} (h : n < -2147483647 ∨ 2147483647 < n) : numR n = (zS, false) := if_pos h
theorem numR_yes {n : Int} (h : ¬ (n < -2147483647 ∨ 2147483647 < n)) : numR n = (⟨2, ⟨#[]⟩, n⟩, true) := if_neg h
def valueV (t : TermT) (l : List BindT) : Sym × Bool :=
 if (atomV t.a l).2 = false then (zS, false)
 else if t.op = 0 then ((atomV t.a l).1, true)
 else if (atomV t.b l).2 = false ∨ numB2 (atomV t.a l).1 = false ∨ numB2 (atomV t.b l).1 = false then (zS, false)
 else if t.op = 1 then numR ((atomV t.a l).1.n + (atomV t.b l).1.n)
 else if t.op = 2 then numR ((atomV t.a l).1.n - (atomV t.b l).1.n)
 else if t.op = 3 then numR ((atomV t.a l).1.n * (atomV t.b l).1.n)
 else (zS, false)
theorem numB2_le {s : Sym} (h : numB2 s = true) : -2147483647 ≤ s.n ∧ s.n ≤ 2147483647 := by
 obtain ⟨k, t, n⟩ := s
 simp only [numB2, Bool.and_eq_true, decide_eq_true_eq] at h
 obtain ⟨rfl, h⟩ := h
 exact (validB_int h).2
theorem mul_le62 {a b : Int} (h1 : -2147483647 ≤ a) (h2 : a ≤ 2147483647) (h3 : -2147483647 ≤ b) (h4 : b ≤ 2147483647) : -4611686014132420609 ≤ a * b ∧ a * b ≤ 4611686014132420609 := by
 have e : (a * b).natAbs ≤ 2147483647 * 2147483647 := by
  rw [Int.natAbs_mul]; exact Nat.mul_le_mul (by omega) (by omega)
 omega
theorem wrap62 {a : Int} (h1 : -4611686014132420609 ≤ a) (h2 : a ≤ 4611686014132420609) : IntKind.i64.wrap a = a := IntWalk.i64_in _ (by omega)
set_option maxRecDepth 100000 in
set_option maxHeartbeats 4000000 in
theorem number_is (s : Sym) (w : World) : Calls Tryz.prog 38 #[.agg #[.int .i64 s.kind, .string s.text, .int .i64 s.n]] w fun e w' => e = .returned (.bool (numB2 s)) ∧ Below w.heap.size w w' := by
 by_cases hk : s.kind = 2
 · have a1 : (s.kind == 2) = true := by simp [hk]
   have a2 : decide (s.kind = 2) = true := by simp [hk]
   have HR := Lib.hid (show numB2 s = validB s by simp [numB2, hk])
   have HB := Lib.hid ((Below.refl w.heap.size w).alloc (Nat.le_refl _) (.cells #[.int .i64 s.kind, .string s.text, .int .i64 s.n] 23))
   clear hk
   go_enter Tryz.func38, Tryz.ntmps38
   go_wp2_with fail
   refine (valid_is s _).mono ?_
   rintro e w2 ⟨rfl, hb⟩
   have HB2 := Lib.hid (HB.out.trans (hb.mono HB.out.size))
   clear hb
   go_wp2_with fail
   go_ret
   exact ⟨by rw [HR.out] <;> rfl, HB2.out⟩
 · have a1 : (s.kind == 2) = false := by simp [hk]
   have a2 : decide (s.kind = 2) = false := by simp [hk]
   have HR := Lib.hid (show numB2 s = false by simp [numB2, hk])
   clear hk
   go_enter Tryz.func38, Tryz.ntmps38
   go_wp2_with fail
   go_ret
   exact ⟨by rw [HR.out] <;> rfl, (Below.refl _ _).alloc (Nat.le_refl _) _⟩
set_option maxRecDepth 100000 in
set_option maxHeartbeats 8000000 in
theorem value_is {D : Nat → Prop} {A : Option Addr} {c : Nat} (t : TermT) (l : List BindT) (w : World) (h : RowR repBindT D w A c l) :
 Calls Tryz.prog 11 #[.agg #[.int .i64 t.op, .string t.a.var, .int .i64 t.a.sym.kind, .string t.a.sym.text, .int .i64 t.a.sym.n, .string t.b.var, .int .i64 t.b.sym.kind, .string t.b.sym.text, .int .i64 t.b.sym.n], .slice A l.length c] w (SymTo w (valueV t l)) := by
 have H0 := Lib.hid h
 clear h
 obtain ⟨⟨a, oa⟩, ha⟩ : ∃ r, r = atomV t.a l := ⟨_, rfl⟩
 obtain ⟨⟨b, ob⟩, hb0⟩ : ∃ r, r = atomV t.b l := ⟨_, rfl⟩
 obtain ⟨R, hR⟩ : ∃ R, R = valueV t l := ⟨_, rfl⟩
 rw [← hR]
 have HR := Lib.hid hR
 unfold valueV at hR
 rw [← ha, ← hb0] at hR
 dsimp only at hR
 have HV := Lib.hid hR
 have HA := Lib.hid ha
 have HBB := Lib.hid hb0
 clear ha hb0 hR HR
 go_enter Tryz.func11, Tryz.ntmps11
 go_upto_region 1 with fail
 obtain ⟨w1, hw1⟩ : ∃ w1, w1 = ((w.alloc (.cells #[.int .i64 t.op, .string t.a.var, .int .i64 t.a.sym.kind, .string t.a.sym.text, .int .i64 t.a.sym.n, .string t.b.var, .int .i64 t.b.sym.kind, .string t.b.sym.text, .int .i64 t.b.sym.n] 27)).alloc (.cells #[.int .i64 0, .string ⟨#[]⟩, .int .i64 0] 23)) := ⟨_, rfl⟩
 rw [← hw1]
 have HB := Lib.hid (show Below w.heap.size w w1 by rw [hw1]; exact (by repeat (first | exact Below.refl _ _ | refine Below.drew ?_ | refine Below.al ?_ _ | refine Below.sc ?_ _)))
 have Kt := Lib.hid (show Blk w1 (w.heap.size) 27 #[.int .i64 t.op, .string t.a.var, .int .i64 t.a.sym.kind, .string t.a.sym.text, .int .i64 t.a.sym.n, .string t.b.var, .int .i64 t.b.sym.kind, .string t.b.sym.text, .int .i64 t.b.sym.n] by rw [hw1]; exact ((Blk.new w 27 #[.int .i64 t.op, .string t.a.var, .int .i64 t.a.sym.kind, .string t.a.sym.text, .int .i64 t.a.sym.n, .string t.b.var, .int .i64 t.b.sym.kind, .string t.b.sym.text, .int .i64 t.b.sym.n]).alloc (.cells #[.int .i64 0, .string ⟨#[]⟩, .int .i64 0] 23)))
 have Kr := Lib.hid (show Blk w1 (w.heap.size + 1) 23 #[.int .i64 0, .string ⟨#[]⟩, .int .i64 0] by rw [hw1]; have hh := (Blk.new (w.alloc (.cells #[.int .i64 t.op, .string t.a.var, .int .i64 t.a.sym.kind, .string t.a.sym.text, .int .i64 t.a.sym.n, .string t.b.var, .int .i64 t.b.sym.kind, .string t.b.sym.text, .int .i64 t.b.sym.n] 27)) 23 #[.int .i64 0, .string ⟨#[]⟩, .int .i64 0]); simp only [World.size_alloc] at hh; exact hh)
 clear hw1
 obtain ⟨t0, t1, t2, t3, t4, t5, t6, t7, t8⟩ := Kt.out.c9
 have tz := Kt.out.lt
 obtain ⟨r0, r1, r2⟩ := Kr.out.c3
 have rf0 := Kr.out.frozen 0
 have rf1 := Kr.out.frozen 1
 have rf2 := Kr.out.frozen 2
 have rz := Kr.out.lt
 go_wp2_with fail
 have hc := atomV_is t.a l w1 (H0.out.new_ HB.out)
 rw [← HA.out] at hc
 with_reducible refine (hc).mono ?_
 rintro e w2 ⟨rfl, hb⟩
 have hbs := Below.trans (show Below w1.heap.size w1 _ from (by (repeat (first | exact Below.refl _ _ | refine Below.drew ?_ | refine Below.al ?_ _ | refine Below.sc ?_ _)))) (hb.mono (by simp <;> omega))
 have Kt := Lib.hid (Kt.out.new_ hbs)
 have Kr := Lib.hid (Kr.out.new_ hbs)
 have HB := Lib.hid (HB.out.trans (hbs.mono HB.out.size))
 have hsz2 := hbs.size
 clear t0 t1 t2 t3 t4 t5 t6 t7 t8 tz r0 r1 r2 rf0 rf1 rf2 rz hb hbs
 obtain ⟨t0, t1, t2, t3, t4, t5, t6, t7, t8⟩ := Kt.out.c9
 have tz := Kt.out.lt
 obtain ⟨r0, r1, r2⟩ := Kr.out.c3
 have rf0 := Kr.out.frozen 0
 have rf1 := Kr.out.frozen 1
 have rf2 := Kr.out.frozen 2
 have rz := Kr.out.lt
 cases oa
 · skip
   have HF := Lib.hid (show R = (zS, false) by rw [HV.out]; simp)
   go_wp2_with fail
   unfold SymTo
   rw [HF.out]
   exact bodyPost_ret (v := .tuple #[.agg #[.int .i64 0, .string ⟨#[]⟩, .int .i64 0], .bool false]) (by simp [results, Tryz.results11, go_sem, *]) rfl ⟨rfl, by (repeat (first | exact Below.refl _ _ | exact HB.out | refine Below.drew ?_ | refine Below.al ?_ _ | refine Below.sc ?_ _))⟩
 · skip
   by_cases hop : t.op = 0
   · skip
     have qoa : (t.op == 0) = true := by simp [hop]
     have qob : decide (t.op = 0) = true := by simp [hop]
     have HF := Lib.hid (show R = (a, true) by rw [HV.out]; simp [hop])
     clear hop
     go_wp2_with fail
     unfold SymTo
     rw [HF.out]
     exact bodyPost_ret (v := .tuple #[.agg #[.int .i64 a.kind, .string a.text, .int .i64 a.n], .bool true]) (by simp [results, Tryz.results11, go_sem, *]) rfl ⟨rfl, by (repeat (first | exact Below.refl _ _ | exact HB.out | refine Below.drew ?_ | refine Below.al ?_ _ | refine Below.sc ?_ _))⟩
   · skip
     have qoa : (t.op == 0) = false := by simp [hop]
     have qob : decide (t.op = 0) = false := by simp [hop]
     have hc := fun W (hb : Below w.heap.size w W) => atomV_is t.b l W (H0.out.new_ hb)
     simp only [← HBB.out] at hc
     have HC := Lib.hid hc
     clear hc
     go_wp2_with fail
     with_reducible refine (HC.out _ (by (repeat (first | exact Below.refl _ _ | exact HB.out | refine Below.drew ?_ | refine Below.al ?_ _ | refine Below.sc ?_ _)))).mono ?_
     rintro e w3 ⟨rfl, hb⟩
     have hbs := Below.trans (show Below w2.heap.size w2 _ from (by (repeat (first | exact Below.refl _ _ | refine Below.drew ?_ | refine Below.al ?_ _ | refine Below.sc ?_ _)))) (hb.mono (by simp <;> omega))
     have Kt := Lib.hid (Kt.out.new_ hbs)
     have Kr := Lib.hid (Kr.out.new_ hbs)
     have Ka := Lib.hid (show Blk w3 (w2.heap.size) 23 #[.int .i64 a.kind, .string a.text, .int .i64 a.n] from (Blk.new _ _ _).new_ hb)
     have HB := Lib.hid (HB.out.trans (hbs.mono HB.out.size))
     have hsz3 := hbs.size
     clear t0 t1 t2 t3 t4 t5 t6 t7 t8 tz r0 r1 r2 rf0 rf1 rf2 rz hb hbs
     obtain ⟨t0, t1, t2, t3, t4, t5, t6, t7, t8⟩ := Kt.out.c9
     have tz := Kt.out.lt
     obtain ⟨r0, r1, r2⟩ := Kr.out.c3
     have rf0 := Kr.out.frozen 0
     have rf1 := Kr.out.frozen 1
     have rf2 := Kr.out.frozen 2
     have rz := Kr.out.lt
     obtain ⟨a0, a1, a2⟩ := Ka.out.c3
     have az := Ka.out.lt
     cases ob
     · skip
       have HF := Lib.hid (show R = (zS, false) by rw [HV.out]; simp [hop])
       go_wp2_with fail
       unfold SymTo
       rw [HF.out]
       exact bodyPost_ret (v := .tuple #[.agg #[.int .i64 0, .string ⟨#[]⟩, .int .i64 0], .bool false]) (by simp [results, Tryz.results11, go_sem, *]) rfl ⟨rfl, by (repeat (first | exact Below.refl _ _ | exact HB.out | refine Below.drew ?_ | refine Below.al ?_ _ | refine Below.sc ?_ _))⟩
     · skip
       cases hna : numB2 a
       · skip
         have hc := fun W => number_is a W
         simp only [hna] at hc
         have HC := Lib.hid hc
         clear hc
         go_wp2_with fail
         with_reducible refine (HC.out _).mono ?_
         rintro e w4 ⟨rfl, hb⟩
         have hbs := Below.trans (show Below w3.heap.size w3 _ from (by (repeat (first | exact Below.refl _ _ | refine Below.drew ?_ | refine Below.al ?_ _ | refine Below.sc ?_ _)))) (hb.mono (by simp <;> omega))
         have Kt := Lib.hid (Kt.out.new_ hbs)
         have Kr := Lib.hid (Kr.out.new_ hbs)
         have Ka := Lib.hid (Ka.out.new_ hbs)
         have Kb := Lib.hid (show Blk w4 (w3.heap.size) 23 #[.int .i64 b.kind, .string b.text, .int .i64 b.n] from (Blk.new _ _ _).new_ hb)
         have HB := Lib.hid (HB.out.trans (hbs.mono HB.out.size))
         have hsz4 := hbs.size
         clear t0 t1 t2 t3 t4 t5 t6 t7 t8 tz r0 r1 r2 rf0 rf1 rf2 rz a0 a1 a2 az hb hbs
         obtain ⟨t0, t1, t2, t3, t4, t5, t6, t7, t8⟩ := Kt.out.c9
         have tz := Kt.out.lt
         obtain ⟨r0, r1, r2⟩ := Kr.out.c3
         have rf0 := Kr.out.frozen 0
         have rf1 := Kr.out.frozen 1
         have rf2 := Kr.out.frozen 2
         have rz := Kr.out.lt
         obtain ⟨a0, a1, a2⟩ := Ka.out.c3
         have az := Ka.out.lt
         obtain ⟨b0, b1, b2⟩ := Kb.out.c3
         have bz := Kb.out.lt
         have HF := Lib.hid (show R = (zS, false) by rw [HV.out]; simp [hop, hna])
         go_wp2_with fail
         unfold SymTo
         rw [HF.out]
         exact bodyPost_ret (v := .tuple #[.agg #[.int .i64 0, .string ⟨#[]⟩, .int .i64 0], .bool false]) (by simp [results, Tryz.results11, go_sem, *]) rfl ⟨rfl, by (repeat (first | exact Below.refl _ _ | exact HB.out | refine Below.drew ?_ | refine Below.al ?_ _ | refine Below.sc ?_ _))⟩
       · skip
         have hc := fun W => number_is a W
         simp only [hna] at hc
         have HC := Lib.hid hc
         clear hc
         go_wp2_with fail
         with_reducible refine (HC.out _).mono ?_
         rintro e w4 ⟨rfl, hb⟩
         have hbs := Below.trans (show Below w3.heap.size w3 _ from (by (repeat (first | exact Below.refl _ _ | refine Below.drew ?_ | refine Below.al ?_ _ | refine Below.sc ?_ _)))) (hb.mono (by simp <;> omega))
         have Kt := Lib.hid (Kt.out.new_ hbs)
         have Kr := Lib.hid (Kr.out.new_ hbs)
         have Ka := Lib.hid (Ka.out.new_ hbs)
         have Kb := Lib.hid (show Blk w4 (w3.heap.size) 23 #[.int .i64 b.kind, .string b.text, .int .i64 b.n] from (Blk.new _ _ _).new_ hb)
         have HB := Lib.hid (HB.out.trans (hbs.mono HB.out.size))
         have hsz4 := hbs.size
         clear t0 t1 t2 t3 t4 t5 t6 t7 t8 tz r0 r1 r2 rf0 rf1 rf2 rz a0 a1 a2 az hb hbs
         obtain ⟨t0, t1, t2, t3, t4, t5, t6, t7, t8⟩ := Kt.out.c9
         have tz := Kt.out.lt
         obtain ⟨r0, r1, r2⟩ := Kr.out.c3
         have rf0 := Kr.out.frozen 0
         have rf1 := Kr.out.frozen 1
         have rf2 := Kr.out.frozen 2
         have rz := Kr.out.lt
         obtain ⟨a0, a1, a2⟩ := Ka.out.c3
         have az := Ka.out.lt
         obtain ⟨b0, b1, b2⟩ := Kb.out.c3
         have bz := Kb.out.lt
         cases hnb : numB2 b
         · skip
           have hc := fun W => number_is b W
           simp only [hnb] at hc
           have HC := Lib.hid hc
           clear hc
           go_wp2_with fail
           with_reducible refine (HC.out _).mono ?_
           rintro e w5 ⟨rfl, hb⟩
           have hbs := Below.trans (show Below w4.heap.size w4 _ from (by (repeat (first | exact Below.refl _ _ | refine Below.drew ?_ | refine Below.al ?_ _ | refine Below.sc ?_ _)))) (hb.mono (by simp <;> omega))
           have Kt := Lib.hid (Kt.out.new_ hbs)
           have Kr := Lib.hid (Kr.out.new_ hbs)
           have Ka := Lib.hid (Ka.out.new_ hbs)
           have Kb := Lib.hid (Kb.out.new_ hbs)
           have HB := Lib.hid (HB.out.trans (hbs.mono HB.out.size))
           have hsz5 := hbs.size
           clear t0 t1 t2 t3 t4 t5 t6 t7 t8 tz r0 r1 r2 rf0 rf1 rf2 rz a0 a1 a2 az b0 b1 b2 bz hb hbs
           obtain ⟨t0, t1, t2, t3, t4, t5, t6, t7, t8⟩ := Kt.out.c9
           have tz := Kt.out.lt
           obtain ⟨r0, r1, r2⟩ := Kr.out.c3
           have rf0 := Kr.out.frozen 0
           have rf1 := Kr.out.frozen 1
           have rf2 := Kr.out.frozen 2
           have rz := Kr.out.lt
           obtain ⟨a0, a1, a2⟩ := Ka.out.c3
           have az := Ka.out.lt
           obtain ⟨b0, b1, b2⟩ := Kb.out.c3
           have bz := Kb.out.lt
           have HF := Lib.hid (show R = (zS, false) by rw [HV.out]; simp [hop, hnb])
           go_wp2_with fail
           unfold SymTo
           rw [HF.out]
           exact bodyPost_ret (v := .tuple #[.agg #[.int .i64 0, .string ⟨#[]⟩, .int .i64 0], .bool false]) (by simp [results, Tryz.results11, go_sem, *]) rfl ⟨rfl, by (repeat (first | exact Below.refl _ _ | exact HB.out | refine Below.drew ?_ | refine Below.al ?_ _ | refine Below.sc ?_ _))⟩
         · skip
           have hc := fun W => number_is b W
           simp only [hnb] at hc
           have HC := Lib.hid hc
           clear hc
           go_wp2_with fail
           with_reducible refine (HC.out _).mono ?_
           rintro e w5 ⟨rfl, hb⟩
           have hbs := Below.trans (show Below w4.heap.size w4 _ from (by (repeat (first | exact Below.refl _ _ | refine Below.drew ?_ | refine Below.al ?_ _ | refine Below.sc ?_ _)))) (hb.mono (by simp <;> omega))
           have Kt := Lib.hid (Kt.out.new_ hbs)
           have Kr := Lib.hid (Kr.out.new_ hbs)
           have Ka := Lib.hid (Ka.out.new_ hbs)
           have Kb := Lib.hid (Kb.out.new_ hbs)
           have HB := Lib.hid (HB.out.trans (hbs.mono HB.out.size))
           have hsz5 := hbs.size
           clear t0 t1 t2 t3 t4 t5 t6 t7 t8 tz r0 r1 r2 rf0 rf1 rf2 rz a0 a1 a2 az b0 b1 b2 bz hb hbs
           obtain ⟨t0, t1, t2, t3, t4, t5, t6, t7, t8⟩ := Kt.out.c9
           have tz := Kt.out.lt
           obtain ⟨r0, r1, r2⟩ := Kr.out.c3
           have rf0 := Kr.out.frozen 0
           have rf1 := Kr.out.frozen 1
           have rf2 := Kr.out.frozen 2
           have rz := Kr.out.lt
           obtain ⟨a0, a1, a2⟩ := Ka.out.c3
           have az := Ka.out.lt
           obtain ⟨b0, b1, b2⟩ := Kb.out.c3
           have bz := Kb.out.lt
           obtain ⟨n1, n2⟩ := numB2_le hna
           obtain ⟨n3, n4⟩ := numB2_le hnb
           obtain ⟨n5, n6⟩ := mul_le62 n1 n2 n3 n4
           have v7 := wrap62 n5 n6
           by_cases h1 : t.op = 1
           · skip
             have j1a : (t.op == 1) = true := by simp [h1]
             have j1b : decide (t.op = 1) = true := by simp [h1]
             have HF := Lib.hid (show R = numR (a.n + b.n) by rw [HV.out]; simp [hna, hnb, h1])
             clear hop hna hnb h1
             go_wp2_with fail
             all_goals
              unfold SymTo
              first
              | (rw [HF.out, numR_no (by omega)]; exact bodyPost_ret (v := .tuple #[.agg #[.int .i64 0, .string ⟨#[]⟩, .int .i64 0], .bool false]) (by simp [results, Tryz.results11, go_sem, *]) rfl ⟨rfl, by (repeat (first | exact Below.refl _ _ | exact HB.out | refine Below.drew ?_ | refine Below.al ?_ _ | refine Below.sc ?_ _))⟩)
              | (rw [HF.out, numR_yes (by omega)]; exact bodyPost_ret (v := .tuple #[.agg #[.int .i64 2, .string ⟨#[]⟩, .int .i64 (a.n + b.n)], .bool true]) (by simp [results, Tryz.results11, go_sem, *]) rfl ⟨rfl, by (repeat (first | exact Below.refl _ _ | exact HB.out | refine Below.drew ?_ | refine Below.al ?_ _ | refine Below.sc ?_ _))⟩)
           · skip
             by_cases h2 : t.op = 2
             · skip
               have j1a : (t.op == 1) = false := by simp [h2]
               have j1b : decide (t.op = 1) = false := by simp [h2]
               have j2a : (t.op == 2) = true := by simp [h2]
               have j2b : decide (t.op = 2) = true := by simp [h2]
               have HF := Lib.hid (show R = numR (a.n - b.n) by rw [HV.out]; simp [hna, hnb, h2])
               clear hop hna hnb h1 h2
               go_wp2_with fail
               all_goals
                unfold SymTo
                first
                | (rw [HF.out, numR_no (by omega)]; exact bodyPost_ret (v := .tuple #[.agg #[.int .i64 0, .string ⟨#[]⟩, .int .i64 0], .bool false]) (by simp [results, Tryz.results11, go_sem, *]) rfl ⟨rfl, by (repeat (first | exact Below.refl _ _ | exact HB.out | refine Below.drew ?_ | refine Below.al ?_ _ | refine Below.sc ?_ _))⟩)
                | (rw [HF.out, numR_yes (by omega)]; exact bodyPost_ret (v := .tuple #[.agg #[.int .i64 2, .string ⟨#[]⟩, .int .i64 (a.n - b.n)], .bool true]) (by simp [results, Tryz.results11, go_sem, *]) rfl ⟨rfl, by (repeat (first | exact Below.refl _ _ | exact HB.out | refine Below.drew ?_ | refine Below.al ?_ _ | refine Below.sc ?_ _))⟩)
             · skip
               by_cases h3 : t.op = 3
               · skip
                 have j1a : (t.op == 1) = false := by simp [h3]
                 have j1b : decide (t.op = 1) = false := by simp [h3]
                 have j2a : (t.op == 2) = false := by simp [h3]
                 have j2b : decide (t.op = 2) = false := by simp [h3]
                 have j3a : (t.op == 3) = true := by simp [h3]
                 have j3b : decide (t.op = 3) = true := by simp [h3]
                 have HF := Lib.hid (show R = numR (a.n * b.n) by rw [HV.out]; simp [hna, hnb, h3])
                 clear hop hna hnb h1 h2 h3
                 go_wp2_with fail
                 all_goals
                  unfold SymTo
                  first
                  | (rw [HF.out, numR_no (by omega)]; exact bodyPost_ret (v := .tuple #[.agg #[.int .i64 0, .string ⟨#[]⟩, .int .i64 0], .bool false]) (by simp [results, Tryz.results11, go_sem, *]) rfl ⟨rfl, by (repeat (first | exact Below.refl _ _ | exact HB.out | refine Below.drew ?_ | refine Below.al ?_ _ | refine Below.sc ?_ _))⟩)
                  | (rw [HF.out, numR_yes (by omega)]; exact bodyPost_ret (v := .tuple #[.agg #[.int .i64 2, .string ⟨#[]⟩, .int .i64 (a.n * b.n)], .bool true]) (by simp [results, Tryz.results11, go_sem, *]) rfl ⟨rfl, by (repeat (first | exact Below.refl _ _ | exact HB.out | refine Below.drew ?_ | refine Below.al ?_ _ | refine Below.sc ?_ _))⟩)
               · skip
                 have j1a : (t.op == 1) = false := by simp [h1]
                 have j1b : decide (t.op = 1) = false := by simp [h1]
                 have j2a : (t.op == 2) = false := by simp [h2]
                 have j2b : decide (t.op = 2) = false := by simp [h2]
                 have j3a : (t.op == 3) = false := by simp [h3]
                 have j3b : decide (t.op = 3) = false := by simp [h3]
                 have HF := Lib.hid (show R = (zS, false) by rw [HV.out]; simp [hop, hna, hnb, h1, h2, h3])
                 go_wp2_with fail
                 unfold SymTo
                 rw [HF.out]
                 exact bodyPost_ret (v := .tuple #[.agg #[.int .i64 0, .string ⟨#[]⟩, .int .i64 0], .bool false]) (by simp [results, Tryz.results11, go_sem, *]) rfl ⟨rfl, by (repeat (first | exact Below.refl _ _ | exact HB.out | refine Below.drew ?_ | refine Below.al ?_ _ | refine Below.sc ?_ _))⟩
end Go.Proofs.YtpndmjabjjbefaaGreat
namespace Go.Proofs.YtpndmjabjjbefaaGreat
def needsA (a : ActT) : List ByteArray := [a.id, if a.value.op = 0 then a.value.a.var else ⟨#[]⟩, a.other.var]
def mkB (v : ByteArray) : BindT := ⟨v, zS⟩
def newsV : List BindT → List ByteArray → List ByteArray
 | _, [] => []
 | h, v :: r => if (getB h v).2 = true ∨ v.toList = [] then newsV h r else v :: newsV (h ++ [mkB v]) r
theorem newsV_skip {h : List BindT} {v : ByteArray} {r : List ByteArray} (h1 : (getB h v).2 = true ∨ v.toList = []) : newsV h (v :: r) = newsV h r := by rw [newsV, if_pos h1]
theorem newsV_take {h : List BindT} {v : ByteArray} {r : List ByteArray} (h1 : (getB h v).2 = false) (h2 : ¬ v.toList = []) : newsV h (v :: r) = v :: newsV (h ++ [mkB v]) r := by rw [newsV, if_neg (by rw [h1]; simp [h2])]
theorem newsV_nil (h : List BindT) : newsV h [] = [] := by rw [newsV]
theorem needs_len (a : ActT) : (needsA a).length = 3 := rfl
def encStr (v : ByteArray) : Array Value := #[.string v]
end Go.Proofs.YtpndmjabjjbefaaGreat
namespace Go.Proofs.YtpndmjabjjbefaaGreat
open Go.RowKit
variable {P : Program}
structure Kept (B : Nat) (F X Y : World) : Prop where
 from_ : KeepsFrom B X Y
 own : ∀ k, B ≤ k → k < F.heap.size → Y.heap[k]? = X.heap[k]?
section
variable {B C : Nat} {F X Y Z : World}
theorem Kept.refl (B : Nat) (F X : World) : Kept B F X X := ⟨⟨Nat.le_refl _, fun _ _ _ h _ => h⟩, fun _ _ _ => rfl⟩
theorem Kept.trans (h : Kept B F X Y) (k : Kept B F Y Z) : Kept B F X Z := ⟨h.1.trans k.1, fun i h1 h2 => (k.2 i h1 h2).trans (h.2 i h1 h2)⟩
theorem Kept.up (h : Kept B F X Y) (hB : B ≤ C) : Kept C F X Y := ⟨KeepsFrom.up h.1 hB, fun i h1 h2 => h.2 i (by omega) h2⟩
theorem Kept.put_ {l : Nat} (h : Kept B F X Y) (hl : l < B) (o : Obj) : Kept B F X (Y.putObj l o) := ⟨KeepsFrom.put_ h.1 hl o, fun i h1 h2 => (World.putObj_heap_other (by omega)).trans (h.2 i h1 h2)⟩
theorem Kept.new_ (h : Below X.heap.size X Y) (hs : F.heap.size ≤ X.heap.size) : Kept B F X Y :=
 ⟨⟨h.size, fun k o _ hk _ => (h.block k (Array.getElem?_eq_some_iff.1 hk).1).trans hk⟩, fun k _ hk => h.block k (by omega)⟩
theorem Kept.of_fr {M : Nat → Prop} (h : Fr M X Y) (hm : ∀ k, B ≤ k → M k → F.heap.size ≤ k ∧ (k < X.heap.size → cellsAt X k)) (hs : F.heap.size ≤ X.heap.size) : Kept B F X Y :=
 ⟨⟨h.size, fun k o hB hk hc => (h.block k (Array.getElem?_eq_some_iff.1 hk).1 (fun hM => by
   obtain ⟨c, t, f, hh⟩ := (hm k hB hM).2 (Array.getElem?_eq_some_iff.1 hk).1
   rw [hh] at hk
   cases hk
   cases hc)).trans hk⟩, fun k h1 h2 => h.block k (by omega) (fun hM => by have := (hm k h1 hM).1; omega)⟩
end
def IterP {α : Type} (P : Program) (gf : Nat) (lb : Array Value) (encs : α → Array Value) (xs : List α) (W : World) (start Kp : World → World → Prop) : Prop :=
 ∀ (l : Nat) (J Jx : World → List α → World → Prop), (∀ F p X Y, J F p X → Priv W.heap.size X Y → J F p Y) → (∀ F p X Y, Jx F p X → Priv W.heap.size X Y → Jx F p Y) →
   (∀ F, start W F → J F [] F) →
   (∀ F pre x post W1, start W F → xs = pre ++ x :: post → J F pre W1 → YieldAt Fence.wide 0 P l (encs x) W1 fun e W' =>
     (e = .returned (.bool true) ∧ J F (pre ++ [x]) W' ∧ Kp W1 W' ∧ Kept W.heap.size F W1 W') ∨ (e = .returned (.bool false) ∧ Jx F (pre ++ [x]) W' ∧ Kept W.heap.size F W1 W')) →
   CallsIn Fence.wide 0 P gf (#[.func (.yield l) #[] #[]] ++ lb) W fun e W' => (∃ v, e = .returned v) ∧ ∃ F, start W F ∧ (J F xs W' ∨ ∃ pre post, xs = pre ++ post ∧ Jx F pre W')
theorem Iter.p {α : Type} {gf : Nat} {lb : Array Value} {encs : α → Array Value} {xs : List α} {W : World} {start Kp : World → World → Prop} (h : Iter P gf lb encs xs W start (fun X Y => Kp X Y ∧ KeepsFrom W.heap.size X Y)) : IterP P gf lb encs xs W start Kp := by
 intro l J Jx h1 h2 h3 h4
 refine (h l (fun p X => ∃ F, start W F ∧ J F p X) (fun p X => ∃ F, start W F ∧ Jx F p X) (fun p X Y ⟨F, a, b⟩ hp => ⟨F, a, h1 F p X Y b hp⟩) (fun p X Y ⟨F, a, b⟩ hp => ⟨F, a, h2 F p X Y b hp⟩) (fun F hF => ⟨F, hF, h3 F hF⟩) ?_).mono ?_
 · rintro pre x post W1 hx ⟨F, hF, hJ⟩
   obtain ⟨fn, tmps, assign, body, hy, hR⟩ := h4 F pre x post W1 hF hx hJ
   refine ⟨fn, tmps, assign, body, hy, hR.mono ?_⟩
   rintro e W' (⟨g1, g2, g3, g4⟩ | ⟨g1, g2, _⟩)
   · exact .inl ⟨g1, ⟨F, hF, g2⟩, g3, g4.1⟩
   · exact .inr ⟨g1, F, hF, g2⟩
 · rintro e W' ⟨hv, (⟨F, hF, hJ⟩ | ⟨pre, post, hx, F, hF, hJ⟩)⟩
   · exact ⟨hv, F, hF, .inl hJ⟩
   · exact ⟨hv, F, hF, .inr ⟨pre, post, hx, hJ⟩⟩
def rPostP {α : Type} (KpW : World → Prop) (B : Nat) (F : World) (I : World → List α → World → Prop) (Ix : World → Code → List α → World → Prop) (p : List α) (W : World) : Exit → Act → World → Prop
 | .normal, _, W' => Kept B F W W' ∧ KpW W' ∧ I F p W'
 | .ret, _, W' => Kept B F W W' ∧ Ix F .ret p W'
 | .exit id, _, W' => Kept B F W W' ∧ Ix F (.exit id) p W'
 | .goto t, _, W' => Kept B F W W' ∧ Ix F (.goto t) p W'
 | .panic _, _, _ => False
 | .outgrown, _, _ => False
theorem wpIn_rangeP {α : Type} {g : Operand} {ps : Array Tmp} {assign body : Code} {Q : Exit → Act → World → Prop} {a : Act} {w : World} {gf : Nat} {lb : Array Value}
 (hg : a.eval g = .func (.func gf) #[] lb) (eg : ∀ args w, (callFunc gf args).run P w = .ok (.enter gf args) w)
 {encs : α → Array Value} {xs : List α} {start Kp : World → World → Prop} (hseq : ∀ W, Below w.heap.size w W → IterP P gf lb encs xs W start Kp)
 (hps : ∀ x, (encs x).size = ps.size) (hKt : ∀ A B C, Kp A B → Kp B C → Kp A C) (hKp : ∀ A B, Priv w.heap.size A B → Kp A B) (hst : ∀ W W1, start W W1 → KeepsFrom w.heap.size W W1)
 (I : World → List α → World → Prop) (Ix : World → Code → List α → World → Prop) (hI : ∀ F p X Y, I F p X → Priv w.heap.size X Y → I F p Y) (hIx : ∀ F c p X Y, Ix F c p X → Priv w.heap.size X Y → Ix F c p Y)
 (h0 : ∀ W F, Below w.heap.size w W → start W F → I F [] F)
 (hround : ∀ (F : World) (l : Nat) (pre : List α) (x : α) (post : List α) (W : World), xs = pre ++ x :: post → w.heap.size ≤ l → I F pre W →
   assign.wpIn (Fence.wide.inRound l) 0 P (Exit.then (fun a1 W1 => Kept w.heap.size F W W1 ∧ ∀ W2, Priv w.heap.size W1 W2 → W2.heap.size = W1.heap.size → (∃ r, W2.heap[l]? = some (.loop r)) →
    body.wpIn (Fence.wide.inRound l) 0 P (rPostP (Kp W) w.heap.size F I Ix (pre ++ [x]) W2) a1 W2) (fun _ _ _ => False))
    { tmps := (ps.zip (encs x)).foldl (fun t (p, v) => t.setIfInBounds p v) a.tmps, defers := [] } W)
 (hdone : ∀ (F : World) (D : Nat) (W : World), w.heap.size ≤ D → I F xs W → W.heap[D]? = some (.deferred (some [])) → Q .normal { a with defers := { target := .collected D, args := #[] } :: a.defers } W)
 (hstop : ∀ (F : World) (D : Nat) (c : Code) (pre post : List α) (W : World), w.heap.size ≤ D → xs = pre ++ post → Ix F c pre W → W.heap[D]? = some (.deferred (some [])) → c.wpIn Fence.wide 0 P Q { a with defers := { target := .collected D, args := #[] } :: a.defers } W) :
 (Code.rangeFunc g ps assign body).wpIn Fence.wide 0 P Q a w := by
 refine wpIn_rangeFunc ?_
 intro fn hfn
 obtain ⟨rec, hrec⟩ : ∃ rec : LoopState → Option Code → Loop, rec = fun st pe => { state := st, pending := pe, fn, tmps := a.tmps, params := ps, assign, body, defers := w.heap.size } := ⟨_, rfl⟩
 obtain ⟨W1, hW1⟩ : ∃ W1, (w.alloc (.deferred (some []))).alloc (.loop (rec .ready none)) = W1 := ⟨_, rfl⟩
 have hL1 : W1.heap[w.heap.size + 1]? = some (.loop (rec .ready none)) := by
  rw [← hW1]; have := World.alloc_heap_new (w.alloc (.deferred (some []))) (.loop (rec .ready none)); rwa [World.size_alloc] at this
 have hK1 : W1.heap[w.heap.size]? = some (.deferred (some [])) := by
  rw [← hW1]; exact (Below.heap_alloc _ _ _ (by simp)).trans (World.alloc_heap_new w _)
 have hb1 : Below w.heap.size w W1 := by
  rw [← hW1]; exact ((Below.refl _ w).alloc (Nat.le_refl _) _).alloc (by simp) _
 have hz1 : W1.heap.size = w.heap.size + 2 := by rw [← hW1]; simp
 refine ⟨w.heap.size + 1, [{ target := .collected w.heap.size, args := #[] }], W1, { target := .fn (.func gf) lb, args := #[.func (.yield (w.heap.size + 1)) #[] #[]] }, W1, gf,
  #[.func (.yield (w.heap.size + 1)) #[] #[]] ++ lb, W1, ?_, ?_, fun _ _ => trivial, ?_, fun h => by simp [Fence.wide] at h, ?_⟩
 · rw [← hW1, hrec]; exact run_enterLoop_outer _ _ _ _ _
 · simp only [resolve, hg]
   simp [go_sem]
 · simp [invoke, go_sem, eg]
 · have keep : ∀ {X Y : World} {k : Nat} {o : Obj}, Priv W1.heap.size X Y → X.heap[k]? = some o → k < W1.heap.size → Y.heap[k]? = some o := fun hp hk hlt =>
    (hp.block _ (Array.getElem?_eq_some_iff.1 hk).1 (.inl hlt)).trans hk
   refine (hseq W1 hb1 (w.heap.size + 1)
    (fun F pre W => (∃ W0, Below w.heap.size w W0 ∧ start W0 F) ∧ I F pre W ∧ W.heap[w.heap.size + 1]? = some (.loop (rec .ready none)) ∧ W.heap[w.heap.size]? = some (.deferred (some [])))
    (fun F pre W => ∃ c, Ix F c pre W ∧ W.heap[w.heap.size + 1]? = some (.loop (rec .done (some c))) ∧ W.heap[w.heap.size]? = some (.deferred (some [])))
    (fun F p X Y ⟨h0, h1, h2, h3⟩ hp => ⟨h0, hI F p X Y h1 (hp.mono (by omega)), keep hp h2 (by omega), keep hp h3 (by omega)⟩)
    (fun F p X Y ⟨c, h1, h2, h3⟩ hp => ⟨c, hIx F c p X Y h1 (hp.mono (by omega)), keep hp h2 (by omega), keep hp h3 (by omega)⟩)
    (fun W2 hs => ⟨⟨W1, hb1, hs⟩, h0 W1 W2 hb1 hs, (hst _ _ hs).same _ _ (by omega) hL1 rfl, (hst _ _ hs).same _ _ (by omega) hK1 rfl⟩) ?_).mono ?_
   · rintro F pre x post W hst0 hx ⟨hw0, hi, hl, hk⟩
     have hy := run_yield (P := P) (args := encs x) hl (by rw [hrec]; exact hps x)
     rw [hrec] at hy
     refine ⟨fn, _, assign, body, hy, roundIn_of_wpIn hfn ?_⟩
     refine wpIn_mono (hround F (w.heap.size + 1) pre x post W hx (by omega) hi) ?_
     rintro e a1 Wa hp
     cases e with
     | normal =>
       obtain ⟨hka, hbody⟩ := hp
       have hla := hka.1.same _ _ (by omega) hl rfl
       have hkd := hka.1.same _ _ (by omega) hk rfl
       have hlt : w.heap.size + 1 < Wa.heap.size := (Array.getElem?_eq_some_iff.1 hla).1
       have hbr := run_beginRound (P := P) hla (by rw [hrec])
       refine ⟨_, hbr, ?_⟩
       have hl2 : (Wa.putObj (w.heap.size + 1) (.loop { rec .ready none with state := .busy })).heap[w.heap.size + 1]? = some (.loop { rec .ready none with state := .busy }) := World.putObj_heap_same hlt
       have hk2 : (Wa.putObj (w.heap.size + 1) (.loop { rec .ready none with state := .busy })).heap[w.heap.size]? = some (.deferred (some [])) := (World.putObj_heap_other (by omega)).trans hkd
       refine wpIn_mono (hbody _ ((Priv.refl _ Wa).putObj (by omega) hla rfl _) (by simp) ⟨_, hl2⟩) ?_
       have fin : ∀ (jump : Option Code) (W3 : World), Kept w.heap.size F (Wa.putObj (w.heap.size + 1) (.loop { rec .ready none with state := .busy })) W3 →
        (Instr.endRound (w.heap.size + 1) jump).run P W3 = .ok (.bool jump.isNone) (W3.putObj (w.heap.size + 1) (.loop (rec (if jump.isNone then .ready else .done) jump))) ∧
        Priv w.heap.size W3 (W3.putObj (w.heap.size + 1) (.loop (rec (if jump.isNone then .ready else .done) jump))) ∧
        (W3.putObj (w.heap.size + 1) (.loop (rec (if jump.isNone then .ready else .done) jump))).heap[w.heap.size + 1]? = some (.loop (rec (if jump.isNone then .ready else .done) jump)) ∧
        (W3.putObj (w.heap.size + 1) (.loop (rec (if jump.isNone then .ready else .done) jump))).heap[w.heap.size]? = some (.deferred (some [])) := fun jump W3 hk3 => by
        have hl3 := hk3.1.same _ _ (by omega) hl2 rfl
        have := run_endRound (P := P) jump hl3
        rw [hrec] at this ⊢
        exact ⟨this, (Priv.refl _ _).putObj (by omega) hl3 rfl _, World.putObj_heap_same (Array.getElem?_eq_some_iff.1 hl3).1, (World.putObj_heap_other (by omega)).trans (hk3.1.same _ _ (Nat.le_refl _) hk2 rfl)⟩
       rintro e a3 W3 hp
       cases e with
       | normal =>
         obtain ⟨hk3, hkp3, hi3⟩ := hp
         obtain ⟨hr, hpv, hl4, hk4⟩ := fin none W3 hk3
         refine ⟨_, _, hr, .inl ⟨rfl, ⟨hw0, hI _ _ _ _ hi3 hpv, hl4, hk4⟩, hKt _ _ _ hkp3 (hKp _ _ hpv), ?_⟩⟩
         exact (((hka.up (by omega)).put_ (by omega) _).trans (hk3.up (by omega))).put_ (by omega) _
       | ret =>
         obtain ⟨hk3, hi3⟩ := hp
         obtain ⟨hr, hpv, hl4, hk4⟩ := fin (some .ret) W3 hk3
         exact ⟨_, _, hr, .inr ⟨rfl, ⟨.ret, hIx _ _ _ _ _ hi3 hpv, hl4, hk4⟩, (((hka.up (by omega)).put_ (by omega) _).trans (hk3.up (by omega))).put_ (by omega) _⟩⟩
       | exit id =>
         obtain ⟨hk3, hi3⟩ := hp
         obtain ⟨hr, hpv, hl4, hk4⟩ := fin (some (.exit id)) W3 hk3
         exact ⟨_, _, hr, .inr ⟨rfl, ⟨.exit id, hIx _ _ _ _ _ hi3 hpv, hl4, hk4⟩, (((hka.up (by omega)).put_ (by omega) _).trans (hk3.up (by omega))).put_ (by omega) _⟩⟩
       | goto t =>
         obtain ⟨hk3, hi3⟩ := hp
         obtain ⟨hr, hpv, hl4, hk4⟩ := fin (some (.goto t)) W3 hk3
         exact ⟨_, _, hr, .inr ⟨rfl, ⟨.goto t, hIx _ _ _ _ _ hi3 hpv, hl4, hk4⟩, (((hka.up (by omega)).put_ (by omega) _).trans (hk3.up (by omega))).put_ (by omega) _⟩⟩
       | panic ch => exact hp.elim
       | outgrown => exact hp.elim
     | exit id => exact hp.elim
     | goto l => exact hp.elim
     | ret => exact hp.elim
     | panic ch => exact hp.elim
     | outgrown => exact hp.elim
   · rintro e W2 ⟨⟨v, rfl⟩, F, _, (⟨_, hi, hl, hk⟩ | ⟨pre, post, hS, c, hi, hl, hk⟩)⟩
     · exact ⟨none, _, by have := run_endLoop (P := P) hl (by rw [hrec]; simp); rw [hrec] at this; exact this, hdone F _ _ (Nat.le_refl _) (hI _ _ _ _ hi ((Priv.refl _ _).putObj (by omega) hl rfl _)) ((World.putObj_heap_other (by omega)).trans hk)⟩
     · exact ⟨some c, _, by have := run_endLoop (P := P) hl (by rw [hrec]; simp); rw [hrec] at this; exact this, hstop F _ c pre post _ (Nat.le_refl _) hS (hIx _ c _ _ _ hi ((Priv.refl _ _).putObj (by omega) hl rfl _)) ((World.putObj_heap_other (by omega)).trans hk)⟩
end Go.Proofs.YtpndmjabjjbefaaGreat
namespace Go.Proofs.YtpndmjabjjbefaaGreat
open Go.RowKit
variable {P : Program}
def Plus (D : Nat → Prop) (X Y : World) : Nat → Prop := fun k => D k ∨ (X.heap.size ≤ k ∧ k < Y.heap.size)
def FromB (B : Nat) (D : Nat → Prop) : Nat → Prop := fun k => D k ∧ B ≤ k
theorem Plus.same {D : Nat → Prop} {X Y : World} (h : Y.heap.size = X.heap.size) : Plus D X Y = D := by
 funext k; apply propext; unfold Plus; constructor
 · rintro (h | h)
   · exact h
   · omega
 · exact .inl
def Steady {α : Type} (B : Nat) (J : (Nat → Prop) → List α → World → Prop) : Prop := ∀ D p X Y, J D p X → Fr (FromB B D) X Y → J (Plus D X Y) p Y
theorem Steady.same {α : Type} {B : Nat} {J : (Nat → Prop) → List α → World → Prop} (h : Steady B J) {D : Nat → Prop} {p : List α} {X Y : World} (hJ : J D p X) (hF : Fr (FromB B D) X Y) (hz : Y.heap.size = X.heap.size) : J D p Y := by
 have := h D p X Y hJ hF
 rwa [Plus.same hz] at this
def RoundsO {α : Type} (P : Program) (l : Nat) (encs : α → Array Value) (xs : List α) (J Jx : (Nat → Prop) → List α → World → Prop) : Prop :=
 ∀ D pre x post W1, xs = pre ++ x :: post → J D pre W1 → YieldAt Fence.wide 0 P l (encs x) W1 fun e W' =>
   (e = .returned (.bool true) ∧ J D (pre ++ [x]) W' ∧ Fr (fun k => ¬ D k) W1 W') ∨ (e = .returned (.bool false) ∧ Jx D (pre ++ [x]) W' ∧ Fr (fun k => ¬ D k) W1 W')
def ToldO {α : Type} (xs : List α) (J Jx : (Nat → Prop) → List α → World → Prop) (W' : World) : Prop := ∃ D, J D xs W' ∨ ∃ pre post, xs = pre ++ post ∧ Jx D pre W'
def IterO {α : Type} (P : Program) (gf : Nat) (lb : Array Value) (encs : α → Array Value) (xs : List α) (W : World) (D : Nat → Prop) : Prop :=
 ∀ (l : Nat) (J Jx : (Nat → Prop) → List α → World → Prop), Steady W.heap.size J → Steady W.heap.size Jx → J D [] W → RoundsO P l encs xs J Jx →
   CallsIn Fence.wide 0 P gf (#[.func (.yield l) #[] #[]] ++ lb) W fun e W' => (∃ v, e = .returned v) ∧ ToldO xs J Jx W'
theorem Fr.putObj {M : Nat → Prop} {X Y : World} (h : Fr M X Y) {l : Nat} (hl : M l ∨ X.heap.size ≤ l) (o : Obj) : Fr M X (Y.putObj l o) :=
 ⟨h.os, h.tape, h.output, by simpa using h.size, fun k hk hn => (World.putObj_heap_other (by
  rintro rfl
  rcases hl with hl | hl
  · exact hn hl
  · omega)).trans (h.block k hk hn)⟩
def rPostO {α : Type} (D : Nat → Prop) (I : (Nat → Prop) → List α → World → Prop) (Ix : Code → (Nat → Prop) → List α → World → Prop) (p : List α) (W : World) : Exit → Act → World → Prop
 | .normal, _, W' => Fr (fun k => ¬ D k) W W' ∧ I D p W'
 | .ret, _, W' => Fr (fun k => ¬ D k) W W' ∧ Ix .ret D p W'
 | .exit id, _, W' => Fr (fun k => ¬ D k) W W' ∧ Ix (.exit id) D p W'
 | .goto t, _, W' => Fr (fun k => ¬ D k) W W' ∧ Ix (.goto t) D p W'
 | .panic _, _, _ => False
 | .outgrown, _, _ => False
theorem wpIn_rangeO {α : Type} {g : Operand} {ps : Array Tmp} {assign body : Code} {Q : Exit → Act → World → Prop} {a : Act} {w : World} {gf : Nat} {lb : Array Value}
 (hg : a.eval g = .func (.func gf) #[] lb) (eg : ∀ args w, (callFunc gf args).run P w = .ok (.enter gf args) w)
 {encs : α → Array Value} {xs : List α} {D : Nat → Prop} (hD : ∀ k, D k → k < w.heap.size) (hseq : ∀ W, Below w.heap.size w W → IterO P gf lb encs xs W D)
 (hps : ∀ x, (encs x).size = ps.size)
 (I : (Nat → Prop) → List α → World → Prop) (Ix : Code → (Nat → Prop) → List α → World → Prop) (hI : Steady w.heap.size I) (hIx : ∀ c, Steady w.heap.size (Ix c))
 (h0 : I D [] w)
 (hround : ∀ (D : Nat → Prop) (l : Nat) (pre : List α) (x : α) (post : List α) (W : World), xs = pre ++ x :: post → w.heap.size ≤ l → D l → I D pre W →
   assign.wpIn (Fence.wide.inRound l) 0 P (Exit.then (fun a1 W1 => Fr (fun k => ¬ D k) W W1 ∧ ∀ W2, Fr (· = l) W1 W2 → W2.heap.size = W1.heap.size → (∃ r, W2.heap[l]? = some (.loop r)) →
    body.wpIn (Fence.wide.inRound l) 0 P (rPostO D I Ix (pre ++ [x]) W2) a1 W2) (fun _ _ _ => False))
    { tmps := (ps.zip (encs x)).foldl (fun t (p, v) => t.setIfInBounds p v) a.tmps, defers := [] } W)
 (hdone : ∀ (D : Nat → Prop) (d : Nat) (W : World), w.heap.size ≤ d → D d → I D xs W → W.heap[d]? = some (.deferred (some [])) → Q .normal { a with defers := { target := .collected d, args := #[] } :: a.defers } W)
 (hstop : ∀ (D : Nat → Prop) (d : Nat) (c : Code) (pre post : List α) (W : World), w.heap.size ≤ d → D d → xs = pre ++ post → Ix c D pre W → W.heap[d]? = some (.deferred (some [])) → c.wpIn Fence.wide 0 P Q { a with defers := { target := .collected d, args := #[] } :: a.defers } W) :
 (Code.rangeFunc g ps assign body).wpIn Fence.wide 0 P Q a w := by
 refine wpIn_rangeFunc ?_
 intro fn hfn
 obtain ⟨rec, hrec⟩ : ∃ rec : LoopState → Option Code → Loop, rec = fun st pe => { state := st, pending := pe, fn, tmps := a.tmps, params := ps, assign, body, defers := w.heap.size } := ⟨_, rfl⟩
 obtain ⟨W1, hW1⟩ : ∃ W1, (w.alloc (.deferred (some []))).alloc (.loop (rec .ready none)) = W1 := ⟨_, rfl⟩
 have hL1 : W1.heap[w.heap.size + 1]? = some (.loop (rec .ready none)) := by
  rw [← hW1]; have := World.alloc_heap_new (w.alloc (.deferred (some []))) (.loop (rec .ready none)); rwa [World.size_alloc] at this
 have hK1 : W1.heap[w.heap.size]? = some (.deferred (some [])) := by
  rw [← hW1]; exact (Below.heap_alloc _ _ _ (by simp)).trans (World.alloc_heap_new w _)
 have hb1 : Below w.heap.size w W1 := by
  rw [← hW1]; exact ((Below.refl _ w).alloc (Nat.le_refl _) _).alloc (by simp) _
 have hz1 : W1.heap.size = w.heap.size + 2 := by rw [← hW1]; simp
 obtain ⟨U, hU⟩ : ∃ U : (Nat → Prop) → Nat → Prop, U = fun D' k => D' k ∨ (w.heap.size ≤ k ∧ k < w.heap.size + 2) := ⟨_, rfl⟩
 have u0 : ∀ D', U D' w.heap.size := fun D' => by rw [hU]; exact .inr ⟨by omega, by omega⟩
 have u1 : ∀ D', U D' (w.heap.size + 1) := fun D' => by rw [hU]; exact .inr ⟨by omega, by omega⟩
 have us : ∀ D' k, D' k → U D' k := fun D' k h => by rw [hU]; exact .inl h
 have up : ∀ D' (X Y : World), Plus (U D') X Y = U (Plus D' X Y) := fun D' X Y => by
  funext k; apply propext; rw [hU]; unfold Plus; dsimp only; constructor
  · rintro ((h | h) | h)
    · exact .inl (.inl h)
    · exact .inr h
    · exact .inl (.inr h)
  · rintro ((h | h) | h)
    · exact .inl (.inl h)
    · exact .inr h
    · exact .inl (.inr h)
 have hstart : I (U D) [] W1 := by
  have h9 := hI D [] w W1 h0 (Fr.of_new hb1)
  have e : Plus D w W1 = U D := by funext k; rw [hU]; unfold Plus; rw [hz1]
  rwa [e] at h9
 refine ⟨w.heap.size + 1, [{ target := .collected w.heap.size, args := #[] }], W1, { target := .fn (.func gf) lb, args := #[.func (.yield (w.heap.size + 1)) #[] #[]] }, W1, gf,
  #[.func (.yield (w.heap.size + 1)) #[] #[]] ++ lb, W1, ?_, ?_, fun _ _ => trivial, ?_, fun h => by simp [Fence.wide] at h, ?_⟩
 · rw [← hW1, hrec]; exact run_enterLoop_outer _ _ _ _ _
 · simp only [resolve, hg]
   simp [go_sem]
 · simp [invoke, go_sem, eg]
 · refine (hseq W1 hb1 (w.heap.size + 1)
    (fun D' pre W => I (U D') pre W ∧ ¬ D' w.heap.size ∧ ¬ D' (w.heap.size + 1) ∧ W.heap[w.heap.size + 1]? = some (.loop (rec .ready none)) ∧ W.heap[w.heap.size]? = some (.deferred (some [])))
    (fun D' pre W => ¬ D' w.heap.size ∧ ¬ D' (w.heap.size + 1) ∧ ∃ c, Ix c (U D') pre W ∧ W.heap[w.heap.size + 1]? = some (.loop (rec .done (some c))) ∧ W.heap[w.heap.size]? = some (.deferred (some [])))
    (fun D' p X Y ⟨h1, h2, h3, h4, h5⟩ hF => ?_) (fun D' p X Y ⟨h2, h3, c, h1, h4, h5⟩ hF => ?_)
    ⟨hstart, fun h => by have := hD _ h; omega, fun h => by have := hD _ h; omega, hL1, hK1⟩ ?_).mono ?_
   · have z4 := (Array.getElem?_eq_some_iff.1 h4).1
     have z5 := (Array.getElem?_eq_some_iff.1 h5).1
     refine ⟨by rw [← up]; exact hI _ _ _ _ h1 (hF.mono (fun k _ hk => ⟨us _ _ hk.1, by have := hk.2; omega⟩)), ?_, ?_, (hF.block _ z4 (fun hk => h3 hk.1)).trans h4, (hF.block _ z5 (fun hk => h2 hk.1)).trans h5⟩
     · rintro (h | h)
       · exact h2 h
       · omega
     · rintro (h | h)
       · exact h3 h
       · omega
   · have z4 := (Array.getElem?_eq_some_iff.1 h4).1
     have z5 := (Array.getElem?_eq_some_iff.1 h5).1
     refine ⟨?_, ?_, c, by rw [← up]; exact hIx c _ _ _ _ h1 (hF.mono (fun k _ hk => ⟨us _ _ hk.1, by have := hk.2; omega⟩)), (hF.block _ z4 (fun hk => h3 hk.1)).trans h4, (hF.block _ z5 (fun hk => h2 hk.1)).trans h5⟩
     · rintro (h | h)
       · exact h2 h
       · omega
     · rintro (h | h)
       · exact h3 h
       · omega
   · rintro D' pre x post W hx ⟨hi, nd, nl, hl, hk⟩
     have hy := run_yield (P := P) (args := encs x) hl (by rw [hrec]; exact hps x)
     rw [hrec] at hy
     refine ⟨fn, _, assign, body, hy, roundIn_of_wpIn hfn ?_⟩
     refine wpIn_mono (hround (U D') (w.heap.size + 1) pre x post W hx (by omega) (u1 _) hi) ?_
     rintro e a1 Wa hp
     have lu : ∀ {X Y : World}, Fr (fun k => ¬ U D' k) X Y → Fr (fun k => ¬ D' k) X Y := fun h => h.mono (fun k _ hk hd => hk (us _ _ hd))
     cases e with
     | normal =>
       obtain ⟨hfa, hbody⟩ := hp
       have zl := (Array.getElem?_eq_some_iff.1 hl).1
       have zk := (Array.getElem?_eq_some_iff.1 hk).1
       have hla := (hfa.block _ zl (fun hn => hn (u1 _))).trans hl
       have hkd := (hfa.block _ zk (fun hn => hn (u0 _))).trans hk
       have hlt : w.heap.size + 1 < Wa.heap.size := (Array.getElem?_eq_some_iff.1 hla).1
       have hbr := run_beginRound (P := P) hla (by rw [hrec])
       refine ⟨_, hbr, ?_⟩
       have hl2 : (Wa.putObj (w.heap.size + 1) (.loop { rec .ready none with state := .busy })).heap[w.heap.size + 1]? = some (.loop { rec .ready none with state := .busy }) := World.putObj_heap_same hlt
       have hk2 : (Wa.putObj (w.heap.size + 1) (.loop { rec .ready none with state := .busy })).heap[w.heap.size]? = some (.deferred (some [])) := (World.putObj_heap_other (by omega)).trans hkd
       have hfb : Fr (fun k => ¬ D' k) W (Wa.putObj (w.heap.size + 1) (.loop { rec .ready none with state := .busy })) := (lu hfa).trans ((Fr.refl _ Wa).putObj (.inl nl) _)
       refine wpIn_mono (hbody _ ((Fr.refl (· = w.heap.size + 1) Wa).putObj (.inl rfl) _) (by simp) ⟨_, hl2⟩) ?_
       have fin : ∀ (jump : Option Code) (W3 : World), Fr (fun k => ¬ U D' k) (Wa.putObj (w.heap.size + 1) (.loop { rec .ready none with state := .busy })) W3 →
        (Instr.endRound (w.heap.size + 1) jump).run P W3 = .ok (.bool jump.isNone) (W3.putObj (w.heap.size + 1) (.loop (rec (if jump.isNone then .ready else .done) jump))) ∧
        Fr (FromB w.heap.size (U D')) W3 (W3.putObj (w.heap.size + 1) (.loop (rec (if jump.isNone then .ready else .done) jump))) ∧
        Fr (fun k => ¬ D' k) W (W3.putObj (w.heap.size + 1) (.loop (rec (if jump.isNone then .ready else .done) jump))) ∧
        (W3.putObj (w.heap.size + 1) (.loop (rec (if jump.isNone then .ready else .done) jump))).heap[w.heap.size + 1]? = some (.loop (rec (if jump.isNone then .ready else .done) jump)) ∧
        (W3.putObj (w.heap.size + 1) (.loop (rec (if jump.isNone then .ready else .done) jump))).heap[w.heap.size]? = some (.deferred (some [])) := fun jump W3 hk3 => by
        have hl3 := (hk3.block _ (by simpa using hlt) (fun hn => hn (u1 _))).trans hl2
        have hd3 := (hk3.block _ (by have := hlt; simp; omega) (fun hn => hn (u0 _))).trans hk2
        have := run_endRound (P := P) jump hl3
        rw [hrec] at this ⊢
        exact ⟨this, (Fr.refl _ W3).putObj (.inl ⟨u1 _, by omega⟩) _, (hfb.trans (lu hk3)).trans ((Fr.refl _ W3).putObj (.inl nl) _), World.putObj_heap_same (Array.getElem?_eq_some_iff.1 hl3).1, (World.putObj_heap_other (by omega)).trans hd3⟩
       rintro e a3 W3 hp
       cases e with
       | normal =>
         obtain ⟨hk3, hi3⟩ := hp
         obtain ⟨hr, hst, hfr, hl4, hk4⟩ := fin none W3 hk3
         exact ⟨_, _, hr, .inl ⟨rfl, ⟨hI.same hi3 hst (by simp), nd, nl, hl4, hk4⟩, hfr⟩⟩
       | ret =>
         obtain ⟨hk3, hi3⟩ := hp
         obtain ⟨hr, hst, hfr, hl4, hk4⟩ := fin (some .ret) W3 hk3
         exact ⟨_, _, hr, .inr ⟨rfl, ⟨nd, nl, .ret, (hIx .ret).same hi3 hst (by simp), hl4, hk4⟩, hfr⟩⟩
       | exit id =>
         obtain ⟨hk3, hi3⟩ := hp
         obtain ⟨hr, hst, hfr, hl4, hk4⟩ := fin (some (.exit id)) W3 hk3
         exact ⟨_, _, hr, .inr ⟨rfl, ⟨nd, nl, .exit id, (hIx (.exit id)).same hi3 hst (by simp), hl4, hk4⟩, hfr⟩⟩
       | goto t =>
         obtain ⟨hk3, hi3⟩ := hp
         obtain ⟨hr, hst, hfr, hl4, hk4⟩ := fin (some (.goto t)) W3 hk3
         exact ⟨_, _, hr, .inr ⟨rfl, ⟨nd, nl, .goto t, (hIx (.goto t)).same hi3 hst (by simp), hl4, hk4⟩, hfr⟩⟩
       | panic ch => exact hp.elim
       | outgrown => exact hp.elim
     | exit id => exact hp.elim
     | goto l => exact hp.elim
     | ret => exact hp.elim
     | panic ch => exact hp.elim
     | outgrown => exact hp.elim
   · have pst : ∀ (D' : Nat → Prop) (X : World) (o : Obj), Fr (FromB w.heap.size (U D')) X (X.putObj (w.heap.size + 1) o) := fun D' X o => (Fr.refl _ X).putObj (.inl ⟨u1 _, by omega⟩) _
     rintro e W2 ⟨⟨v, rfl⟩, D', (⟨hi, nd, nl, hl, hk⟩ | ⟨pre, post, hS, nd, nl, c, hi, hl, hk⟩)⟩
     · exact ⟨none, _, by have := run_endLoop (P := P) hl (by rw [hrec]; simp); rw [hrec] at this; exact this, hdone (U D') _ _ (Nat.le_refl _) (u0 _) (hI.same hi (pst _ _ _) (by simp)) ((World.putObj_heap_other (by omega)).trans hk)⟩
     · exact ⟨some c, _, by have := run_endLoop (P := P) hl (by rw [hrec]; simp); rw [hrec] at this; exact this, hstop (U D') _ c pre post _ (Nat.le_refl _) (u0 _) hS ((hIx c).same hi (pst _ _ _) (by simp)) ((World.putObj_heap_other (by omega)).trans hk)⟩
end Go.Proofs.YtpndmjabjjbefaaGreat
namespace Go.Proofs.YtpndmjabjjbefaaGreat
open Go.RowKit
theorem Fr.setCells {M : Nat → Prop} {a : World} {g : Nat} : ∀ (vs : List Value) (o : Nat) {b : World}, Fr M a b → (M g ∨ a.heap.size ≤ g) → Fr M a (b.setCells g o vs)
 | [], _, _, h, _ => h
 | v :: vs, o, _, h, hg => Fr.setCells vs (o + 1) (h.setCell (p := ⟨g, o, none⟩) hg v) hg
theorem Room.there {w : World} {g : Nat} {e : TypeId} {m : Nat} (h : Room w g e m) {o n : Nat} (hn : o + n ≤ m) : w.there g o n := fun j hj => by
 obtain ⟨u, hu⟩ := h.cell (i := o + j) (by omega)
 exact ⟨by rw [hu]; rfl, h.frozen _⟩
theorem Blk.there {w : World} {g : Nat} {t : TypeId} {cs : Array Value} (h : Blk w g t cs) : w.there g 0 cs.size := fun j hj => by
 rw [Nat.zero_add]
 exact ⟨by rw [h.cell, Array.getElem?_eq_getElem hj]; rfl, h.frozen j⟩
theorem Below.setCells' {B : Nat} {a : World} {g : Nat} : ∀ (vs : List Value) (o : Nat) {b : World}, Below B a b → B ≤ g → Below B a (b.setCells g o vs)
 | [], _, _, h, _ => h
 | v :: vs, o, _, h, hg => Below.setCells' vs (o + 1) (h.setCell (show B ≤ (⟨g, o, none⟩ : Addr).block from hg) v) hg
end Go.Proofs.YtpndmjabjjbefaaGreat
namespace Go.Proofs.YtpndmjabjjbefaaGreat
open Go.RowKit
variable {P : Program} {α : Type}
def ItSt (J : (Nat → Prop) → List α → World → Prop) (D E : Nat → Prop) (W : World) (pre : List α) (X : World) : Prop :=
 ∃ D', (∀ k, D k → D' k) ∧ (∀ k, E k → D' k) ∧ J D' pre X ∧ Fr (fun j => ¬ D j) W X ∧ (∀ k, E k → W.heap.size ≤ k)
section
variable {J Jx : (Nat → Prop) → List α → World → Prop} {D E E' : Nat → Prop} {W X Y : World} {pre xs : List α}
theorem ItSt.start (h : J D [] W) : ItSt J D (fun _ => False) W [] W := ⟨D, fun _ h => h, fun _ h => h.elim, h, Fr.refl _ _, fun _ h => h.elim⟩
theorem ItSt.fr (h : ItSt J D E W pre X) : Fr (fun j => ¬ D j) W X := by
 obtain ⟨_, _, _, _, h, _⟩ := h
 exact h
theorem ItSt.weak (h : ItSt J D E W pre X) (hE : ∀ k, E' k → E k) : ItSt J D E' W pre X := by
 obtain ⟨D', h1, h2, h3, h4, h5⟩ := h
 exact ⟨D', h1, fun k hk => h2 k (hE k hk), h3, h4, fun k hk => h5 k (hE k hk)⟩
theorem ItSt.step (h : ItSt J D E W pre X) (hJ : Steady W.heap.size J) (hF : Fr E X Y) : ItSt J D (Plus E X Y) W pre Y := by
 obtain ⟨D', h1, h2, h3, h4, h5⟩ := h
 refine ⟨Plus D' X Y, fun k hk => .inl (h1 k hk), fun k hk => hk.imp (h2 k) id, hJ _ _ _ _ h3 (hF.mono (fun k _ hk => ⟨h2 k hk, h5 k hk⟩)), h4.into hF (fun k hk => .inr (h5 k hk)), fun k hk => ?_⟩
 rcases hk with hk | hk
 · exact h5 k hk
 · exact Nat.le_trans h4.size hk.1
theorem ItSt.new_ (h : ItSt J D E W pre X) (hJ : Steady W.heap.size J) (hb : Below X.heap.size X Y) : ItSt J D (Plus E X Y) W pre Y := h.step hJ (Fr.of_new hb)
theorem ItSt.round {l : Nat} {encs : α → Array Value} {x : α} {post : List α} (h : ItSt J D E W pre X) (hY : RoundsO P l encs xs J Jx) (hx : xs = pre ++ x :: post) :
 YieldAt Fence.wide 0 P l (encs x) X fun e W' => (e = .returned (.bool true) ∧ ItSt J D E W (pre ++ [x]) W' ∧ Fr (fun k => ¬ (D k ∨ E k)) X W') ∨ (e = .returned (.bool false) ∧ ToldO xs J Jx W' ∧ Fr (fun k => ¬ (D k ∨ E k)) X W') := by
 obtain ⟨D', h1, h2, h3, h4, h5⟩ := h
 obtain ⟨fn, tmps, assign, body, hy, hR⟩ := hY D' pre x post X hx h3
 refine ⟨fn, tmps, assign, body, hy, hR.mono ?_⟩
 rintro e W' (⟨g1, g2, g3⟩ | ⟨g1, g2, g3⟩)
 · exact .inl ⟨g1, ⟨D', h1, h2, g2, h4.trans (g3.mono (fun k _ hk hd => hk (h1 k hd))), h5⟩, g3.mono (fun k _ hk hd => hk (hd.elim (h1 k) (h2 k)))⟩
 · exact .inr ⟨g1, ⟨D', .inr ⟨pre ++ [x], post, by rw [hx]; simp, g2⟩⟩, g3.mono (fun k _ hk hd => hk (hd.elim (h1 k) (h2 k)))⟩
theorem ItSt.told (h : ItSt J D E W xs X) : ToldO xs J Jx X := by
 obtain ⟨D', _, _, h3, _, _⟩ := h
 exact ⟨D', .inl h3⟩
end
theorem wpListIn_app {F : Fence} {n1 : Nat} (w : World) {ops : Array Oper} {rest : List Oper} {o : Oper} {a : Go.Act} {Q : Exit → Go.Act → World → Prop} (hgd : o.guard = none) (s x : Operand) (t : TypeId)
 (ho : o.op = .call { callee := .builtin .append, args := #[s, x], argTypes := #[t, t] })
 (e : TypeId) (i : TypeInfo) (z : Value) (size bytes : Nat) (ht : P.underlying t = some (.slice e)) (hi : P.info? e = some i) (hz : i.zero = some z)
 (hsize : i.size = size) (hby : i.bytes = bytes) (hzs : z.cells.size = size) (hsz : 0 < size)
 (v : Value) (n : Nat) (xs : List Value) (hs : a.eval s = v) (hown : w.ownsRow 0 e size v n xs)
 (A : Option Addr) (m c : Nat) (news : List Value) (hx : a.eval x = .slice A m c) (hl : news.length = m * size)
 (hnews : 0 < m → ∃ ad, A = some ad ∧ ∀ j u, news[j]? = some u → w.cell? (ad.add j) = some u) (h1 : ∀ u ∈ news, u.oneCell' = true)
 (h63 : n + m ≤ maxLen) (hbytes : (n + m) * bytes ≤ 140737488355328)
 (h : ∀ v' w', w'.ownsRow 0 e size v' (n + m) (xs ++ news) → w.grownBy w' v.ownBlock → (v' = .slice none 0 0 ↔ v = .slice none 0 0 ∧ m = 0) → (v'.ownBlock = v.ownBlock ∨ v'.ownBlock = some w.heap.size) → wpListIn F n1 P ops Q rest (a.put o.dst v') w') :
 wpListIn F n1 P ops Q (o :: rest) a w := by
 refine wpListIn_plain hgd fun K hK' => ?_
 obtain ⟨v', w', hrun, r1, r2, r3, r4⟩ := run_append_src (P := P) w t o.type e i z size bytes ht hi hz hsize hby hzs hsz v n xs hown A m c news hl hnews h1 h63 hbytes
 unfold Oper.wpIn
 refine ⟨?_, ?_⟩
 · simp [Oper.about, ho, resolve, Target.leads, Sem.run_pure]
 · rw [Oper.semAt_plain F _ _ (by rw [ho]; intro c hc'; cases hc')]
   simp [execOp, ho, resolve, invoke, builtin, hs, hx, hrun, Result.andThen]
   exact hK' _ _ (h v' w' r1 r2 r3 r4)
theorem wpListIn_load_mid {F : Fence} {n1 : Nat} {w : World} {ops : Array Oper} {rest : List Oper} {o : Oper} {a : Go.Act} {Q : Exit → Go.Act → World → Prop} (hgd : o.guard = none) (ty : TypeId) (x : Operand) (ho : o.op = .load ty x)
 (b of : Nat) (hx : a.eval x = .pointer (some ⟨b, of, none⟩)) (cs : List Value) (d : TypeDesc) (hc : w.rangeAt b of cs)
 (hu : P.underlying ty = some d) (hd : d.isRow = true) (hi : (P.info? ty).map (·.size) = some cs.length)
 (h : wpListIn F n1 P ops Q rest (a.put o.dst (.agg cs.toArray)) w) : wpListIn F n1 P ops Q (o :: rest) a w := by
 refine wpListIn_plain hgd fun K hK' => ?_
 unfold Oper.wpIn
 refine ⟨?_, ?_⟩
 · simp [Oper.about, ho]
 · rw [Oper.semAt_plain F _ _ (by rw [ho]; intro c hc'; cases hc')]
   unfold execOp
   simp only [ho, hx, Instr.loadAt, Instr.sureAddr, Sem.run_bind, Sem.run_pure, Result.andThen_ok, run_loadVar_mid w b of ty cs d hc hu hd hi]
   exact hK' _ _ h
theorem wpListIn_store_mid {F : Fence} {n1 : Nat} {w : World} {ops : Array Oper} {rest : List Oper} {o : Oper} {a : Go.Act} {Q : Exit → Go.Act → World → Prop} (hgd : o.guard = none) (ty : TypeId) (x y : Operand) (ho : o.op = .store ty x y)
 (b of : Nat) (cells : Array Value) (hx : a.eval x = .pointer (some ⟨b, of, none⟩)) (hy : a.eval y = .agg cells)
 (ht : w.there b of cells.size) (hi : (P.info? ty).map (·.size) = some cells.size) (h1 : cells.all (·.oneCell') = true)
 (h : wpListIn F n1 P ops Q rest (a.put o.dst undef) (w.setCells b of cells.toList)) : wpListIn F n1 P ops Q (o :: rest) a w := by
 refine wpListIn_plain hgd fun K hK' => ?_
 unfold Oper.wpIn
 refine ⟨?_, ?_⟩
 · simp [Oper.about, ho]
 · rw [Oper.semAt_plain F _ _ (by rw [ho]; intro c hc'; cases hc')]
   unfold execOp
   simp only [ho, hx, hy, Instr.storeAt, Instr.sureAddr, Sem.run_bind, Sem.run_pure, Result.andThen_ok, run_storeVar_mid w b of ty cells ht hi h1]
   exact hK' _ _ h
theorem size_setCells (b : Nat) : ∀ (vs : List Value) (o : Nat) (w : World), (w.setCells b o vs).heap.size = w.heap.size
 | [], _, _ => rfl
 | v :: r, o, w => by rw [World.setCells, size_setCells b r (o + 1)]; simp [World.setCell]
theorem kept_new {w : World} {t : TypeId} (zs vs : List Value) (hl : zs.length = vs.length) :
 ∃ W, W = (w.alloc (.cells zs.toArray t)).setCells w.heap.size 0 vs ∧ (w.alloc (.cells zs.toArray t)).there w.heap.size 0 vs.toArray.size ∧ W.rangeAt w.heap.size 0 vs ∧ Below w.heap.size w W ∧ W.heap.size = w.heap.size + 1 := by
 have ht : (w.alloc (.cells zs.toArray t)).there w.heap.size 0 vs.length := by
  have := (Blk.new w t zs.toArray).there
  rwa [show zs.toArray.size = vs.length by simpa using hl] at this
 refine ⟨_, rfl, by simpa using ht, World.rangeAt_setCells_same _ _ _ _ ht, Below.setCells' _ _ ((Below.refl _ _).alloc (Nat.le_refl _) _) (Nat.le_refl _), ?_⟩
 rw [size_setCells, World.size_alloc]
theorem Blk.setCells_ {g : Nat} {t : TypeId} : ∀ (vs : List Value) (o : Nat) {w : World} {cs : Array Value}, Blk w g t cs → ∃ cs', Blk (w.setCells g o vs) g t cs' ∧ cs'.size = cs.size
 | [], _, _, cs, h => ⟨cs, h, rfl⟩
 | v :: vs, o, w, cs, h => by
   obtain ⟨cs', h1, h2⟩ := Blk.setCells_ vs (o + 1) (h.set_ o v)
   exact ⟨cs', h1, by rw [h2]; simp⟩
theorem kept_blk {w W : World} {t : TypeId} {zs vs : List Value} (hl : zs.length = vs.length) (hW : W = (w.alloc (.cells zs.toArray t)).setCells w.heap.size 0 vs) (hr : W.rangeAt w.heap.size 0 vs) : Blk W w.heap.size t vs.toArray := by
 obtain ⟨cs', h1, h2⟩ := Blk.setCells_ vs 0 (Blk.new w t zs.toArray)
 rw [← hW] at h1
 have e : cs' = vs.toArray := by
  apply Array.ext
  · rw [h2]; simpa using hl
  · intro i hi hj
    have hj' : i < vs.length := by simpa using hj
    have h3 := hr i vs[i] (List.getElem?_eq_getElem hj')
    rw [show (0 + i) = i by omega, h1.cell i, Array.getElem?_eq_getElem hi] at h3
    simpa using h3
 rw [← e]; exact h1
theorem grown_own {E : Nat → Prop} {X Y : World} {e : TypeId} {size n m : Nat} {A : Option Addr} {c : Nat} {v' : Value} {xs news : List Value} (hA : AIn A E) (hown' : Y.ownsRow 0 e size v' (n + m) (xs ++ news)) (hg : X.grownBy Y (Value.slice A n c).ownBlock)
 (hat : v'.ownBlock = (Value.slice A n c).ownBlock ∨ v'.ownBlock = some X.heap.size) : ∃ A' c', v' = .slice A' (n + m) c' ∧ Fr E X Y ∧ AIn A' (Plus E X Y) ∧ Y.ownsRow 0 e size (.slice A' (n + m) c') (n + m) (xs ++ news) := by
 obtain ⟨A', c', rfl, hc, _, hz⟩ := own_form2 hown'
 refine ⟨A', c', rfl, (Fr.refl E X).grown hg (fun k hk => ?_), fun a ha => ?_, hown'⟩
 · rcases A with _ | a
   · simp [Value.ownBlock] at hk
   · have e : a.block = k := by simpa [Value.ownBlock] using hk
     exact .inl (e ▸ hA a rfl)
 · subst ha
   rcases hat with h | h
   · rcases A with _ | b
     · simp [Value.ownBlock] at h
     · have e : a.block = b.block := by simpa [Value.ownBlock] using h
       exact .inl (e ▸ hA b rfl)
   · have e : a.block = X.heap.size := by simpa [Value.ownBlock] using h
     refine .inr ⟨by omega, ?_⟩
     rcases ownsRow_form hown' with ⟨hv, _⟩ | ⟨g, cap, hv, _, _, hr, _⟩
     · cases hv
     · injection hv with hv
       injection hv with hv
       subst hv
       exact hr.lt
end Go.Proofs.YtpndmjabjjbefaaGreat
namespace Go.Proofs.YtpndmjabjjbefaaGreat
open Go.RowKit Go.Shelf
set_option maxHeartbeats 1000000 in
theorem none_is (s : Sym) (w : World) : Calls Tryz.prog 132 #[.agg #[.int .i64 s.kind, .string s.text, .int .i64 s.n]] w fun e w' => e = .returned (.bool (noneB s)) ∧ Below w.heap.size w w' := by
 have hq : ∀ W : World, (binOp .eql 23 (.agg #[.int .i64 s.kind, .string s.text, .int .i64 s.n]) (.agg #[.int .i64 0, .string ⟨#[]⟩, .int .i64 0])).run Tryz.prog W = .ok (.bool (noneB s)) W := fun W => eql_sym s zS W
 go_enter Tryz.func132, Tryz.ntmps132
 go_wp2_with fail
 go_ret
 exact ⟨rfl, (Below.refl _ _).alloc (Nat.le_refl _) _⟩
theorem other_is (k : Int) (w : World) : Calls Tryz.prog 116 #[.int .i64 k] w fun e w' => e = .returned (.bool (otherB k)) ∧ w = w' := by
 have HV := Lib.hid (show otherB k = (k == 8 || k == 9 || k == 10) from rfl)
 go_enter Tryz.func116, Tryz.ntmps116
 go_wp2_with fail
 all_goals
  go_ret
  refine ⟨?_, rfl⟩
  rw [HV.out]
  refine ret_bool ?_
  simp_all
set_option maxRecDepth 100000 in
set_option maxHeartbeats 8000000 in
theorem constant_is (s : Sym) (w : World) : Calls Tryz.prog 133 #[.agg #[.int .i64 s.kind, .string s.text, .int .i64 s.n]] w fun e w' => e = .returned (.bool (constB s)) ∧ Below w.heap.size w w' := by
 obtain ⟨r, hr⟩ : ∃ r, r = constB s := ⟨_, rfl⟩
 rw [← hr]
 have HR := Lib.hid hr
 clear hr
 have HB := Lib.hid ((Below.refl w.heap.size w).alloc (Nat.le_refl _) (.cells #[.int .i64 s.kind, .string s.text, .int .i64 s.n] 23))
 go_enter Tryz.func133, Tryz.ntmps133
 obtain ⟨W1, hW1⟩ : ∃ W1, W1 = w.alloc (.cells #[.int .i64 s.kind, .string s.text, .int .i64 s.n] 23) := ⟨_, rfl⟩
 go_wp2_with (first
  | (go_at_call 58; refine (valid_is s _).mono ?_; rintro e w9 ⟨rfl, hb9⟩; have HB := Lib.hid (HB.out.trans (hb9.mono HB.out.size)); clear hb9))
 all_goals
  go_ret
  refine ⟨?_, by (first | exact HB.out | (exact (Below.refl _ _).alloc (Nat.le_refl _) _) | (simpa using HB.out))⟩
  rw [HR.out]
  refine ret_bool ?_
  first | (simp_all [constB]; done) | (simp_all [constB]; rfl)
set_option maxRecDepth 100000 in
set_option maxHeartbeats 8000000 in
theorem empty_is (a : AtomT) (w : World) : Calls Tryz.prog 117 #[.agg #[.string a.var, .int .i64 a.sym.kind, .string a.sym.text, .int .i64 a.sym.n]] w fun e w' => e = .returned (.bool (emptyB a)) ∧ Below w.heap.size w w' := by
 obtain ⟨r, hr⟩ : ∃ r, r = emptyB a := ⟨_, rfl⟩
 rw [← hr]
 have HR := Lib.hid hr
 clear hr
 have HB := Lib.hid ((Below.refl w.heap.size w).alloc (Nat.le_refl _) (.cells #[.string a.var, .int .i64 a.sym.kind, .string a.sym.text, .int .i64 a.sym.n] 25))
 go_enter Tryz.func117, Tryz.ntmps117
 obtain ⟨W1, hW1⟩ : ∃ W1, W1 = w.alloc (.cells #[.string a.var, .int .i64 a.sym.kind, .string a.sym.text, .int .i64 a.sym.n] 25) := ⟨_, rfl⟩
 go_wp2_with (first
  | (go_at_call 132; refine (none_is a.sym _).mono ?_; rintro e w9 ⟨rfl, hb9⟩; have HB := Lib.hid (HB.out.trans (hb9.mono HB.out.size)); clear hb9))
 all_goals
  go_ret
  refine ⟨?_, by (first | exact HB.out | (exact (Below.refl _ _).alloc (Nat.le_refl _) _) | (simpa using HB.out))⟩
  rw [HR.out]
  refine ret_bool ?_
  first | (simp_all [emptyB]; done) | (simp_all [emptyB]; rfl)
set_option maxRecDepth 100000 in
set_option maxHeartbeats 8000000 in
theorem wordA_is (a : AtomT) (w : World) : Calls Tryz.prog 134 #[.agg #[.string a.var, .int .i64 a.sym.kind, .string a.sym.text, .int .i64 a.sym.n]] w fun e w' => e = .returned (.bool (wordAB a)) ∧ Below w.heap.size w w' := by
 obtain ⟨r, hr⟩ : ∃ r, r = wordAB a := ⟨_, rfl⟩
 rw [← hr]
 have HR := Lib.hid hr
 clear hr
 have HB := Lib.hid ((Below.refl w.heap.size w).alloc (Nat.le_refl _) (.cells #[.string a.var, .int .i64 a.sym.kind, .string a.sym.text, .int .i64 a.sym.n] 25))
 go_enter Tryz.func134, Tryz.ntmps134
 obtain ⟨W1, hW1⟩ : ∃ W1, W1 = w.alloc (.cells #[.string a.var, .int .i64 a.sym.kind, .string a.sym.text, .int .i64 a.sym.n] 25) := ⟨_, rfl⟩
 go_wp2_with (first
  | fail)
 all_goals
  go_ret
  refine ⟨?_, by (first | exact HB.out | (exact (Below.refl _ _).alloc (Nat.le_refl _) _) | (simpa using HB.out))⟩
  rw [HR.out]
  refine ret_bool ?_
  first | (simp_all [wordAB]; done) | (simp_all [wordAB]; rfl)
set_option maxRecDepth 100000 in
set_option maxHeartbeats 8000000 in
theorem atomS_is (a : AtomT) (w : World) : Calls Tryz.prog 114 #[.agg #[.string a.var, .int .i64 a.sym.kind, .string a.sym.text, .int .i64 a.sym.n]] w fun e w' => e = .returned (.bool (atomB a)) ∧ Below w.heap.size w w' := by
 obtain ⟨r, hr⟩ : ∃ r, r = atomB a := ⟨_, rfl⟩
 rw [← hr]
 have HR := Lib.hid hr
 clear hr
 have HB := Lib.hid ((Below.refl w.heap.size w).alloc (Nat.le_refl _) (.cells #[.string a.var, .int .i64 a.sym.kind, .string a.sym.text, .int .i64 a.sym.n] 25))
 go_enter Tryz.func114, Tryz.ntmps114
 obtain ⟨W1, hW1⟩ : ∃ W1, W1 = w.alloc (.cells #[.string a.var, .int .i64 a.sym.kind, .string a.sym.text, .int .i64 a.sym.n] 25) := ⟨_, rfl⟩
 go_wp2_with (first
  | (go_at_call 132; refine (none_is a.sym _).mono ?_; rintro e w9 ⟨rfl, hb9⟩; have HB := Lib.hid (HB.out.trans (hb9.mono HB.out.size)); clear hb9)
  | (go_at_call 133; refine (constant_is a.sym _).mono ?_; rintro e w9 ⟨rfl, hb9⟩; have HB := Lib.hid (HB.out.trans (hb9.mono HB.out.size)); clear hb9)
  | (go_at_call 81; refine (word_is a.var _).mono ?_; rintro e w9 ⟨rfl, rfl⟩))
 all_goals
  go_ret
  refine ⟨?_, by (first | exact HB.out | (exact (Below.refl _ _).alloc (Nat.le_refl _) _) | (simpa using HB.out))⟩
  rw [HR.out]
  refine ret_bool ?_
  first | (simp_all [atomB]; done) | (simp_all [atomB]; rfl)
set_option maxRecDepth 100000 in
set_option maxHeartbeats 8000000 in
theorem term_is (t : TermT) (w : World) : Calls Tryz.prog 115 #[.agg #[.int .i64 t.op, .string t.a.var, .int .i64 t.a.sym.kind, .string t.a.sym.text, .int .i64 t.a.sym.n, .string t.b.var, .int .i64 t.b.sym.kind, .string t.b.sym.text, .int .i64 t.b.sym.n]] w fun e w' => e = .returned (.bool (termB t)) ∧ Below w.heap.size w w' := by
 by_cases c0 : t.op < 0
 · have t0 : decide (t.op < 0) = true := by simp [*]
   have HR := Lib.hid (show termB t = false by simp [termB, *])
   clear c0
   go_enter Tryz.func115, Tryz.ntmps115
   go_upto_region 1 with fail
   obtain ⟨W1, hW1⟩ : ∃ W1, W1 = w.alloc (.cells #[.int .i64 t.op, .string t.a.var, .int .i64 t.a.sym.kind, .string t.a.sym.text, .int .i64 t.a.sym.n, .string t.b.var, .int .i64 t.b.sym.kind, .string t.b.sym.text, .int .i64 t.b.sym.n] 27) := ⟨_, rfl⟩
   rw [← hW1]
   have hBk : Blk W1 w.heap.size 27 #[.int .i64 t.op, .string t.a.var, .int .i64 t.a.sym.kind, .string t.a.sym.text, .int .i64 t.a.sym.n, .string t.b.var, .int .i64 t.b.sym.kind, .string t.b.sym.text, .int .i64 t.b.sym.n] := by rw [hW1]; exact Blk.new _ _ _
   have HB := Lib.hid (show Below w.heap.size w W1 by rw [hW1]; exact (Below.refl _ _).alloc (Nat.le_refl _) _)
   have e0 : W1.cell? ⟨w.heap.size, 0, none⟩ = some (.int .i64 t.op) := (hBk.cell 0).trans rfl
   have e1 : W1.cell? ⟨w.heap.size, 1, none⟩ = some (.string t.a.var) := (hBk.cell 1).trans rfl
   have e2 : W1.cell? ⟨w.heap.size, 2, none⟩ = some (.int .i64 t.a.sym.kind) := (hBk.cell 2).trans rfl
   have e3 : W1.cell? ⟨w.heap.size, 3, none⟩ = some (.string t.a.sym.text) := (hBk.cell 3).trans rfl
   have e4 : W1.cell? ⟨w.heap.size, 4, none⟩ = some (.int .i64 t.a.sym.n) := (hBk.cell 4).trans rfl
   have e5 : W1.cell? ⟨w.heap.size, 5, none⟩ = some (.string t.b.var) := (hBk.cell 5).trans rfl
   have e6 : W1.cell? ⟨w.heap.size, 6, none⟩ = some (.int .i64 t.b.sym.kind) := (hBk.cell 6).trans rfl
   have e7 : W1.cell? ⟨w.heap.size, 7, none⟩ = some (.string t.b.sym.text) := (hBk.cell 7).trans rfl
   have e8 : W1.cell? ⟨w.heap.size, 8, none⟩ = some (.int .i64 t.b.sym.n) := (hBk.cell 8).trans rfl
   have hbl := hBk.lt
   clear hW1 hBk
   go_wp2_with (first
    | (go_at_call 117; refine (empty_is t.b _).mono ?_; rintro e w9 ⟨rfl, hb9⟩; have HB := Lib.hid (HB.out.trans (hb9.mono HB.out.size)); replace e0 := (hb9.cell (p := ⟨w.heap.size, 0, none⟩) hbl).trans e0; replace e1 := (hb9.cell (p := ⟨w.heap.size, 1, none⟩) hbl).trans e1; replace e2 := (hb9.cell (p := ⟨w.heap.size, 2, none⟩) hbl).trans e2; replace e3 := (hb9.cell (p := ⟨w.heap.size, 3, none⟩) hbl).trans e3; replace e4 := (hb9.cell (p := ⟨w.heap.size, 4, none⟩) hbl).trans e4; replace e5 := (hb9.cell (p := ⟨w.heap.size, 5, none⟩) hbl).trans e5; replace e6 := (hb9.cell (p := ⟨w.heap.size, 6, none⟩) hbl).trans e6; replace e7 := (hb9.cell (p := ⟨w.heap.size, 7, none⟩) hbl).trans e7; replace e8 := (hb9.cell (p := ⟨w.heap.size, 8, none⟩) hbl).trans e8; replace hbl := Nat.lt_of_lt_of_le hbl hb9.size; clear hb9)
    | (go_at_call 114; (first | (with_reducible refine (atomS_is t.a _).mono ?_) | (with_reducible refine (atomS_is t.b _).mono ?_)); rintro e w9 ⟨rfl, hb9⟩; have HB := Lib.hid (HB.out.trans (hb9.mono HB.out.size)); replace e0 := (hb9.cell (p := ⟨w.heap.size, 0, none⟩) hbl).trans e0; replace e1 := (hb9.cell (p := ⟨w.heap.size, 1, none⟩) hbl).trans e1; replace e2 := (hb9.cell (p := ⟨w.heap.size, 2, none⟩) hbl).trans e2; replace e3 := (hb9.cell (p := ⟨w.heap.size, 3, none⟩) hbl).trans e3; replace e4 := (hb9.cell (p := ⟨w.heap.size, 4, none⟩) hbl).trans e4; replace e5 := (hb9.cell (p := ⟨w.heap.size, 5, none⟩) hbl).trans e5; replace e6 := (hb9.cell (p := ⟨w.heap.size, 6, none⟩) hbl).trans e6; replace e7 := (hb9.cell (p := ⟨w.heap.size, 7, none⟩) hbl).trans e7; replace e8 := (hb9.cell (p := ⟨w.heap.size, 8, none⟩) hbl).trans e8; replace hbl := Nat.lt_of_lt_of_le hbl hb9.size; clear hb9)
    | (go_at_call 134; (first | (with_reducible refine (wordA_is t.a _).mono ?_) | (with_reducible refine (wordA_is t.b _).mono ?_)); rintro e w9 ⟨rfl, hb9⟩; have HB := Lib.hid (HB.out.trans (hb9.mono HB.out.size)); replace e0 := (hb9.cell (p := ⟨w.heap.size, 0, none⟩) hbl).trans e0; replace e1 := (hb9.cell (p := ⟨w.heap.size, 1, none⟩) hbl).trans e1; replace e2 := (hb9.cell (p := ⟨w.heap.size, 2, none⟩) hbl).trans e2; replace e3 := (hb9.cell (p := ⟨w.heap.size, 3, none⟩) hbl).trans e3; replace e4 := (hb9.cell (p := ⟨w.heap.size, 4, none⟩) hbl).trans e4; replace e5 := (hb9.cell (p := ⟨w.heap.size, 5, none⟩) hbl).trans e5; replace e6 := (hb9.cell (p := ⟨w.heap.size, 6, none⟩) hbl).trans e6; replace e7 := (hb9.cell (p := ⟨w.heap.size, 7, none⟩) hbl).trans e7; replace e8 := (hb9.cell (p := ⟨w.heap.size, 8, none⟩) hbl).trans e8; replace hbl := Nat.lt_of_lt_of_le hbl hb9.size; clear hb9))
   go_ret
   exact ⟨by rw [HR.out] <;> rfl, by (first | exact HB.out | (exact (Below.refl _ _).alloc (Nat.le_refl _) _) | (simpa using HB.out))⟩
 by_cases c1 : 3 < t.op
 · have t0 : decide (t.op < 0) = false := by simp; omega
   have t1 : decide (3 < t.op) = true := by simp [*]
   have HR := Lib.hid (show termB t = false by simp [termB, *])
   clear c0 c1
   go_enter Tryz.func115, Tryz.ntmps115
   go_upto_region 1 with fail
   obtain ⟨W1, hW1⟩ : ∃ W1, W1 = w.alloc (.cells #[.int .i64 t.op, .string t.a.var, .int .i64 t.a.sym.kind, .string t.a.sym.text, .int .i64 t.a.sym.n, .string t.b.var, .int .i64 t.b.sym.kind, .string t.b.sym.text, .int .i64 t.b.sym.n] 27) := ⟨_, rfl⟩
   rw [← hW1]
   have hBk : Blk W1 w.heap.size 27 #[.int .i64 t.op, .string t.a.var, .int .i64 t.a.sym.kind, .string t.a.sym.text, .int .i64 t.a.sym.n, .string t.b.var, .int .i64 t.b.sym.kind, .string t.b.sym.text, .int .i64 t.b.sym.n] := by rw [hW1]; exact Blk.new _ _ _
   have HB := Lib.hid (show Below w.heap.size w W1 by rw [hW1]; exact (Below.refl _ _).alloc (Nat.le_refl _) _)
   have e0 : W1.cell? ⟨w.heap.size, 0, none⟩ = some (.int .i64 t.op) := (hBk.cell 0).trans rfl
   have e1 : W1.cell? ⟨w.heap.size, 1, none⟩ = some (.string t.a.var) := (hBk.cell 1).trans rfl
   have e2 : W1.cell? ⟨w.heap.size, 2, none⟩ = some (.int .i64 t.a.sym.kind) := (hBk.cell 2).trans rfl
   have e3 : W1.cell? ⟨w.heap.size, 3, none⟩ = some (.string t.a.sym.text) := (hBk.cell 3).trans rfl
   have e4 : W1.cell? ⟨w.heap.size, 4, none⟩ = some (.int .i64 t.a.sym.n) := (hBk.cell 4).trans rfl
   have e5 : W1.cell? ⟨w.heap.size, 5, none⟩ = some (.string t.b.var) := (hBk.cell 5).trans rfl
   have e6 : W1.cell? ⟨w.heap.size, 6, none⟩ = some (.int .i64 t.b.sym.kind) := (hBk.cell 6).trans rfl
   have e7 : W1.cell? ⟨w.heap.size, 7, none⟩ = some (.string t.b.sym.text) := (hBk.cell 7).trans rfl
   have e8 : W1.cell? ⟨w.heap.size, 8, none⟩ = some (.int .i64 t.b.sym.n) := (hBk.cell 8).trans rfl
   have hbl := hBk.lt
   clear hW1 hBk
   go_wp2_with (first
    | (go_at_call 117; refine (empty_is t.b _).mono ?_; rintro e w9 ⟨rfl, hb9⟩; have HB := Lib.hid (HB.out.trans (hb9.mono HB.out.size)); replace e0 := (hb9.cell (p := ⟨w.heap.size, 0, none⟩) hbl).trans e0; replace e1 := (hb9.cell (p := ⟨w.heap.size, 1, none⟩) hbl).trans e1; replace e2 := (hb9.cell (p := ⟨w.heap.size, 2, none⟩) hbl).trans e2; replace e3 := (hb9.cell (p := ⟨w.heap.size, 3, none⟩) hbl).trans e3; replace e4 := (hb9.cell (p := ⟨w.heap.size, 4, none⟩) hbl).trans e4; replace e5 := (hb9.cell (p := ⟨w.heap.size, 5, none⟩) hbl).trans e5; replace e6 := (hb9.cell (p := ⟨w.heap.size, 6, none⟩) hbl).trans e6; replace e7 := (hb9.cell (p := ⟨w.heap.size, 7, none⟩) hbl).trans e7; replace e8 := (hb9.cell (p := ⟨w.heap.size, 8, none⟩) hbl).trans e8; replace hbl := Nat.lt_of_lt_of_le hbl hb9.size; clear hb9)
    | (go_at_call 114; (first | (with_reducible refine (atomS_is t.a _).mono ?_) | (with_reducible refine (atomS_is t.b _).mono ?_)); rintro e w9 ⟨rfl, hb9⟩; have HB := Lib.hid (HB.out.trans (hb9.mono HB.out.size)); replace e0 := (hb9.cell (p := ⟨w.heap.size, 0, none⟩) hbl).trans e0; replace e1 := (hb9.cell (p := ⟨w.heap.size, 1, none⟩) hbl).trans e1; replace e2 := (hb9.cell (p := ⟨w.heap.size, 2, none⟩) hbl).trans e2; replace e3 := (hb9.cell (p := ⟨w.heap.size, 3, none⟩) hbl).trans e3; replace e4 := (hb9.cell (p := ⟨w.heap.size, 4, none⟩) hbl).trans e4; replace e5 := (hb9.cell (p := ⟨w.heap.size, 5, none⟩) hbl).trans e5; replace e6 := (hb9.cell (p := ⟨w.heap.size, 6, none⟩) hbl).trans e6; replace e7 := (hb9.cell (p := ⟨w.heap.size, 7, none⟩) hbl).trans e7; replace e8 := (hb9.cell (p := ⟨w.heap.size, 8, none⟩) hbl).trans e8; replace hbl := Nat.lt_of_lt_of_le hbl hb9.size; clear hb9)
    | (go_at_call 134; (first | (with_reducible refine (wordA_is t.a _).mono ?_) | (with_reducible refine (wordA_is t.b _).mono ?_)); rintro e w9 ⟨rfl, hb9⟩; have HB := Lib.hid (HB.out.trans (hb9.mono HB.out.size)); replace e0 := (hb9.cell (p := ⟨w.heap.size, 0, none⟩) hbl).trans e0; replace e1 := (hb9.cell (p := ⟨w.heap.size, 1, none⟩) hbl).trans e1; replace e2 := (hb9.cell (p := ⟨w.heap.size, 2, none⟩) hbl).trans e2; replace e3 := (hb9.cell (p := ⟨w.heap.size, 3, none⟩) hbl).trans e3; replace e4 := (hb9.cell (p := ⟨w.heap.size, 4, none⟩) hbl).trans e4; replace e5 := (hb9.cell (p := ⟨w.heap.size, 5, none⟩) hbl).trans e5; replace e6 := (hb9.cell (p := ⟨w.heap.size, 6, none⟩) hbl).trans e6; replace e7 := (hb9.cell (p := ⟨w.heap.size, 7, none⟩) hbl).trans e7; replace e8 := (hb9.cell (p := ⟨w.heap.size, 8, none⟩) hbl).trans e8; replace hbl := Nat.lt_of_lt_of_le hbl hb9.size; clear hb9))
   go_ret
   exact ⟨by rw [HR.out] <;> rfl, by (first | exact HB.out | (exact (Below.refl _ _).alloc (Nat.le_refl _) _) | (simpa using HB.out))⟩
 by_cases c2 : atomB t.a = false
 · have t0 : decide (t.op < 0) = false := by simp; omega
   have t1 : decide (3 < t.op) = false := by simp; omega
   have t2 := c2
   have HR := Lib.hid (show termB t = false by simp [termB, *])
   clear c0 c1 c2
   go_enter Tryz.func115, Tryz.ntmps115
   go_upto_region 1 with fail
   obtain ⟨W1, hW1⟩ : ∃ W1, W1 = w.alloc (.cells #[.int .i64 t.op, .string t.a.var, .int .i64 t.a.sym.kind, .string t.a.sym.text, .int .i64 t.a.sym.n, .string t.b.var, .int .i64 t.b.sym.kind, .string t.b.sym.text, .int .i64 t.b.sym.n] 27) := ⟨_, rfl⟩
   rw [← hW1]
   have hBk : Blk W1 w.heap.size 27 #[.int .i64 t.op, .string t.a.var, .int .i64 t.a.sym.kind, .string t.a.sym.text, .int .i64 t.a.sym.n, .string t.b.var, .int .i64 t.b.sym.kind, .string t.b.sym.text, .int .i64 t.b.sym.n] := by rw [hW1]; exact Blk.new _ _ _
   have HB := Lib.hid (show Below w.heap.size w W1 by rw [hW1]; exact (Below.refl _ _).alloc (Nat.le_refl _) _)
   have e0 : W1.cell? ⟨w.heap.size, 0, none⟩ = some (.int .i64 t.op) := (hBk.cell 0).trans rfl
   have e1 : W1.cell? ⟨w.heap.size, 1, none⟩ = some (.string t.a.var) := (hBk.cell 1).trans rfl
   have e2 : W1.cell? ⟨w.heap.size, 2, none⟩ = some (.int .i64 t.a.sym.kind) := (hBk.cell 2).trans rfl
   have e3 : W1.cell? ⟨w.heap.size, 3, none⟩ = some (.string t.a.sym.text) := (hBk.cell 3).trans rfl
   have e4 : W1.cell? ⟨w.heap.size, 4, none⟩ = some (.int .i64 t.a.sym.n) := (hBk.cell 4).trans rfl
   have e5 : W1.cell? ⟨w.heap.size, 5, none⟩ = some (.string t.b.var) := (hBk.cell 5).trans rfl
   have e6 : W1.cell? ⟨w.heap.size, 6, none⟩ = some (.int .i64 t.b.sym.kind) := (hBk.cell 6).trans rfl
   have e7 : W1.cell? ⟨w.heap.size, 7, none⟩ = some (.string t.b.sym.text) := (hBk.cell 7).trans rfl
   have e8 : W1.cell? ⟨w.heap.size, 8, none⟩ = some (.int .i64 t.b.sym.n) := (hBk.cell 8).trans rfl
   have hbl := hBk.lt
   clear hW1 hBk
   go_wp2_with (first
    | (go_at_call 117; refine (empty_is t.b _).mono ?_; rintro e w9 ⟨rfl, hb9⟩; have HB := Lib.hid (HB.out.trans (hb9.mono HB.out.size)); replace e0 := (hb9.cell (p := ⟨w.heap.size, 0, none⟩) hbl).trans e0; replace e1 := (hb9.cell (p := ⟨w.heap.size, 1, none⟩) hbl).trans e1; replace e2 := (hb9.cell (p := ⟨w.heap.size, 2, none⟩) hbl).trans e2; replace e3 := (hb9.cell (p := ⟨w.heap.size, 3, none⟩) hbl).trans e3; replace e4 := (hb9.cell (p := ⟨w.heap.size, 4, none⟩) hbl).trans e4; replace e5 := (hb9.cell (p := ⟨w.heap.size, 5, none⟩) hbl).trans e5; replace e6 := (hb9.cell (p := ⟨w.heap.size, 6, none⟩) hbl).trans e6; replace e7 := (hb9.cell (p := ⟨w.heap.size, 7, none⟩) hbl).trans e7; replace e8 := (hb9.cell (p := ⟨w.heap.size, 8, none⟩) hbl).trans e8; replace hbl := Nat.lt_of_lt_of_le hbl hb9.size; clear hb9)
    | (go_at_call 114; (first | (with_reducible refine (atomS_is t.a _).mono ?_) | (with_reducible refine (atomS_is t.b _).mono ?_)); rintro e w9 ⟨rfl, hb9⟩; have HB := Lib.hid (HB.out.trans (hb9.mono HB.out.size)); replace e0 := (hb9.cell (p := ⟨w.heap.size, 0, none⟩) hbl).trans e0; replace e1 := (hb9.cell (p := ⟨w.heap.size, 1, none⟩) hbl).trans e1; replace e2 := (hb9.cell (p := ⟨w.heap.size, 2, none⟩) hbl).trans e2; replace e3 := (hb9.cell (p := ⟨w.heap.size, 3, none⟩) hbl).trans e3; replace e4 := (hb9.cell (p := ⟨w.heap.size, 4, none⟩) hbl).trans e4; replace e5 := (hb9.cell (p := ⟨w.heap.size, 5, none⟩) hbl).trans e5; replace e6 := (hb9.cell (p := ⟨w.heap.size, 6, none⟩) hbl).trans e6; replace e7 := (hb9.cell (p := ⟨w.heap.size, 7, none⟩) hbl).trans e7; replace e8 := (hb9.cell (p := ⟨w.heap.size, 8, none⟩) hbl).trans e8; replace hbl := Nat.lt_of_lt_of_le hbl hb9.size; clear hb9)
    | (go_at_call 134; (first | (with_reducible refine (wordA_is t.a _).mono ?_) | (with_reducible refine (wordA_is t.b _).mono ?_)); rintro e w9 ⟨rfl, hb9⟩; have HB := Lib.hid (HB.out.trans (hb9.mono HB.out.size)); replace e0 := (hb9.cell (p := ⟨w.heap.size, 0, none⟩) hbl).trans e0; replace e1 := (hb9.cell (p := ⟨w.heap.size, 1, none⟩) hbl).trans e1; replace e2 := (hb9.cell (p := ⟨w.heap.size, 2, none⟩) hbl).trans e2; replace e3 := (hb9.cell (p := ⟨w.heap.size, 3, none⟩) hbl).trans e3; replace e4 := (hb9.cell (p := ⟨w.heap.size, 4, none⟩) hbl).trans e4; replace e5 := (hb9.cell (p := ⟨w.heap.size, 5, none⟩) hbl).trans e5; replace e6 := (hb9.cell (p := ⟨w.heap.size, 6, none⟩) hbl).trans e6; replace e7 := (hb9.cell (p := ⟨w.heap.size, 7, none⟩) hbl).trans e7; replace e8 := (hb9.cell (p := ⟨w.heap.size, 8, none⟩) hbl).trans e8; replace hbl := Nat.lt_of_lt_of_le hbl hb9.size; clear hb9))
   go_ret
   exact ⟨by rw [HR.out] <;> rfl, by (first | exact HB.out | (exact (Below.refl _ _).alloc (Nat.le_refl _) _) | (simpa using HB.out))⟩
 by_cases c3 : t.op = 0
 · have t0 : decide (t.op < 0) = false := by simp; omega
   have t1 : decide (3 < t.op) = false := by simp; omega
   have t2 : atomB t.a = true := by simpa using c2
   have t3 : decide (t.op = 0) = true := by simp [*]
   have t3b : (t.op == 0) = true := by simp [*]
   have HR := Lib.hid (show termB t = emptyB t.b by simp [termB, *])
   clear c0 c1 c2 c3
   go_enter Tryz.func115, Tryz.ntmps115
   go_upto_region 1 with fail
   obtain ⟨W1, hW1⟩ : ∃ W1, W1 = w.alloc (.cells #[.int .i64 t.op, .string t.a.var, .int .i64 t.a.sym.kind, .string t.a.sym.text, .int .i64 t.a.sym.n, .string t.b.var, .int .i64 t.b.sym.kind, .string t.b.sym.text, .int .i64 t.b.sym.n] 27) := ⟨_, rfl⟩
   rw [← hW1]
   have hBk : Blk W1 w.heap.size 27 #[.int .i64 t.op, .string t.a.var, .int .i64 t.a.sym.kind, .string t.a.sym.text, .int .i64 t.a.sym.n, .string t.b.var, .int .i64 t.b.sym.kind, .string t.b.sym.text, .int .i64 t.b.sym.n] := by rw [hW1]; exact Blk.new _ _ _
   have HB := Lib.hid (show Below w.heap.size w W1 by rw [hW1]; exact (Below.refl _ _).alloc (Nat.le_refl _) _)
   have e0 : W1.cell? ⟨w.heap.size, 0, none⟩ = some (.int .i64 t.op) := (hBk.cell 0).trans rfl
   have e1 : W1.cell? ⟨w.heap.size, 1, none⟩ = some (.string t.a.var) := (hBk.cell 1).trans rfl
   have e2 : W1.cell? ⟨w.heap.size, 2, none⟩ = some (.int .i64 t.a.sym.kind) := (hBk.cell 2).trans rfl
   have e3 : W1.cell? ⟨w.heap.size, 3, none⟩ = some (.string t.a.sym.text) := (hBk.cell 3).trans rfl
   have e4 : W1.cell? ⟨w.heap.size, 4, none⟩ = some (.int .i64 t.a.sym.n) := (hBk.cell 4).trans rfl
   have e5 : W1.cell? ⟨w.heap.size, 5, none⟩ = some (.string t.b.var) := (hBk.cell 5).trans rfl
   have e6 : W1.cell? ⟨w.heap.size, 6, none⟩ = some (.int .i64 t.b.sym.kind) := (hBk.cell 6).trans rfl
   have e7 : W1.cell? ⟨w.heap.size, 7, none⟩ = some (.string t.b.sym.text) := (hBk.cell 7).trans rfl
   have e8 : W1.cell? ⟨w.heap.size, 8, none⟩ = some (.int .i64 t.b.sym.n) := (hBk.cell 8).trans rfl
   have hbl := hBk.lt
   clear hW1 hBk
   go_wp2_with (first
    | (go_at_call 117; refine (empty_is t.b _).mono ?_; rintro e w9 ⟨rfl, hb9⟩; have HB := Lib.hid (HB.out.trans (hb9.mono HB.out.size)); replace e0 := (hb9.cell (p := ⟨w.heap.size, 0, none⟩) hbl).trans e0; replace e1 := (hb9.cell (p := ⟨w.heap.size, 1, none⟩) hbl).trans e1; replace e2 := (hb9.cell (p := ⟨w.heap.size, 2, none⟩) hbl).trans e2; replace e3 := (hb9.cell (p := ⟨w.heap.size, 3, none⟩) hbl).trans e3; replace e4 := (hb9.cell (p := ⟨w.heap.size, 4, none⟩) hbl).trans e4; replace e5 := (hb9.cell (p := ⟨w.heap.size, 5, none⟩) hbl).trans e5; replace e6 := (hb9.cell (p := ⟨w.heap.size, 6, none⟩) hbl).trans e6; replace e7 := (hb9.cell (p := ⟨w.heap.size, 7, none⟩) hbl).trans e7; replace e8 := (hb9.cell (p := ⟨w.heap.size, 8, none⟩) hbl).trans e8; replace hbl := Nat.lt_of_lt_of_le hbl hb9.size; clear hb9)
    | (go_at_call 114; (first | (with_reducible refine (atomS_is t.a _).mono ?_) | (with_reducible refine (atomS_is t.b _).mono ?_)); rintro e w9 ⟨rfl, hb9⟩; have HB := Lib.hid (HB.out.trans (hb9.mono HB.out.size)); replace e0 := (hb9.cell (p := ⟨w.heap.size, 0, none⟩) hbl).trans e0; replace e1 := (hb9.cell (p := ⟨w.heap.size, 1, none⟩) hbl).trans e1; replace e2 := (hb9.cell (p := ⟨w.heap.size, 2, none⟩) hbl).trans e2; replace e3 := (hb9.cell (p := ⟨w.heap.size, 3, none⟩) hbl).trans e3; replace e4 := (hb9.cell (p := ⟨w.heap.size, 4, none⟩) hbl).trans e4; replace e5 := (hb9.cell (p := ⟨w.heap.size, 5, none⟩) hbl).trans e5; replace e6 := (hb9.cell (p := ⟨w.heap.size, 6, none⟩) hbl).trans e6; replace e7 := (hb9.cell (p := ⟨w.heap.size, 7, none⟩) hbl).trans e7; replace e8 := (hb9.cell (p := ⟨w.heap.size, 8, none⟩) hbl).trans e8; replace hbl := Nat.lt_of_lt_of_le hbl hb9.size; clear hb9)
    | (go_at_call 134; (first | (with_reducible refine (wordA_is t.a _).mono ?_) | (with_reducible refine (wordA_is t.b _).mono ?_)); rintro e w9 ⟨rfl, hb9⟩; have HB := Lib.hid (HB.out.trans (hb9.mono HB.out.size)); replace e0 := (hb9.cell (p := ⟨w.heap.size, 0, none⟩) hbl).trans e0; replace e1 := (hb9.cell (p := ⟨w.heap.size, 1, none⟩) hbl).trans e1; replace e2 := (hb9.cell (p := ⟨w.heap.size, 2, none⟩) hbl).trans e2; replace e3 := (hb9.cell (p := ⟨w.heap.size, 3, none⟩) hbl).trans e3; replace e4 := (hb9.cell (p := ⟨w.heap.size, 4, none⟩) hbl).trans e4; replace e5 := (hb9.cell (p := ⟨w.heap.size, 5, none⟩) hbl).trans e5; replace e6 := (hb9.cell (p := ⟨w.heap.size, 6, none⟩) hbl).trans e6; replace e7 := (hb9.cell (p := ⟨w.heap.size, 7, none⟩) hbl).trans e7; replace e8 := (hb9.cell (p := ⟨w.heap.size, 8, none⟩) hbl).trans e8; replace hbl := Nat.lt_of_lt_of_le hbl hb9.size; clear hb9))
   go_ret
   exact ⟨by rw [HR.out] <;> rfl, by (first | exact HB.out | (exact (Below.refl _ _).alloc (Nat.le_refl _) _) | (simpa using HB.out))⟩
 by_cases c4 : atomB t.b = false
 · have t0 : decide (t.op < 0) = false := by simp; omega
   have t1 : decide (3 < t.op) = false := by simp; omega
   have t2 : atomB t.a = true := by simpa using c2
   have t3 : decide (t.op = 0) = false := by simp [*]
   have t3b : (t.op == 0) = false := by simp [*]
   have t4 := c4
   have HR := Lib.hid (show termB t = false by simp [termB, *])
   clear c0 c1 c2 c3 c4
   go_enter Tryz.func115, Tryz.ntmps115
   go_upto_region 1 with fail
   obtain ⟨W1, hW1⟩ : ∃ W1, W1 = w.alloc (.cells #[.int .i64 t.op, .string t.a.var, .int .i64 t.a.sym.kind, .string t.a.sym.text, .int .i64 t.a.sym.n, .string t.b.var, .int .i64 t.b.sym.kind, .string t.b.sym.text, .int .i64 t.b.sym.n] 27) := ⟨_, rfl⟩
   rw [← hW1]
   have hBk : Blk W1 w.heap.size 27 #[.int .i64 t.op, .string t.a.var, .int .i64 t.a.sym.kind, .string t.a.sym.text, .int .i64 t.a.sym.n, .string t.b.var, .int .i64 t.b.sym.kind, .string t.b.sym.text, .int .i64 t.b.sym.n] := by rw [hW1]; exact Blk.new _ _ _
   have HB := Lib.hid (show Below w.heap.size w W1 by rw [hW1]; exact (Below.refl _ _).alloc (Nat.le_refl _) _)
   have e0 : W1.cell? ⟨w.heap.size, 0, none⟩ = some (.int .i64 t.op) := (hBk.cell 0).trans rfl
   have e1 : W1.cell? ⟨w.heap.size, 1, none⟩ = some (.string t.a.var) := (hBk.cell 1).trans rfl
   have e2 : W1.cell? ⟨w.heap.size, 2, none⟩ = some (.int .i64 t.a.sym.kind) := (hBk.cell 2).trans rfl
   have e3 : W1.cell? ⟨w.heap.size, 3, none⟩ = some (.string t.a.sym.text) := (hBk.cell 3).trans rfl
   have e4 : W1.cell? ⟨w.heap.size, 4, none⟩ = some (.int .i64 t.a.sym.n) := (hBk.cell 4).trans rfl
   have e5 : W1.cell? ⟨w.heap.size, 5, none⟩ = some (.string t.b.var) := (hBk.cell 5).trans rfl
   have e6 : W1.cell? ⟨w.heap.size, 6, none⟩ = some (.int .i64 t.b.sym.kind) := (hBk.cell 6).trans rfl
   have e7 : W1.cell? ⟨w.heap.size, 7, none⟩ = some (.string t.b.sym.text) := (hBk.cell 7).trans rfl
   have e8 : W1.cell? ⟨w.heap.size, 8, none⟩ = some (.int .i64 t.b.sym.n) := (hBk.cell 8).trans rfl
   have hbl := hBk.lt
   clear hW1 hBk
   go_wp2_with (first
    | (go_at_call 117; refine (empty_is t.b _).mono ?_; rintro e w9 ⟨rfl, hb9⟩; have HB := Lib.hid (HB.out.trans (hb9.mono HB.out.size)); replace e0 := (hb9.cell (p := ⟨w.heap.size, 0, none⟩) hbl).trans e0; replace e1 := (hb9.cell (p := ⟨w.heap.size, 1, none⟩) hbl).trans e1; replace e2 := (hb9.cell (p := ⟨w.heap.size, 2, none⟩) hbl).trans e2; replace e3 := (hb9.cell (p := ⟨w.heap.size, 3, none⟩) hbl).trans e3; replace e4 := (hb9.cell (p := ⟨w.heap.size, 4, none⟩) hbl).trans e4; replace e5 := (hb9.cell (p := ⟨w.heap.size, 5, none⟩) hbl).trans e5; replace e6 := (hb9.cell (p := ⟨w.heap.size, 6, none⟩) hbl).trans e6; replace e7 := (hb9.cell (p := ⟨w.heap.size, 7, none⟩) hbl).trans e7; replace e8 := (hb9.cell (p := ⟨w.heap.size, 8, none⟩) hbl).trans e8; replace hbl := Nat.lt_of_lt_of_le hbl hb9.size; clear hb9)
    | (go_at_call 114; (first | (with_reducible refine (atomS_is t.a _).mono ?_) | (with_reducible refine (atomS_is t.b _).mono ?_)); rintro e w9 ⟨rfl, hb9⟩; have HB := Lib.hid (HB.out.trans (hb9.mono HB.out.size)); replace e0 := (hb9.cell (p := ⟨w.heap.size, 0, none⟩) hbl).trans e0; replace e1 := (hb9.cell (p := ⟨w.heap.size, 1, none⟩) hbl).trans e1; replace e2 := (hb9.cell (p := ⟨w.heap.size, 2, none⟩) hbl).trans e2; replace e3 := (hb9.cell (p := ⟨w.heap.size, 3, none⟩) hbl).trans e3; replace e4 := (hb9.cell (p := ⟨w.heap.size, 4, none⟩) hbl).trans e4; replace e5 := (hb9.cell (p := ⟨w.heap.size, 5, none⟩) hbl).trans e5; replace e6 := (hb9.cell (p := ⟨w.heap.size, 6, none⟩) hbl).trans e6; replace e7 := (hb9.cell (p := ⟨w.heap.size, 7, none⟩) hbl).trans e7; replace e8 := (hb9.cell (p := ⟨w.heap.size, 8, none⟩) hbl).trans e8; replace hbl := Nat.lt_of_lt_of_le hbl hb9.size; clear hb9)
    | (go_at_call 134; (first | (with_reducible refine (wordA_is t.a _).mono ?_) | (with_reducible refine (wordA_is t.b _).mono ?_)); rintro e w9 ⟨rfl, hb9⟩; have HB := Lib.hid (HB.out.trans (hb9.mono HB.out.size)); replace e0 := (hb9.cell (p := ⟨w.heap.size, 0, none⟩) hbl).trans e0; replace e1 := (hb9.cell (p := ⟨w.heap.size, 1, none⟩) hbl).trans e1; replace e2 := (hb9.cell (p := ⟨w.heap.size, 2, none⟩) hbl).trans e2; replace e3 := (hb9.cell (p := ⟨w.heap.size, 3, none⟩) hbl).trans e3; replace e4 := (hb9.cell (p := ⟨w.heap.size, 4, none⟩) hbl).trans e4; replace e5 := (hb9.cell (p := ⟨w.heap.size, 5, none⟩) hbl).trans e5; replace e6 := (hb9.cell (p := ⟨w.heap.size, 6, none⟩) hbl).trans e6; replace e7 := (hb9.cell (p := ⟨w.heap.size, 7, none⟩) hbl).trans e7; replace e8 := (hb9.cell (p := ⟨w.heap.size, 8, none⟩) hbl).trans e8; replace hbl := Nat.lt_of_lt_of_le hbl hb9.size; clear hb9))
   go_ret
   exact ⟨by rw [HR.out] <;> rfl, by (first | exact HB.out | (exact (Below.refl _ _).alloc (Nat.le_refl _) _) | (simpa using HB.out))⟩
 by_cases c5 : wordAB t.a = true
 · have t0 : decide (t.op < 0) = false := by simp; omega
   have t1 : decide (3 < t.op) = false := by simp; omega
   have t2 : atomB t.a = true := by simpa using c2
   have t3 : decide (t.op = 0) = false := by simp [*]
   have t3b : (t.op == 0) = false := by simp [*]
   have t4 : atomB t.b = true := by simpa using c4
   have t5 := c5
   have HR := Lib.hid (show termB t = false by simp [termB, *])
   clear c0 c1 c2 c3 c4 c5
   go_enter Tryz.func115, Tryz.ntmps115
   go_upto_region 1 with fail
   obtain ⟨W1, hW1⟩ : ∃ W1, W1 = w.alloc (.cells #[.int .i64 t.op, .string t.a.var, .int .i64 t.a.sym.kind, .string t.a.sym.text, .int .i64 t.a.sym.n, .string t.b.var, .int .i64 t.b.sym.kind, .string t.b.sym.text, .int .i64 t.b.sym.n] 27) := ⟨_, rfl⟩
   rw [← hW1]
   have hBk : Blk W1 w.heap.size 27 #[.int .i64 t.op, .string t.a.var, .int .i64 t.a.sym.kind, .string t.a.sym.text, .int .i64 t.a.sym.n, .string t.b.var, .int .i64 t.b.sym.kind, .string t.b.sym.text, .int .i64 t.b.sym.n] := by rw [hW1]; exact Blk.new _ _ _
   have HB := Lib.hid (show Below w.heap.size w W1 by rw [hW1]; exact (Below.refl _ _).alloc (Nat.le_refl _) _)
   have e0 : W1.cell? ⟨w.heap.size, 0, none⟩ = some (.int .i64 t.op) := (hBk.cell 0).trans rfl
   have e1 : W1.cell? ⟨w.heap.size, 1, none⟩ = some (.string t.a.var) := (hBk.cell 1).trans rfl
   have e2 : W1.cell? ⟨w.heap.size, 2, none⟩ = some (.int .i64 t.a.sym.kind) := (hBk.cell 2).trans rfl
   have e3 : W1.cell? ⟨w.heap.size, 3, none⟩ = some (.string t.a.sym.text) := (hBk.cell 3).trans rfl
   have e4 : W1.cell? ⟨w.heap.size, 4, none⟩ = some (.int .i64 t.a.sym.n) := (hBk.cell 4).trans rfl
   have e5 : W1.cell? ⟨w.heap.size, 5, none⟩ = some (.string t.b.var) := (hBk.cell 5).trans rfl
   have e6 : W1.cell? ⟨w.heap.size, 6, none⟩ = some (.int .i64 t.b.sym.kind) := (hBk.cell 6).trans rfl
   have e7 : W1.cell? ⟨w.heap.size, 7, none⟩ = some (.string t.b.sym.text) := (hBk.cell 7).trans rfl
   have e8 : W1.cell? ⟨w.heap.size, 8, none⟩ = some (.int .i64 t.b.sym.n) := (hBk.cell 8).trans rfl
   have hbl := hBk.lt
   clear hW1 hBk
   go_wp2_with (first
    | (go_at_call 117; refine (empty_is t.b _).mono ?_; rintro e w9 ⟨rfl, hb9⟩; have HB := Lib.hid (HB.out.trans (hb9.mono HB.out.size)); replace e0 := (hb9.cell (p := ⟨w.heap.size, 0, none⟩) hbl).trans e0; replace e1 := (hb9.cell (p := ⟨w.heap.size, 1, none⟩) hbl).trans e1; replace e2 := (hb9.cell (p := ⟨w.heap.size, 2, none⟩) hbl).trans e2; replace e3 := (hb9.cell (p := ⟨w.heap.size, 3, none⟩) hbl).trans e3; replace e4 := (hb9.cell (p := ⟨w.heap.size, 4, none⟩) hbl).trans e4; replace e5 := (hb9.cell (p := ⟨w.heap.size, 5, none⟩) hbl).trans e5; replace e6 := (hb9.cell (p := ⟨w.heap.size, 6, none⟩) hbl).trans e6; replace e7 := (hb9.cell (p := ⟨w.heap.size, 7, none⟩) hbl).trans e7; replace e8 := (hb9.cell (p := ⟨w.heap.size, 8, none⟩) hbl).trans e8; replace hbl := Nat.lt_of_lt_of_le hbl hb9.size; clear hb9)
    | (go_at_call 114; (first | (with_reducible refine (atomS_is t.a _).mono ?_) | (with_reducible refine (atomS_is t.b _).mono ?_)); rintro e w9 ⟨rfl, hb9⟩; have HB := Lib.hid (HB.out.trans (hb9.mono HB.out.size)); replace e0 := (hb9.cell (p := ⟨w.heap.size, 0, none⟩) hbl).trans e0; replace e1 := (hb9.cell (p := ⟨w.heap.size, 1, none⟩) hbl).trans e1; replace e2 := (hb9.cell (p := ⟨w.heap.size, 2, none⟩) hbl).trans e2; replace e3 := (hb9.cell (p := ⟨w.heap.size, 3, none⟩) hbl).trans e3; replace e4 := (hb9.cell (p := ⟨w.heap.size, 4, none⟩) hbl).trans e4; replace e5 := (hb9.cell (p := ⟨w.heap.size, 5, none⟩) hbl).trans e5; replace e6 := (hb9.cell (p := ⟨w.heap.size, 6, none⟩) hbl).trans e6; replace e7 := (hb9.cell (p := ⟨w.heap.size, 7, none⟩) hbl).trans e7; replace e8 := (hb9.cell (p := ⟨w.heap.size, 8, none⟩) hbl).trans e8; replace hbl := Nat.lt_of_lt_of_le hbl hb9.size; clear hb9)
    | (go_at_call 134; (first | (with_reducible refine (wordA_is t.a _).mono ?_) | (with_reducible refine (wordA_is t.b _).mono ?_)); rintro e w9 ⟨rfl, hb9⟩; have HB := Lib.hid (HB.out.trans (hb9.mono HB.out.size)); replace e0 := (hb9.cell (p := ⟨w.heap.size, 0, none⟩) hbl).trans e0; replace e1 := (hb9.cell (p := ⟨w.heap.size, 1, none⟩) hbl).trans e1; replace e2 := (hb9.cell (p := ⟨w.heap.size, 2, none⟩) hbl).trans e2; replace e3 := (hb9.cell (p := ⟨w.heap.size, 3, none⟩) hbl).trans e3; replace e4 := (hb9.cell (p := ⟨w.heap.size, 4, none⟩) hbl).trans e4; replace e5 := (hb9.cell (p := ⟨w.heap.size, 5, none⟩) hbl).trans e5; replace e6 := (hb9.cell (p := ⟨w.heap.size, 6, none⟩) hbl).trans e6; replace e7 := (hb9.cell (p := ⟨w.heap.size, 7, none⟩) hbl).trans e7; replace e8 := (hb9.cell (p := ⟨w.heap.size, 8, none⟩) hbl).trans e8; replace hbl := Nat.lt_of_lt_of_le hbl hb9.size; clear hb9))
   go_ret
   exact ⟨by rw [HR.out] <;> rfl, by (first | exact HB.out | (exact (Below.refl _ _).alloc (Nat.le_refl _) _) | (simpa using HB.out))⟩
 have t0 : decide (t.op < 0) = false := by simp; omega
 have t1 : decide (3 < t.op) = false := by simp; omega
 have t2 : atomB t.a = true := by simpa using c2
 have t3 : decide (t.op = 0) = false := by simp [*]
 have t3b : (t.op == 0) = false := by simp [*]
 have t4 : atomB t.b = true := by simpa using c4
 have t5 : wordAB t.a = false := by simpa using c5
 have HR := Lib.hid (show termB t = (!wordAB t.b) by simp [termB, *])
 clear c0 c1 c2 c3 c4 c5
 go_enter Tryz.func115, Tryz.ntmps115
 go_upto_region 1 with fail
 obtain ⟨W1, hW1⟩ : ∃ W1, W1 = w.alloc (.cells #[.int .i64 t.op, .string t.a.var, .int .i64 t.a.sym.kind, .string t.a.sym.text, .int .i64 t.a.sym.n, .string t.b.var, .int .i64 t.b.sym.kind, .string t.b.sym.text, .int .i64 t.b.sym.n] 27) := ⟨_, rfl⟩
 rw [← hW1]
 have hBk : Blk W1 w.heap.size 27 #[.int .i64 t.op, .string t.a.var, .int .i64 t.a.sym.kind, .string t.a.sym.text, .int .i64 t.a.sym.n, .string t.b.var, .int .i64 t.b.sym.kind, .string t.b.sym.text, .int .i64 t.b.sym.n] := by rw [hW1]; exact Blk.new _ _ _
 have HB := Lib.hid (show Below w.heap.size w W1 by rw [hW1]; exact (Below.refl _ _).alloc (Nat.le_refl _) _)
 have e0 : W1.cell? ⟨w.heap.size, 0, none⟩ = some (.int .i64 t.op) := (hBk.cell 0).trans rfl
 have e1 : W1.cell? ⟨w.heap.size, 1, none⟩ = some (.string t.a.var) := (hBk.cell 1).trans rfl
 have e2 : W1.cell? ⟨w.heap.size, 2, none⟩ = some (.int .i64 t.a.sym.kind) := (hBk.cell 2).trans rfl
 have e3 : W1.cell? ⟨w.heap.size, 3, none⟩ = some (.string t.a.sym.text) := (hBk.cell 3).trans rfl
 have e4 : W1.cell? ⟨w.heap.size, 4, none⟩ = some (.int .i64 t.a.sym.n) := (hBk.cell 4).trans rfl
 have e5 : W1.cell? ⟨w.heap.size, 5, none⟩ = some (.string t.b.var) := (hBk.cell 5).trans rfl
 have e6 : W1.cell? ⟨w.heap.size, 6, none⟩ = some (.int .i64 t.b.sym.kind) := (hBk.cell 6).trans rfl
 have e7 : W1.cell? ⟨w.heap.size, 7, none⟩ = some (.string t.b.sym.text) := (hBk.cell 7).trans rfl
 have e8 : W1.cell? ⟨w.heap.size, 8, none⟩ = some (.int .i64 t.b.sym.n) := (hBk.cell 8).trans rfl
 have hbl := hBk.lt
 clear hW1 hBk
 go_wp2_with (first
  | (go_at_call 117; refine (empty_is t.b _).mono ?_; rintro e w9 ⟨rfl, hb9⟩; have HB := Lib.hid (HB.out.trans (hb9.mono HB.out.size)); replace e0 := (hb9.cell (p := ⟨w.heap.size, 0, none⟩) hbl).trans e0; replace e1 := (hb9.cell (p := ⟨w.heap.size, 1, none⟩) hbl).trans e1; replace e2 := (hb9.cell (p := ⟨w.heap.size, 2, none⟩) hbl).trans e2; replace e3 := (hb9.cell (p := ⟨w.heap.size, 3, none⟩) hbl).trans e3; replace e4 := (hb9.cell (p := ⟨w.heap.size, 4, none⟩) hbl).trans e4; replace e5 := (hb9.cell (p := ⟨w.heap.size, 5, none⟩) hbl).trans e5; replace e6 := (hb9.cell (p := ⟨w.heap.size, 6, none⟩) hbl).trans e6; replace e7 := (hb9.cell (p := ⟨w.heap.size, 7, none⟩) hbl).trans e7; replace e8 := (hb9.cell (p := ⟨w.heap.size, 8, none⟩) hbl).trans e8; replace hbl := Nat.lt_of_lt_of_le hbl hb9.size; clear hb9)
  | (go_at_call 114; (first | (with_reducible refine (atomS_is t.a _).mono ?_) | (with_reducible refine (atomS_is t.b _).mono ?_)); rintro e w9 ⟨rfl, hb9⟩; have HB := Lib.hid (HB.out.trans (hb9.mono HB.out.size)); replace e0 := (hb9.cell (p := ⟨w.heap.size, 0, none⟩) hbl).trans e0; replace e1 := (hb9.cell (p := ⟨w.heap.size, 1, none⟩) hbl).trans e1; replace e2 := (hb9.cell (p := ⟨w.heap.size, 2, none⟩) hbl).trans e2; replace e3 := (hb9.cell (p := ⟨w.heap.size, 3, none⟩) hbl).trans e3; replace e4 := (hb9.cell (p := ⟨w.heap.size, 4, none⟩) hbl).trans e4; replace e5 := (hb9.cell (p := ⟨w.heap.size, 5, none⟩) hbl).trans e5; replace e6 := (hb9.cell (p := ⟨w.heap.size, 6, none⟩) hbl).trans e6; replace e7 := (hb9.cell (p := ⟨w.heap.size, 7, none⟩) hbl).trans e7; replace e8 := (hb9.cell (p := ⟨w.heap.size, 8, none⟩) hbl).trans e8; replace hbl := Nat.lt_of_lt_of_le hbl hb9.size; clear hb9)
  | (go_at_call 134; (first | (with_reducible refine (wordA_is t.a _).mono ?_) | (with_reducible refine (wordA_is t.b _).mono ?_)); rintro e w9 ⟨rfl, hb9⟩; have HB := Lib.hid (HB.out.trans (hb9.mono HB.out.size)); replace e0 := (hb9.cell (p := ⟨w.heap.size, 0, none⟩) hbl).trans e0; replace e1 := (hb9.cell (p := ⟨w.heap.size, 1, none⟩) hbl).trans e1; replace e2 := (hb9.cell (p := ⟨w.heap.size, 2, none⟩) hbl).trans e2; replace e3 := (hb9.cell (p := ⟨w.heap.size, 3, none⟩) hbl).trans e3; replace e4 := (hb9.cell (p := ⟨w.heap.size, 4, none⟩) hbl).trans e4; replace e5 := (hb9.cell (p := ⟨w.heap.size, 5, none⟩) hbl).trans e5; replace e6 := (hb9.cell (p := ⟨w.heap.size, 6, none⟩) hbl).trans e6; replace e7 := (hb9.cell (p := ⟨w.heap.size, 7, none⟩) hbl).trans e7; replace e8 := (hb9.cell (p := ⟨w.heap.size, 8, none⟩) hbl).trans e8; replace hbl := Nat.lt_of_lt_of_le hbl hb9.size; clear hb9))
 go_ret
 exact ⟨by rw [HR.out] <;> rfl, by (first | exact HB.out | (exact (Below.refl _ _).alloc (Nat.le_refl _) _) | (simpa using HB.out))⟩
end Go.Proofs.YtpndmjabjjbefaaGreat
namespace Go.Proofs.YtpndmjabjjbefaaGreat
open Go.RowKit Go.Shelf
set_option maxRecDepth 100000 in
set_option maxHeartbeats 8000000 in
theorem test_is (t : TestT) (A : Option Addr) (c : Nat) (w : World) (hrd : RowRd w 3 Sym.cells A c t.list) : Calls Tryz.prog 131 #[.agg #[.int .i64 t.rel, .string t.var, .int .i64 t.sym.kind, .string t.sym.text, .int .i64 t.sym.n, .slice A t.list.length c]] w fun e w' => e = .returned (.bool (testB t)) ∧ Below w.heap.size w w' := by
 have HRD := Lib.hid hrd
 have hlc := hrd.cap
 clear hrd
 by_cases h8 : t.rel = 8
 · by_cases hv : t.var.toList = []
   · by_cases hn : noneB t.sym = false
     · have r1 : (t.rel == 8) = true := by simp [h8]
       have r2 : decide (t.rel = 8) = true := by simp [h8]
       have v1 : (t.var.toList == []) = true := by simp [hv]
       have v2 : t.var.toList.isEmpty = true := by simp [hv]
       have v3 : decide (t.var.toList = []) = true := by simp [hv]
       have n1 := hn
       have HR := Lib.hid (show testB t = false by simp [testB, *])
       clear h8 hv hn
       go_enter Tryz.func131, Tryz.ntmps131
       go_upto_region 1 with fail
       obtain ⟨W1, hW1⟩ : ∃ W1, W1 = w.alloc (.cells #[.int .i64 t.rel, .string t.var, .int .i64 t.sym.kind, .string t.sym.text, .int .i64 t.sym.n, .slice A t.list.length c] 59) := ⟨_, rfl⟩
       rw [← hW1]
       have hBk : Blk W1 w.heap.size 59 #[.int .i64 t.rel, .string t.var, .int .i64 t.sym.kind, .string t.sym.text, .int .i64 t.sym.n, .slice A t.list.length c] := by rw [hW1]; exact Blk.new _ _ _
       have HB := Lib.hid (show Below w.heap.size w W1 by rw [hW1]; exact (Below.refl _ _).alloc (Nat.le_refl _) _)
       have e0 : W1.cell? ⟨w.heap.size, 0, none⟩ = some (.int .i64 t.rel) := (hBk.cell 0).trans rfl
       have e1 : W1.cell? ⟨w.heap.size, 1, none⟩ = some (.string t.var) := (hBk.cell 1).trans rfl
       have e2 : W1.cell? ⟨w.heap.size, 2, none⟩ = some (.int .i64 t.sym.kind) := (hBk.cell 2).trans rfl
       have e3 : W1.cell? ⟨w.heap.size, 3, none⟩ = some (.string t.sym.text) := (hBk.cell 3).trans rfl
       have e4 : W1.cell? ⟨w.heap.size, 4, none⟩ = some (.int .i64 t.sym.n) := (hBk.cell 4).trans rfl
       have e5 : W1.cell? ⟨w.heap.size, 5, none⟩ = some (.slice A t.list.length c) := (hBk.cell 5).trans rfl
       have hbl := hBk.lt
       clear hW1 hBk
       go_wp2_with (first | (go_at_call 132; refine (none_is t.sym _).mono ?_; rintro e w9 ⟨rfl, hb9⟩; have HB := Lib.hid (HB.out.trans (hb9.mono HB.out.size)); replace e0 := (hb9.cell (p := ⟨w.heap.size, 0, none⟩) hbl).trans e0; replace e1 := (hb9.cell (p := ⟨w.heap.size, 1, none⟩) hbl).trans e1; replace e2 := (hb9.cell (p := ⟨w.heap.size, 2, none⟩) hbl).trans e2; replace e3 := (hb9.cell (p := ⟨w.heap.size, 3, none⟩) hbl).trans e3; replace e4 := (hb9.cell (p := ⟨w.heap.size, 4, none⟩) hbl).trans e4; replace e5 := (hb9.cell (p := ⟨w.heap.size, 5, none⟩) hbl).trans e5; replace hbl := Nat.lt_of_lt_of_le hbl hb9.size; clear hb9) | (go_at_call 133; refine (constant_is t.sym _).mono ?_; rintro e w9 ⟨rfl, hb9⟩; have HB := Lib.hid (HB.out.trans (hb9.mono HB.out.size)); replace e0 := (hb9.cell (p := ⟨w.heap.size, 0, none⟩) hbl).trans e0; replace e1 := (hb9.cell (p := ⟨w.heap.size, 1, none⟩) hbl).trans e1; replace e2 := (hb9.cell (p := ⟨w.heap.size, 2, none⟩) hbl).trans e2; replace e3 := (hb9.cell (p := ⟨w.heap.size, 3, none⟩) hbl).trans e3; replace e4 := (hb9.cell (p := ⟨w.heap.size, 4, none⟩) hbl).trans e4; replace e5 := (hb9.cell (p := ⟨w.heap.size, 5, none⟩) hbl).trans e5; replace hbl := Nat.lt_of_lt_of_le hbl hb9.size; clear hb9) | (go_at_call 81; refine (word_is t.var _).mono ?_; rintro e w9 ⟨rfl, rfl⟩))
       go_ret
       exact ⟨by rw [HR.out] <;> rfl, HB.out⟩
     by_cases h1 : t.list.length < 1
     · have r1 : (t.rel == 8) = true := by simp [h8]
       have r2 : decide (t.rel = 8) = true := by simp [h8]
       have v1 : (t.var.toList == []) = true := by simp [hv]
       have v2 : t.var.toList.isEmpty = true := by simp [hv]
       have v3 : decide (t.var.toList = []) = true := by simp [hv]
       have n1 : noneB t.sym = true := by simpa using hn
       have l1 : decide ((t.list.length : Int) < 1) = true := decide_eq_true (by omega)
       have l2 : decide (t.list.length < 1) = true := decide_eq_true (by omega)
       have l3 : t.list.length = 0 := by omega
       have l4 := l3
       have HR := Lib.hid (show testB t = false by simp [testB, *])
       clear h8 hv hn h1 l3 l4
       go_enter Tryz.func131, Tryz.ntmps131
       go_upto_region 1 with fail
       obtain ⟨W1, hW1⟩ : ∃ W1, W1 = w.alloc (.cells #[.int .i64 t.rel, .string t.var, .int .i64 t.sym.kind, .string t.sym.text, .int .i64 t.sym.n, .slice A t.list.length c] 59) := ⟨_, rfl⟩
       rw [← hW1]
       have hBk : Blk W1 w.heap.size 59 #[.int .i64 t.rel, .string t.var, .int .i64 t.sym.kind, .string t.sym.text, .int .i64 t.sym.n, .slice A t.list.length c] := by rw [hW1]; exact Blk.new _ _ _
       have HB := Lib.hid (show Below w.heap.size w W1 by rw [hW1]; exact (Below.refl _ _).alloc (Nat.le_refl _) _)
       have e0 : W1.cell? ⟨w.heap.size, 0, none⟩ = some (.int .i64 t.rel) := (hBk.cell 0).trans rfl
       have e1 : W1.cell? ⟨w.heap.size, 1, none⟩ = some (.string t.var) := (hBk.cell 1).trans rfl
       have e2 : W1.cell? ⟨w.heap.size, 2, none⟩ = some (.int .i64 t.sym.kind) := (hBk.cell 2).trans rfl
       have e3 : W1.cell? ⟨w.heap.size, 3, none⟩ = some (.string t.sym.text) := (hBk.cell 3).trans rfl
       have e4 : W1.cell? ⟨w.heap.size, 4, none⟩ = some (.int .i64 t.sym.n) := (hBk.cell 4).trans rfl
       have e5 : W1.cell? ⟨w.heap.size, 5, none⟩ = some (.slice A t.list.length c) := (hBk.cell 5).trans rfl
       have hbl := hBk.lt
       clear hW1 hBk
       go_wp2_with (first | (go_at_call 132; refine (none_is t.sym _).mono ?_; rintro e w9 ⟨rfl, hb9⟩; have HB := Lib.hid (HB.out.trans (hb9.mono HB.out.size)); replace e0 := (hb9.cell (p := ⟨w.heap.size, 0, none⟩) hbl).trans e0; replace e1 := (hb9.cell (p := ⟨w.heap.size, 1, none⟩) hbl).trans e1; replace e2 := (hb9.cell (p := ⟨w.heap.size, 2, none⟩) hbl).trans e2; replace e3 := (hb9.cell (p := ⟨w.heap.size, 3, none⟩) hbl).trans e3; replace e4 := (hb9.cell (p := ⟨w.heap.size, 4, none⟩) hbl).trans e4; replace e5 := (hb9.cell (p := ⟨w.heap.size, 5, none⟩) hbl).trans e5; replace hbl := Nat.lt_of_lt_of_le hbl hb9.size; clear hb9) | (go_at_call 133; refine (constant_is t.sym _).mono ?_; rintro e w9 ⟨rfl, hb9⟩; have HB := Lib.hid (HB.out.trans (hb9.mono HB.out.size)); replace e0 := (hb9.cell (p := ⟨w.heap.size, 0, none⟩) hbl).trans e0; replace e1 := (hb9.cell (p := ⟨w.heap.size, 1, none⟩) hbl).trans e1; replace e2 := (hb9.cell (p := ⟨w.heap.size, 2, none⟩) hbl).trans e2; replace e3 := (hb9.cell (p := ⟨w.heap.size, 3, none⟩) hbl).trans e3; replace e4 := (hb9.cell (p := ⟨w.heap.size, 4, none⟩) hbl).trans e4; replace e5 := (hb9.cell (p := ⟨w.heap.size, 5, none⟩) hbl).trans e5; replace hbl := Nat.lt_of_lt_of_le hbl hb9.size; clear hb9) | (go_at_call 81; refine (word_is t.var _).mono ?_; rintro e w9 ⟨rfl, rfl⟩))
       go_ret
       exact ⟨by rw [HR.out] <;> rfl, HB.out⟩
     by_cases h9 : 8 < t.list.length
     · have r1 : (t.rel == 8) = true := by simp [h8]
       have r2 : decide (t.rel = 8) = true := by simp [h8]
       have v1 : (t.var.toList == []) = true := by simp [hv]
       have v2 : t.var.toList.isEmpty = true := by simp [hv]
       have v3 : decide (t.var.toList = []) = true := by simp [hv]
       have n1 : noneB t.sym = true := by simpa using hn
       have l1 : decide ((t.list.length : Int) < 1) = false := decide_eq_false (by omega)
       have l2 : decide (t.list.length < 1) = false := decide_eq_false (by omega)
       have l3 : decide ((8 : Int) < (t.list.length : Int)) = true := decide_eq_true (by omega)
       have l4 : decide (8 < t.list.length) = true := decide_eq_true (by omega)
       have l5 : ¬ t.list.length ≤ 8 := by omega
       have HR := Lib.hid (show testB t = false by simp [testB, *])
       clear h8 hv hn h1 h9 l5
       go_enter Tryz.func131, Tryz.ntmps131
       go_upto_region 1 with fail
       obtain ⟨W1, hW1⟩ : ∃ W1, W1 = w.alloc (.cells #[.int .i64 t.rel, .string t.var, .int .i64 t.sym.kind, .string t.sym.text, .int .i64 t.sym.n, .slice A t.list.length c] 59) := ⟨_, rfl⟩
       rw [← hW1]
       have hBk : Blk W1 w.heap.size 59 #[.int .i64 t.rel, .string t.var, .int .i64 t.sym.kind, .string t.sym.text, .int .i64 t.sym.n, .slice A t.list.length c] := by rw [hW1]; exact Blk.new _ _ _
       have HB := Lib.hid (show Below w.heap.size w W1 by rw [hW1]; exact (Below.refl _ _).alloc (Nat.le_refl _) _)
       have e0 : W1.cell? ⟨w.heap.size, 0, none⟩ = some (.int .i64 t.rel) := (hBk.cell 0).trans rfl
       have e1 : W1.cell? ⟨w.heap.size, 1, none⟩ = some (.string t.var) := (hBk.cell 1).trans rfl
       have e2 : W1.cell? ⟨w.heap.size, 2, none⟩ = some (.int .i64 t.sym.kind) := (hBk.cell 2).trans rfl
       have e3 : W1.cell? ⟨w.heap.size, 3, none⟩ = some (.string t.sym.text) := (hBk.cell 3).trans rfl
       have e4 : W1.cell? ⟨w.heap.size, 4, none⟩ = some (.int .i64 t.sym.n) := (hBk.cell 4).trans rfl
       have e5 : W1.cell? ⟨w.heap.size, 5, none⟩ = some (.slice A t.list.length c) := (hBk.cell 5).trans rfl
       have hbl := hBk.lt
       clear hW1 hBk
       go_wp2_with (first | (go_at_call 132; refine (none_is t.sym _).mono ?_; rintro e w9 ⟨rfl, hb9⟩; have HB := Lib.hid (HB.out.trans (hb9.mono HB.out.size)); replace e0 := (hb9.cell (p := ⟨w.heap.size, 0, none⟩) hbl).trans e0; replace e1 := (hb9.cell (p := ⟨w.heap.size, 1, none⟩) hbl).trans e1; replace e2 := (hb9.cell (p := ⟨w.heap.size, 2, none⟩) hbl).trans e2; replace e3 := (hb9.cell (p := ⟨w.heap.size, 3, none⟩) hbl).trans e3; replace e4 := (hb9.cell (p := ⟨w.heap.size, 4, none⟩) hbl).trans e4; replace e5 := (hb9.cell (p := ⟨w.heap.size, 5, none⟩) hbl).trans e5; replace hbl := Nat.lt_of_lt_of_le hbl hb9.size; clear hb9) | (go_at_call 133; refine (constant_is t.sym _).mono ?_; rintro e w9 ⟨rfl, hb9⟩; have HB := Lib.hid (HB.out.trans (hb9.mono HB.out.size)); replace e0 := (hb9.cell (p := ⟨w.heap.size, 0, none⟩) hbl).trans e0; replace e1 := (hb9.cell (p := ⟨w.heap.size, 1, none⟩) hbl).trans e1; replace e2 := (hb9.cell (p := ⟨w.heap.size, 2, none⟩) hbl).trans e2; replace e3 := (hb9.cell (p := ⟨w.heap.size, 3, none⟩) hbl).trans e3; replace e4 := (hb9.cell (p := ⟨w.heap.size, 4, none⟩) hbl).trans e4; replace e5 := (hb9.cell (p := ⟨w.heap.size, 5, none⟩) hbl).trans e5; replace hbl := Nat.lt_of_lt_of_le hbl hb9.size; clear hb9) | (go_at_call 81; refine (word_is t.var _).mono ?_; rintro e w9 ⟨rfl, rfl⟩))
       go_ret
       exact ⟨by rw [HR.out] <;> rfl, HB.out⟩
     have r1 : (t.rel == 8) = true := by simp [h8]
     have r2 : decide (t.rel = 8) = true := by simp [h8]
     have v1 : (t.var.toList == []) = true := by simp [hv]
     have v2 : t.var.toList.isEmpty = true := by simp [hv]
     have v3 : decide (t.var.toList = []) = true := by simp [hv]
     have n1 : noneB t.sym = true := by simpa using hn
     have l1 : decide ((t.list.length : Int) < 1) = false := decide_eq_false (by omega)
     have l2 : decide (t.list.length < 1) = false := decide_eq_false (by omega)
     have l3 : decide ((8 : Int) < (t.list.length : Int)) = false := decide_eq_false (by omega)
     have l4 : decide (8 < t.list.length) = false := decide_eq_false (by omega)
     have l5 : t.list.length ≤ 8 := by omega
     have l6 : 1 ≤ t.list.length := by omega
     have HR := Lib.hid (show testB t = t.list.all constB by simp [testB, *])
     clear h8 hv hn h1 h9 l5 l6
     go_enter Tryz.func131, Tryz.ntmps131
     go_upto_region 1 with fail
     obtain ⟨W1, hW1⟩ : ∃ W1, W1 = w.alloc (.cells #[.int .i64 t.rel, .string t.var, .int .i64 t.sym.kind, .string t.sym.text, .int .i64 t.sym.n, .slice A t.list.length c] 59) := ⟨_, rfl⟩
     rw [← hW1]
     have hBk : Blk W1 w.heap.size 59 #[.int .i64 t.rel, .string t.var, .int .i64 t.sym.kind, .string t.sym.text, .int .i64 t.sym.n, .slice A t.list.length c] := by rw [hW1]; exact Blk.new _ _ _
     have HB := Lib.hid (show Below w.heap.size w W1 by rw [hW1]; exact (Below.refl _ _).alloc (Nat.le_refl _) _)
     have e0 : W1.cell? ⟨w.heap.size, 0, none⟩ = some (.int .i64 t.rel) := (hBk.cell 0).trans rfl
     have e1 : W1.cell? ⟨w.heap.size, 1, none⟩ = some (.string t.var) := (hBk.cell 1).trans rfl
     have e2 : W1.cell? ⟨w.heap.size, 2, none⟩ = some (.int .i64 t.sym.kind) := (hBk.cell 2).trans rfl
     have e3 : W1.cell? ⟨w.heap.size, 3, none⟩ = some (.string t.sym.text) := (hBk.cell 3).trans rfl
     have e4 : W1.cell? ⟨w.heap.size, 4, none⟩ = some (.int .i64 t.sym.n) := (hBk.cell 4).trans rfl
     have e5 : W1.cell? ⟨w.heap.size, 5, none⟩ = some (.slice A t.list.length c) := (hBk.cell 5).trans rfl
     have hbl := hBk.lt
     clear hW1 hBk
     go_wp2_with (first | (go_at_call 132; refine (none_is t.sym _).mono ?_; rintro e w9 ⟨rfl, hb9⟩; have HB := Lib.hid (HB.out.trans (hb9.mono HB.out.size)); replace e0 := (hb9.cell (p := ⟨w.heap.size, 0, none⟩) hbl).trans e0; replace e1 := (hb9.cell (p := ⟨w.heap.size, 1, none⟩) hbl).trans e1; replace e2 := (hb9.cell (p := ⟨w.heap.size, 2, none⟩) hbl).trans e2; replace e3 := (hb9.cell (p := ⟨w.heap.size, 3, none⟩) hbl).trans e3; replace e4 := (hb9.cell (p := ⟨w.heap.size, 4, none⟩) hbl).trans e4; replace e5 := (hb9.cell (p := ⟨w.heap.size, 5, none⟩) hbl).trans e5; replace hbl := Nat.lt_of_lt_of_le hbl hb9.size; clear hb9) | (go_at_call 133; refine (constant_is t.sym _).mono ?_; rintro e w9 ⟨rfl, hb9⟩; have HB := Lib.hid (HB.out.trans (hb9.mono HB.out.size)); replace e0 := (hb9.cell (p := ⟨w.heap.size, 0, none⟩) hbl).trans e0; replace e1 := (hb9.cell (p := ⟨w.heap.size, 1, none⟩) hbl).trans e1; replace e2 := (hb9.cell (p := ⟨w.heap.size, 2, none⟩) hbl).trans e2; replace e3 := (hb9.cell (p := ⟨w.heap.size, 3, none⟩) hbl).trans e3; replace e4 := (hb9.cell (p := ⟨w.heap.size, 4, none⟩) hbl).trans e4; replace e5 := (hb9.cell (p := ⟨w.heap.size, 5, none⟩) hbl).trans e5; replace hbl := Nat.lt_of_lt_of_le hbl hb9.size; clear hb9) | (go_at_call 81; refine (word_is t.var _).mono ?_; rintro e w9 ⟨rfl, rfl⟩))
     clear e0 e1 e2 e3 e4 e5
     have HBX := Lib.hid HB.out
     go_loopw [32] (fun s wr => ∃ i : Nat, s = .int .i64 i ∧ i ≤ t.list.length ∧ (∀ k, (h : k < t.list.length) → k < i → constB t.list[k] = true) ∧ Below w.heap.size w wr) (fun s wr => t.list.length - (intOf s).toNat)
     case atStart => exact ⟨0, rfl, Nat.zero_le _, fun k _ h => absurd h (by omega), HBX.out⟩
     case round =>
      obtain ⟨i, rfl, hi, hall, hB⟩ := hrel
      have HALL := Lib.hid hall
      have HBr := Lib.hid hB
      clear hall hB
      by_cases hlt : i < t.list.length
      · obtain ⟨y, hy⟩ : ∃ y, y = t.list[i] := ⟨_, rfl⟩
        obtain ⟨g, off, rfl, hg, q0, q1, q2⟩ := sym_at (HRD.out.new_ HBr.out) hlt
        rw [← hy] at q0 q1 q2
        have HY := Lib.hid hy
        have b1 : (0 : Int) ≤ (i : Int) := by omega
        have b2 : (i : Int) < (t.list.length : Int) := by omega
        have hzr := HBr.out.size
        clear hy
        go_wp2_with fail
        refine (constant_is y _).mono ?_
        rintro e w9 ⟨rfl, hb9⟩
        have HB9 := Lib.hid (HBr.out.trans ((Below.trans (show Below wr.heap.size wr _ from (by (repeat (first | exact Below.refl _ _ | refine Below.drew ?_ | refine Below.al ?_ _ | refine Below.sc ?_ _)))) (hb9.mono (by simp)) : Below wr.heap.size wr w9).mono hzr))
        clear hb9 q0 q1 q2
        cases hcb : constB y
        · have HRf := Lib.hid (show t.list.all constB = false from List.all_eq_false.2 ⟨y, by rw [HY.out]; exact List.getElem_mem hlt, by rw [hcb]; simp⟩)
          clear hcb
          go_wp2_with fail
          go_ret
          exact ⟨by rw [HR.out, HRf.out] <;> rfl, HB9.out⟩
        · have HCB := Lib.hid hcb
          clear hcb
          go_wp2_with fail
          go_roundw
          case rel => exact ⟨i + 1, by go_num, by omega, fun k hk hki => by
           by_cases e : k = i
           · subst e; rw [← HY.out]; exact HCB.out
           · exact HALL.out k hk (by omega), HB9.out⟩
          case measure => simp [intOf] <;> omega
      · have hie : i = t.list.length := by omega
        subst hie
        have HRt := Lib.hid (show t.list.all constB = true from List.all_eq_true.2 (fun x hx => by
         obtain ⟨k, hk, rfl⟩ := List.getElem_of_mem hx
         exact HALL.out k hk hk))
        go_wp2_with fail
        go_ret
        exact ⟨by rw [HR.out, HRt.out] <;> rfl, HBr.out⟩
   · have r1 : (t.rel == 8) = true := by simp [h8]
     have r2 : decide (t.rel = 8) = true := by simp [h8]
     have v1 : (t.var.toList == []) = false := by simp [hv]
     have v2 : t.var.toList.isEmpty = false := by simp [hv]
     have v3 : decide (t.var.toList = []) = false := by simp [hv]
     have HR := Lib.hid (show testB t = false by simp [testB, *])
     clear h8 hv
     go_enter Tryz.func131, Tryz.ntmps131
     go_upto_region 1 with fail
     obtain ⟨W1, hW1⟩ : ∃ W1, W1 = w.alloc (.cells #[.int .i64 t.rel, .string t.var, .int .i64 t.sym.kind, .string t.sym.text, .int .i64 t.sym.n, .slice A t.list.length c] 59) := ⟨_, rfl⟩
     rw [← hW1]
     have hBk : Blk W1 w.heap.size 59 #[.int .i64 t.rel, .string t.var, .int .i64 t.sym.kind, .string t.sym.text, .int .i64 t.sym.n, .slice A t.list.length c] := by rw [hW1]; exact Blk.new _ _ _
     have HB := Lib.hid (show Below w.heap.size w W1 by rw [hW1]; exact (Below.refl _ _).alloc (Nat.le_refl _) _)
     have e0 : W1.cell? ⟨w.heap.size, 0, none⟩ = some (.int .i64 t.rel) := (hBk.cell 0).trans rfl
     have e1 : W1.cell? ⟨w.heap.size, 1, none⟩ = some (.string t.var) := (hBk.cell 1).trans rfl
     have e2 : W1.cell? ⟨w.heap.size, 2, none⟩ = some (.int .i64 t.sym.kind) := (hBk.cell 2).trans rfl
     have e3 : W1.cell? ⟨w.heap.size, 3, none⟩ = some (.string t.sym.text) := (hBk.cell 3).trans rfl
     have e4 : W1.cell? ⟨w.heap.size, 4, none⟩ = some (.int .i64 t.sym.n) := (hBk.cell 4).trans rfl
     have e5 : W1.cell? ⟨w.heap.size, 5, none⟩ = some (.slice A t.list.length c) := (hBk.cell 5).trans rfl
     have hbl := hBk.lt
     clear hW1 hBk
     go_wp2_with (first | (go_at_call 132; refine (none_is t.sym _).mono ?_; rintro e w9 ⟨rfl, hb9⟩; have HB := Lib.hid (HB.out.trans (hb9.mono HB.out.size)); replace e0 := (hb9.cell (p := ⟨w.heap.size, 0, none⟩) hbl).trans e0; replace e1 := (hb9.cell (p := ⟨w.heap.size, 1, none⟩) hbl).trans e1; replace e2 := (hb9.cell (p := ⟨w.heap.size, 2, none⟩) hbl).trans e2; replace e3 := (hb9.cell (p := ⟨w.heap.size, 3, none⟩) hbl).trans e3; replace e4 := (hb9.cell (p := ⟨w.heap.size, 4, none⟩) hbl).trans e4; replace e5 := (hb9.cell (p := ⟨w.heap.size, 5, none⟩) hbl).trans e5; replace hbl := Nat.lt_of_lt_of_le hbl hb9.size; clear hb9) | (go_at_call 133; refine (constant_is t.sym _).mono ?_; rintro e w9 ⟨rfl, hb9⟩; have HB := Lib.hid (HB.out.trans (hb9.mono HB.out.size)); replace e0 := (hb9.cell (p := ⟨w.heap.size, 0, none⟩) hbl).trans e0; replace e1 := (hb9.cell (p := ⟨w.heap.size, 1, none⟩) hbl).trans e1; replace e2 := (hb9.cell (p := ⟨w.heap.size, 2, none⟩) hbl).trans e2; replace e3 := (hb9.cell (p := ⟨w.heap.size, 3, none⟩) hbl).trans e3; replace e4 := (hb9.cell (p := ⟨w.heap.size, 4, none⟩) hbl).trans e4; replace e5 := (hb9.cell (p := ⟨w.heap.size, 5, none⟩) hbl).trans e5; replace hbl := Nat.lt_of_lt_of_le hbl hb9.size; clear hb9) | (go_at_call 81; refine (word_is t.var _).mono ?_; rintro e w9 ⟨rfl, rfl⟩))
     go_ret
     exact ⟨by rw [HR.out] <;> rfl, HB.out⟩
 by_cases h1 : t.rel < 1
 · have r1 : (t.rel == 8) = false := by simp [h8]
   have r2 : decide (t.rel = 8) = false := by simp [h8]
   have r3 : decide (t.rel < 1) = true := decide_eq_true (by omega)
   have HR := Lib.hid (show testB t = false by simp [testB, *])
   clear h8 h1
   go_enter Tryz.func131, Tryz.ntmps131
   go_upto_region 1 with fail
   obtain ⟨W1, hW1⟩ : ∃ W1, W1 = w.alloc (.cells #[.int .i64 t.rel, .string t.var, .int .i64 t.sym.kind, .string t.sym.text, .int .i64 t.sym.n, .slice A t.list.length c] 59) := ⟨_, rfl⟩
   rw [← hW1]
   have hBk : Blk W1 w.heap.size 59 #[.int .i64 t.rel, .string t.var, .int .i64 t.sym.kind, .string t.sym.text, .int .i64 t.sym.n, .slice A t.list.length c] := by rw [hW1]; exact Blk.new _ _ _
   have HB := Lib.hid (show Below w.heap.size w W1 by rw [hW1]; exact (Below.refl _ _).alloc (Nat.le_refl _) _)
   have e0 : W1.cell? ⟨w.heap.size, 0, none⟩ = some (.int .i64 t.rel) := (hBk.cell 0).trans rfl
   have e1 : W1.cell? ⟨w.heap.size, 1, none⟩ = some (.string t.var) := (hBk.cell 1).trans rfl
   have e2 : W1.cell? ⟨w.heap.size, 2, none⟩ = some (.int .i64 t.sym.kind) := (hBk.cell 2).trans rfl
   have e3 : W1.cell? ⟨w.heap.size, 3, none⟩ = some (.string t.sym.text) := (hBk.cell 3).trans rfl
   have e4 : W1.cell? ⟨w.heap.size, 4, none⟩ = some (.int .i64 t.sym.n) := (hBk.cell 4).trans rfl
   have e5 : W1.cell? ⟨w.heap.size, 5, none⟩ = some (.slice A t.list.length c) := (hBk.cell 5).trans rfl
   have hbl := hBk.lt
   clear hW1 hBk
   go_wp2_with (first | (go_at_call 132; refine (none_is t.sym _).mono ?_; rintro e w9 ⟨rfl, hb9⟩; have HB := Lib.hid (HB.out.trans (hb9.mono HB.out.size)); replace e0 := (hb9.cell (p := ⟨w.heap.size, 0, none⟩) hbl).trans e0; replace e1 := (hb9.cell (p := ⟨w.heap.size, 1, none⟩) hbl).trans e1; replace e2 := (hb9.cell (p := ⟨w.heap.size, 2, none⟩) hbl).trans e2; replace e3 := (hb9.cell (p := ⟨w.heap.size, 3, none⟩) hbl).trans e3; replace e4 := (hb9.cell (p := ⟨w.heap.size, 4, none⟩) hbl).trans e4; replace e5 := (hb9.cell (p := ⟨w.heap.size, 5, none⟩) hbl).trans e5; replace hbl := Nat.lt_of_lt_of_le hbl hb9.size; clear hb9) | (go_at_call 133; refine (constant_is t.sym _).mono ?_; rintro e w9 ⟨rfl, hb9⟩; have HB := Lib.hid (HB.out.trans (hb9.mono HB.out.size)); replace e0 := (hb9.cell (p := ⟨w.heap.size, 0, none⟩) hbl).trans e0; replace e1 := (hb9.cell (p := ⟨w.heap.size, 1, none⟩) hbl).trans e1; replace e2 := (hb9.cell (p := ⟨w.heap.size, 2, none⟩) hbl).trans e2; replace e3 := (hb9.cell (p := ⟨w.heap.size, 3, none⟩) hbl).trans e3; replace e4 := (hb9.cell (p := ⟨w.heap.size, 4, none⟩) hbl).trans e4; replace e5 := (hb9.cell (p := ⟨w.heap.size, 5, none⟩) hbl).trans e5; replace hbl := Nat.lt_of_lt_of_le hbl hb9.size; clear hb9) | (go_at_call 81; refine (word_is t.var _).mono ?_; rintro e w9 ⟨rfl, rfl⟩))
   go_ret
   exact ⟨by rw [HR.out] <;> rfl, HB.out⟩
 by_cases h7 : 7 < t.rel
 · have r1 : (t.rel == 8) = false := by simp [h8]
   have r2 : decide (t.rel = 8) = false := by simp [h8]
   have r3 : decide (t.rel < 1) = false := decide_eq_false (by omega)
   have r4 : decide (7 < t.rel) = true := decide_eq_true (by omega)
   have HR := Lib.hid (show testB t = false by simp [testB, *])
   clear h8 h1 h7
   go_enter Tryz.func131, Tryz.ntmps131
   go_upto_region 1 with fail
   obtain ⟨W1, hW1⟩ : ∃ W1, W1 = w.alloc (.cells #[.int .i64 t.rel, .string t.var, .int .i64 t.sym.kind, .string t.sym.text, .int .i64 t.sym.n, .slice A t.list.length c] 59) := ⟨_, rfl⟩
   rw [← hW1]
   have hBk : Blk W1 w.heap.size 59 #[.int .i64 t.rel, .string t.var, .int .i64 t.sym.kind, .string t.sym.text, .int .i64 t.sym.n, .slice A t.list.length c] := by rw [hW1]; exact Blk.new _ _ _
   have HB := Lib.hid (show Below w.heap.size w W1 by rw [hW1]; exact (Below.refl _ _).alloc (Nat.le_refl _) _)
   have e0 : W1.cell? ⟨w.heap.size, 0, none⟩ = some (.int .i64 t.rel) := (hBk.cell 0).trans rfl
   have e1 : W1.cell? ⟨w.heap.size, 1, none⟩ = some (.string t.var) := (hBk.cell 1).trans rfl
   have e2 : W1.cell? ⟨w.heap.size, 2, none⟩ = some (.int .i64 t.sym.kind) := (hBk.cell 2).trans rfl
   have e3 : W1.cell? ⟨w.heap.size, 3, none⟩ = some (.string t.sym.text) := (hBk.cell 3).trans rfl
   have e4 : W1.cell? ⟨w.heap.size, 4, none⟩ = some (.int .i64 t.sym.n) := (hBk.cell 4).trans rfl
   have e5 : W1.cell? ⟨w.heap.size, 5, none⟩ = some (.slice A t.list.length c) := (hBk.cell 5).trans rfl
   have hbl := hBk.lt
   clear hW1 hBk
   go_wp2_with (first | (go_at_call 132; refine (none_is t.sym _).mono ?_; rintro e w9 ⟨rfl, hb9⟩; have HB := Lib.hid (HB.out.trans (hb9.mono HB.out.size)); replace e0 := (hb9.cell (p := ⟨w.heap.size, 0, none⟩) hbl).trans e0; replace e1 := (hb9.cell (p := ⟨w.heap.size, 1, none⟩) hbl).trans e1; replace e2 := (hb9.cell (p := ⟨w.heap.size, 2, none⟩) hbl).trans e2; replace e3 := (hb9.cell (p := ⟨w.heap.size, 3, none⟩) hbl).trans e3; replace e4 := (hb9.cell (p := ⟨w.heap.size, 4, none⟩) hbl).trans e4; replace e5 := (hb9.cell (p := ⟨w.heap.size, 5, none⟩) hbl).trans e5; replace hbl := Nat.lt_of_lt_of_le hbl hb9.size; clear hb9) | (go_at_call 133; refine (constant_is t.sym _).mono ?_; rintro e w9 ⟨rfl, hb9⟩; have HB := Lib.hid (HB.out.trans (hb9.mono HB.out.size)); replace e0 := (hb9.cell (p := ⟨w.heap.size, 0, none⟩) hbl).trans e0; replace e1 := (hb9.cell (p := ⟨w.heap.size, 1, none⟩) hbl).trans e1; replace e2 := (hb9.cell (p := ⟨w.heap.size, 2, none⟩) hbl).trans e2; replace e3 := (hb9.cell (p := ⟨w.heap.size, 3, none⟩) hbl).trans e3; replace e4 := (hb9.cell (p := ⟨w.heap.size, 4, none⟩) hbl).trans e4; replace e5 := (hb9.cell (p := ⟨w.heap.size, 5, none⟩) hbl).trans e5; replace hbl := Nat.lt_of_lt_of_le hbl hb9.size; clear hb9) | (go_at_call 81; refine (word_is t.var _).mono ?_; rintro e w9 ⟨rfl, rfl⟩))
   go_ret
   exact ⟨by rw [HR.out] <;> rfl, HB.out⟩
 by_cases hl : 0 < t.list.length
 · have r1 : (t.rel == 8) = false := by simp [h8]
   have r2 : decide (t.rel = 8) = false := by simp [h8]
   have r3 : decide (t.rel < 1) = false := decide_eq_false (by omega)
   have r4 : decide (7 < t.rel) = false := decide_eq_false (by omega)
   have l1 : decide ((0 : Int) < (t.list.length : Int)) = true := decide_eq_true (by omega)
   have l2 : decide (0 < t.list.length) = true := decide_eq_true (by omega)
   have HR := Lib.hid (show testB t = false by simp [testB, *])
   clear h8 h1 h7 hl
   go_enter Tryz.func131, Tryz.ntmps131
   go_upto_region 1 with fail
   obtain ⟨W1, hW1⟩ : ∃ W1, W1 = w.alloc (.cells #[.int .i64 t.rel, .string t.var, .int .i64 t.sym.kind, .string t.sym.text, .int .i64 t.sym.n, .slice A t.list.length c] 59) := ⟨_, rfl⟩
   rw [← hW1]
   have hBk : Blk W1 w.heap.size 59 #[.int .i64 t.rel, .string t.var, .int .i64 t.sym.kind, .string t.sym.text, .int .i64 t.sym.n, .slice A t.list.length c] := by rw [hW1]; exact Blk.new _ _ _
   have HB := Lib.hid (show Below w.heap.size w W1 by rw [hW1]; exact (Below.refl _ _).alloc (Nat.le_refl _) _)
   have e0 : W1.cell? ⟨w.heap.size, 0, none⟩ = some (.int .i64 t.rel) := (hBk.cell 0).trans rfl
   have e1 : W1.cell? ⟨w.heap.size, 1, none⟩ = some (.string t.var) := (hBk.cell 1).trans rfl
   have e2 : W1.cell? ⟨w.heap.size, 2, none⟩ = some (.int .i64 t.sym.kind) := (hBk.cell 2).trans rfl
   have e3 : W1.cell? ⟨w.heap.size, 3, none⟩ = some (.string t.sym.text) := (hBk.cell 3).trans rfl
   have e4 : W1.cell? ⟨w.heap.size, 4, none⟩ = some (.int .i64 t.sym.n) := (hBk.cell 4).trans rfl
   have e5 : W1.cell? ⟨w.heap.size, 5, none⟩ = some (.slice A t.list.length c) := (hBk.cell 5).trans rfl
   have hbl := hBk.lt
   clear hW1 hBk
   go_wp2_with (first | (go_at_call 132; refine (none_is t.sym _).mono ?_; rintro e w9 ⟨rfl, hb9⟩; have HB := Lib.hid (HB.out.trans (hb9.mono HB.out.size)); replace e0 := (hb9.cell (p := ⟨w.heap.size, 0, none⟩) hbl).trans e0; replace e1 := (hb9.cell (p := ⟨w.heap.size, 1, none⟩) hbl).trans e1; replace e2 := (hb9.cell (p := ⟨w.heap.size, 2, none⟩) hbl).trans e2; replace e3 := (hb9.cell (p := ⟨w.heap.size, 3, none⟩) hbl).trans e3; replace e4 := (hb9.cell (p := ⟨w.heap.size, 4, none⟩) hbl).trans e4; replace e5 := (hb9.cell (p := ⟨w.heap.size, 5, none⟩) hbl).trans e5; replace hbl := Nat.lt_of_lt_of_le hbl hb9.size; clear hb9) | (go_at_call 133; refine (constant_is t.sym _).mono ?_; rintro e w9 ⟨rfl, hb9⟩; have HB := Lib.hid (HB.out.trans (hb9.mono HB.out.size)); replace e0 := (hb9.cell (p := ⟨w.heap.size, 0, none⟩) hbl).trans e0; replace e1 := (hb9.cell (p := ⟨w.heap.size, 1, none⟩) hbl).trans e1; replace e2 := (hb9.cell (p := ⟨w.heap.size, 2, none⟩) hbl).trans e2; replace e3 := (hb9.cell (p := ⟨w.heap.size, 3, none⟩) hbl).trans e3; replace e4 := (hb9.cell (p := ⟨w.heap.size, 4, none⟩) hbl).trans e4; replace e5 := (hb9.cell (p := ⟨w.heap.size, 5, none⟩) hbl).trans e5; replace hbl := Nat.lt_of_lt_of_le hbl hb9.size; clear hb9) | (go_at_call 81; refine (word_is t.var _).mono ?_; rintro e w9 ⟨rfl, rfl⟩))
   go_ret
   exact ⟨by rw [HR.out] <;> rfl, HB.out⟩
 by_cases hv : t.var.toList = []
 · have r1 : (t.rel == 8) = false := by simp [h8]
   have r2 : decide (t.rel = 8) = false := by simp [h8]
   have r3 : decide (t.rel < 1) = false := decide_eq_false (by omega)
   have r4 : decide (7 < t.rel) = false := decide_eq_false (by omega)
   have l1 : decide ((0 : Int) < (t.list.length : Int)) = false := decide_eq_false (by omega)
   have l2 : decide (0 < t.list.length) = false := decide_eq_false (by omega)
   have l3 : t.list.length = 0 := by omega
   have l9 : t.list = [] := List.length_eq_zero_iff.1 l3
   have v1 : (t.var.toList == []) = true := by simp [hv]
   have v2 : t.var.toList.isEmpty = true := by simp [hv]
   have v3 : decide (t.var.toList = []) = true := by simp [hv]
   have HR := Lib.hid (show testB t = constB t.sym by simp [testB, *])
   clear h8 h1 h7 hl hv l3 l9
   go_enter Tryz.func131, Tryz.ntmps131
   go_upto_region 1 with fail
   obtain ⟨W1, hW1⟩ : ∃ W1, W1 = w.alloc (.cells #[.int .i64 t.rel, .string t.var, .int .i64 t.sym.kind, .string t.sym.text, .int .i64 t.sym.n, .slice A t.list.length c] 59) := ⟨_, rfl⟩
   rw [← hW1]
   have hBk : Blk W1 w.heap.size 59 #[.int .i64 t.rel, .string t.var, .int .i64 t.sym.kind, .string t.sym.text, .int .i64 t.sym.n, .slice A t.list.length c] := by rw [hW1]; exact Blk.new _ _ _
   have HB := Lib.hid (show Below w.heap.size w W1 by rw [hW1]; exact (Below.refl _ _).alloc (Nat.le_refl _) _)
   have e0 : W1.cell? ⟨w.heap.size, 0, none⟩ = some (.int .i64 t.rel) := (hBk.cell 0).trans rfl
   have e1 : W1.cell? ⟨w.heap.size, 1, none⟩ = some (.string t.var) := (hBk.cell 1).trans rfl
   have e2 : W1.cell? ⟨w.heap.size, 2, none⟩ = some (.int .i64 t.sym.kind) := (hBk.cell 2).trans rfl
   have e3 : W1.cell? ⟨w.heap.size, 3, none⟩ = some (.string t.sym.text) := (hBk.cell 3).trans rfl
   have e4 : W1.cell? ⟨w.heap.size, 4, none⟩ = some (.int .i64 t.sym.n) := (hBk.cell 4).trans rfl
   have e5 : W1.cell? ⟨w.heap.size, 5, none⟩ = some (.slice A t.list.length c) := (hBk.cell 5).trans rfl
   have hbl := hBk.lt
   clear hW1 hBk
   go_wp2_with (first | (go_at_call 132; refine (none_is t.sym _).mono ?_; rintro e w9 ⟨rfl, hb9⟩; have HB := Lib.hid (HB.out.trans (hb9.mono HB.out.size)); replace e0 := (hb9.cell (p := ⟨w.heap.size, 0, none⟩) hbl).trans e0; replace e1 := (hb9.cell (p := ⟨w.heap.size, 1, none⟩) hbl).trans e1; replace e2 := (hb9.cell (p := ⟨w.heap.size, 2, none⟩) hbl).trans e2; replace e3 := (hb9.cell (p := ⟨w.heap.size, 3, none⟩) hbl).trans e3; replace e4 := (hb9.cell (p := ⟨w.heap.size, 4, none⟩) hbl).trans e4; replace e5 := (hb9.cell (p := ⟨w.heap.size, 5, none⟩) hbl).trans e5; replace hbl := Nat.lt_of_lt_of_le hbl hb9.size; clear hb9) | (go_at_call 133; refine (constant_is t.sym _).mono ?_; rintro e w9 ⟨rfl, hb9⟩; have HB := Lib.hid (HB.out.trans (hb9.mono HB.out.size)); replace e0 := (hb9.cell (p := ⟨w.heap.size, 0, none⟩) hbl).trans e0; replace e1 := (hb9.cell (p := ⟨w.heap.size, 1, none⟩) hbl).trans e1; replace e2 := (hb9.cell (p := ⟨w.heap.size, 2, none⟩) hbl).trans e2; replace e3 := (hb9.cell (p := ⟨w.heap.size, 3, none⟩) hbl).trans e3; replace e4 := (hb9.cell (p := ⟨w.heap.size, 4, none⟩) hbl).trans e4; replace e5 := (hb9.cell (p := ⟨w.heap.size, 5, none⟩) hbl).trans e5; replace hbl := Nat.lt_of_lt_of_le hbl hb9.size; clear hb9) | (go_at_call 81; refine (word_is t.var _).mono ?_; rintro e w9 ⟨rfl, rfl⟩))
   go_ret
   exact ⟨by rw [HR.out] <;> rfl, HB.out⟩
 by_cases hw : isWord t.var = false
 · have r1 : (t.rel == 8) = false := by simp [h8]
   have r2 : decide (t.rel = 8) = false := by simp [h8]
   have r3 : decide (t.rel < 1) = false := decide_eq_false (by omega)
   have r4 : decide (7 < t.rel) = false := decide_eq_false (by omega)
   have l1 : decide ((0 : Int) < (t.list.length : Int)) = false := decide_eq_false (by omega)
   have l2 : decide (0 < t.list.length) = false := decide_eq_false (by omega)
   have l3 : t.list.length = 0 := by omega
   have l9 : t.list = [] := List.length_eq_zero_iff.1 l3
   have v1 : (t.var.toList == []) = false := by simp [hv]
   have v2 : t.var.toList.isEmpty = false := by simp [hv]
   have v3 : decide (t.var.toList = []) = false := by simp [hv]
   have x1 := hw
   have HR := Lib.hid (show testB t = false by simp [testB, *])
   clear h8 h1 h7 hl hv hw l3 l9
   go_enter Tryz.func131, Tryz.ntmps131
   go_upto_region 1 with fail
   obtain ⟨W1, hW1⟩ : ∃ W1, W1 = w.alloc (.cells #[.int .i64 t.rel, .string t.var, .int .i64 t.sym.kind, .string t.sym.text, .int .i64 t.sym.n, .slice A t.list.length c] 59) := ⟨_, rfl⟩
   rw [← hW1]
   have hBk : Blk W1 w.heap.size 59 #[.int .i64 t.rel, .string t.var, .int .i64 t.sym.kind, .string t.sym.text, .int .i64 t.sym.n, .slice A t.list.length c] := by rw [hW1]; exact Blk.new _ _ _
   have HB := Lib.hid (show Below w.heap.size w W1 by rw [hW1]; exact (Below.refl _ _).alloc (Nat.le_refl _) _)
   have e0 : W1.cell? ⟨w.heap.size, 0, none⟩ = some (.int .i64 t.rel) := (hBk.cell 0).trans rfl
   have e1 : W1.cell? ⟨w.heap.size, 1, none⟩ = some (.string t.var) := (hBk.cell 1).trans rfl
   have e2 : W1.cell? ⟨w.heap.size, 2, none⟩ = some (.int .i64 t.sym.kind) := (hBk.cell 2).trans rfl
   have e3 : W1.cell? ⟨w.heap.size, 3, none⟩ = some (.string t.sym.text) := (hBk.cell 3).trans rfl
   have e4 : W1.cell? ⟨w.heap.size, 4, none⟩ = some (.int .i64 t.sym.n) := (hBk.cell 4).trans rfl
   have e5 : W1.cell? ⟨w.heap.size, 5, none⟩ = some (.slice A t.list.length c) := (hBk.cell 5).trans rfl
   have hbl := hBk.lt
   clear hW1 hBk
   go_wp2_with (first | (go_at_call 132; refine (none_is t.sym _).mono ?_; rintro e w9 ⟨rfl, hb9⟩; have HB := Lib.hid (HB.out.trans (hb9.mono HB.out.size)); replace e0 := (hb9.cell (p := ⟨w.heap.size, 0, none⟩) hbl).trans e0; replace e1 := (hb9.cell (p := ⟨w.heap.size, 1, none⟩) hbl).trans e1; replace e2 := (hb9.cell (p := ⟨w.heap.size, 2, none⟩) hbl).trans e2; replace e3 := (hb9.cell (p := ⟨w.heap.size, 3, none⟩) hbl).trans e3; replace e4 := (hb9.cell (p := ⟨w.heap.size, 4, none⟩) hbl).trans e4; replace e5 := (hb9.cell (p := ⟨w.heap.size, 5, none⟩) hbl).trans e5; replace hbl := Nat.lt_of_lt_of_le hbl hb9.size; clear hb9) | (go_at_call 133; refine (constant_is t.sym _).mono ?_; rintro e w9 ⟨rfl, hb9⟩; have HB := Lib.hid (HB.out.trans (hb9.mono HB.out.size)); replace e0 := (hb9.cell (p := ⟨w.heap.size, 0, none⟩) hbl).trans e0; replace e1 := (hb9.cell (p := ⟨w.heap.size, 1, none⟩) hbl).trans e1; replace e2 := (hb9.cell (p := ⟨w.heap.size, 2, none⟩) hbl).trans e2; replace e3 := (hb9.cell (p := ⟨w.heap.size, 3, none⟩) hbl).trans e3; replace e4 := (hb9.cell (p := ⟨w.heap.size, 4, none⟩) hbl).trans e4; replace e5 := (hb9.cell (p := ⟨w.heap.size, 5, none⟩) hbl).trans e5; replace hbl := Nat.lt_of_lt_of_le hbl hb9.size; clear hb9) | (go_at_call 81; refine (word_is t.var _).mono ?_; rintro e w9 ⟨rfl, rfl⟩))
   go_ret
   exact ⟨by rw [HR.out] <;> rfl, HB.out⟩
 have r1 : (t.rel == 8) = false := by simp [h8]
 have r2 : decide (t.rel = 8) = false := by simp [h8]
 have r3 : decide (t.rel < 1) = false := decide_eq_false (by omega)
 have r4 : decide (7 < t.rel) = false := decide_eq_false (by omega)
 have l1 : decide ((0 : Int) < (t.list.length : Int)) = false := decide_eq_false (by omega)
 have l2 : decide (0 < t.list.length) = false := decide_eq_false (by omega)
 have l3 : t.list.length = 0 := by omega
 have l9 : t.list = [] := List.length_eq_zero_iff.1 l3
 have v1 : (t.var.toList == []) = false := by simp [hv]
 have v2 : t.var.toList.isEmpty = false := by simp [hv]
 have v3 : decide (t.var.toList = []) = false := by simp [hv]
 have x1 : isWord t.var = true := by simpa using hw
 have HR := Lib.hid (show testB t = noneB t.sym by simp [testB, *])
 clear h8 h1 h7 hl hv hw l3 l9
 go_enter Tryz.func131, Tryz.ntmps131
 go_upto_region 1 with fail
 obtain ⟨W1, hW1⟩ : ∃ W1, W1 = w.alloc (.cells #[.int .i64 t.rel, .string t.var, .int .i64 t.sym.kind, .string t.sym.text, .int .i64 t.sym.n, .slice A t.list.length c] 59) := ⟨_, rfl⟩
 rw [← hW1]
 have hBk : Blk W1 w.heap.size 59 #[.int .i64 t.rel, .string t.var, .int .i64 t.sym.kind, .string t.sym.text, .int .i64 t.sym.n, .slice A t.list.length c] := by rw [hW1]; exact Blk.new _ _ _
 have HB := Lib.hid (show Below w.heap.size w W1 by rw [hW1]; exact (Below.refl _ _).alloc (Nat.le_refl _) _)
 have e0 : W1.cell? ⟨w.heap.size, 0, none⟩ = some (.int .i64 t.rel) := (hBk.cell 0).trans rfl
 have e1 : W1.cell? ⟨w.heap.size, 1, none⟩ = some (.string t.var) := (hBk.cell 1).trans rfl
 have e2 : W1.cell? ⟨w.heap.size, 2, none⟩ = some (.int .i64 t.sym.kind) := (hBk.cell 2).trans rfl
 have e3 : W1.cell? ⟨w.heap.size, 3, none⟩ = some (.string t.sym.text) := (hBk.cell 3).trans rfl
 have e4 : W1.cell? ⟨w.heap.size, 4, none⟩ = some (.int .i64 t.sym.n) := (hBk.cell 4).trans rfl
 have e5 : W1.cell? ⟨w.heap.size, 5, none⟩ = some (.slice A t.list.length c) := (hBk.cell 5).trans rfl
 have hbl := hBk.lt
 clear hW1 hBk
 go_wp2_with (first | (go_at_call 132; refine (none_is t.sym _).mono ?_; rintro e w9 ⟨rfl, hb9⟩; have HB := Lib.hid (HB.out.trans (hb9.mono HB.out.size)); replace e0 := (hb9.cell (p := ⟨w.heap.size, 0, none⟩) hbl).trans e0; replace e1 := (hb9.cell (p := ⟨w.heap.size, 1, none⟩) hbl).trans e1; replace e2 := (hb9.cell (p := ⟨w.heap.size, 2, none⟩) hbl).trans e2; replace e3 := (hb9.cell (p := ⟨w.heap.size, 3, none⟩) hbl).trans e3; replace e4 := (hb9.cell (p := ⟨w.heap.size, 4, none⟩) hbl).trans e4; replace e5 := (hb9.cell (p := ⟨w.heap.size, 5, none⟩) hbl).trans e5; replace hbl := Nat.lt_of_lt_of_le hbl hb9.size; clear hb9) | (go_at_call 133; refine (constant_is t.sym _).mono ?_; rintro e w9 ⟨rfl, hb9⟩; have HB := Lib.hid (HB.out.trans (hb9.mono HB.out.size)); replace e0 := (hb9.cell (p := ⟨w.heap.size, 0, none⟩) hbl).trans e0; replace e1 := (hb9.cell (p := ⟨w.heap.size, 1, none⟩) hbl).trans e1; replace e2 := (hb9.cell (p := ⟨w.heap.size, 2, none⟩) hbl).trans e2; replace e3 := (hb9.cell (p := ⟨w.heap.size, 3, none⟩) hbl).trans e3; replace e4 := (hb9.cell (p := ⟨w.heap.size, 4, none⟩) hbl).trans e4; replace e5 := (hb9.cell (p := ⟨w.heap.size, 5, none⟩) hbl).trans e5; replace hbl := Nat.lt_of_lt_of_le hbl hb9.size; clear hb9) | (go_at_call 81; refine (word_is t.var _).mono ?_; rintro e w9 ⟨rfl, rfl⟩))
 go_ret
 exact ⟨by rw [HR.out] <;> rfl, HB.out⟩
end Go.Proofs.YtpndmjabjjbefaaGreat
