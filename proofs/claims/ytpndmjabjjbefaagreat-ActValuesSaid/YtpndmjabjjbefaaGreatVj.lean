/-
  Texts put together: FindName, OpsName, PutName, MiscName, NewName, WorkName, Known1, Known2, Known4, Known5, Known6, ActDo1.
-/
import Derived.Test.YtpndmjabjjbefaaGreatVb
import Derived.Test.YtpndmjabjjbefaaGreatVa
import Derived.Test.YtpndmjabjjbefaaGreatVh
import Derived.Test.YtpndmjabjjbefaaGreatVc
import Derived.Test.YtpndmjabjjbefaaGreatVf
import Derived.Test.YtpndmjabjjbefaaGreatVg
import Derived.Test.YtpndmjabjjbefaaGreatVi
import Derived.Maps.RangeWalk
namespace Go.Proofs.YtpndmjabjjbefaaGreat
open Go.RowKit
abbrev NameSet := SetAt (α := Name) 155 125 1 Name.cells
theorem nilAhead_Name (k0 : ByteArray) (w : World) : (nilAhead 310 125 (.string k0) "Compare").run Tryz.prog w = .ok (some false) w := by kernel_rfl
theorem method_Name (k0 : ByteArray) (w : World) : (method 310 125 (.string k0) "Compare").run Tryz.prog w = .ok (167, .string k0) w := by kernel_rfl
def FoundName (l : List Name) (x : Name) (w : World) (e : Ending) (w' : World) : Prop :=
 e = .returned (.tuple #[.int .i64 (rank cmpName l x), .bool (has cmpName l x)]) ∧ Below w.heap.size w w'
set_option maxRecDepth 100000 in
set_option maxHeartbeats 4000000 in
theorem find_Name (b c : Nat) (sn : Bool) (A : Option Addr) (l : List Name) (x : Name) (w : World) (hS : NameSet w b sn A c l) (hs : Srt cmpName l) (hl : (l.length : Int) ≤ 4611686018427387904) :
 Calls Tryz.prog 118 #[.pointer (some ⟨b, 0, none⟩), .string x] w (FoundName l x w) := by
 have hrd := hS.rd Name.cells_length
 have h0 := hS.cell0
 have hb := hS.lt
 clear hS
 have HS := Lib.hid hs
 have HRD := Lib.hid hrd
 clear hs hrd
 go_enter Tryz.func118, Tryz.ntmps118
 go_wp2_with fail
 go_quiet (fail)
 go_wp2_with fail
 obtain ⟨W0, hW0⟩ : ∃ W0, W0 = (w.drewN nq) := ⟨_, rfl⟩
 have hB0 : Below w.heap.size w W0 := by rw [hW0]; exact Below.drewN' (Below.refl _ _) _
 rw [← hW0]
 clear hW0
 have HB0 := Lib.hid hB0
 clear hB0
 go_loopw [6, 7] (fun lo hi wr => ∃ i j : Nat, lo = .int .i64 i ∧ hi = .int .i64 j ∧ i ≤ j ∧ j ≤ l.length ∧ (∀ k, (h : k < l.length) → k < i → cmpName l[k] x < 0) ∧ (∀ k, (h : k < l.length) → j ≤ k → 0 < cmpName l[k] x) ∧ Below W0.heap.size W0 wr) (fun lo hi wr => (intOf hi).toNat - (intOf lo).toNat)
 case atStart => exact ⟨0, l.length, rfl, rfl, Nat.zero_le _, Nat.le_refl _, fun k _ h => absurd h (by omega), fun k h h' => absurd h (by omega), Below.refl _ _⟩
 case round =>
  obtain ⟨i, j, rfl, rfl, hij, hj, hlo, hhi, hB⟩ := hrel
  have HLO := Lib.hid hlo
  have HHI := Lib.hid hhi
  clear hlo hhi
  have hsz : w.heap.size ≤ W0.heap.size := HB0.out.size
  by_cases hlt : i < j
  · obtain ⟨m, hm⟩ : ∃ m, m = i + (j - i) / 2 := ⟨_, rfl⟩
    have hml : m < l.length := by omega
    have hmj : m < j := by omega
    have hmi : i ≤ m := by omega
    have e1 : ((i : Int) + ((j : Int) - (i : Int)) / 2) = (m : Int) := by omega
    have E1 := Lib.hid e1
    clear e1 hm
    obtain ⟨g, off, rfl, hgs, hcell⟩ := HRD.out.at_ hml
    have low : ∀ (p : Addr), p.block < w.heap.size → wr.cell? p = w.cell? p := fun p hp => (hB.cell (p := p) (by omega)).trans (HB0.out.cell (p := p) hp)
    have r0 := (low ⟨b, 0, none⟩ hb).trans h0
    have q0 : wr.cell? ⟨g, off + m, none⟩ = some (.string l[m]) := (low ⟨g, off + m, none⟩ hgs).trans (by simpa using hcell 0 _ rfl)
    have b1 : (0 : Int) ≤ (m : Int) := by omega
    have b2 : (m : Int) < (l.length : Int) := by omega
    have hsw : W0.heap.size ≤ wr.heap.size := hB.size
    have N := nilAhead_Name
    have M := method_Name
    clear low hcell h0
    have HB := Lib.hid hB
    clear hB
    obtain ⟨y, hy⟩ : ∃ y, y = l[m] := ⟨_, rfl⟩
    rw [← hy] at q0
    have HY := Lib.hid hy
    clear hy
    have hbw : b < wr.heap.size := by omega
    have hgw : g < wr.heap.size := by omega
    go_upto_region 4 with (fail)
    rw [E1.out]
    go_wp2_with fail
    refine (cmp_name y x _).mono ?_
    rintro e w1 ⟨rfl, hb1⟩
    have HB1 : Below W0.heap.size W0 w1 := HB.out.trans (hb1.mono hsw)
    clear r0 q0 N M
    have HB1' := Lib.hid HB1
    clear HB1
    by_cases hc : cmpName y x = 0
    · have HC := Lib.hid hc
      have t1 : (cmpName y x == 0) = true := by simp [hc]
      clear hc
      go_wp2_with fail
      go_ret2
      have e := HC.out
      rw [HY.out] at e
      refine ⟨?_, HB0.out.trans (HB1'.out.mono (by omega))⟩
      rw [rank_some tc_name HS.out hml e, (at_some tc_name HS.out hml e).2.2.1]
      rfl
    · have t1 : (cmpName y x == 0) = false := by simp [hc]
      by_cases hc2 : cmpName y x < 0
      · have HC := Lib.hid hc2
        have t2 : decide (cmpName y x < 0) = true := by simpa using hc2
        clear hc hc2
        go_wp2_with fail
        go_roundw
        case rel =>
         refine ⟨m + 1, j, by go_num, rfl, by omega, hj, fun k h1 h2 => ?_, HHI.out, HB1'.out⟩
         have e := HC.out
         rw [HY.out] at e
         rcases Nat.lt_or_ge k m with h3 | h3
         · exact tc_name.lt_of_lt_of_le (HS.out.lt h3 hml) (by omega)
         · obtain rfl : k = m := by omega
           exact e
        case measure => simp [intOf]; omega
      · have t2 : decide (cmpName y x < 0) = false := by simpa using hc2
        have hc3 : 0 < cmpName y x := by omega
        have HC := Lib.hid hc3
        clear hc hc2 hc3
        go_wp2_with fail
        go_roundw
        case rel =>
         refine ⟨i, m, rfl, rfl, by omega, by omega, HLO.out, fun k h1 h2 => ?_, HB1'.out⟩
         have e := HC.out
         rw [HY.out] at e
         rcases Nat.lt_or_ge m k with h3 | h3
         · exact (tc_name.symm _ _).1 (tc_name.lt_trans ((tc_name.symm _ _).2 e) (HS.out.lt h3 h1))
         · obtain rfl : k = m := by omega
           exact e
        case measure => simp [intOf]; omega
  · obtain rfl : i = j := by omega
    have HB := Lib.hid hB
    clear hB
    go_wp2_with fail
    go_ret2
    refine ⟨?_, HB0.out.trans (HB.out.mono (by omega))⟩
    rw [rank_none hj HLO.out HHI.out, (at_none HLO.out HHI.out).2.2]
    rfl
end Go.Proofs.YtpndmjabjjbefaaGreat
namespace Go.Proofs.YtpndmjabjjbefaaGreat
open Go.RowKit
theorem info_Name : (Tryz.prog.info? 125).map (fun i => (i.zero, i.size, i.bytes)) = some (some (.string ⟨#[]⟩), 1, 16) := by kernel_rfl
theorem Name.one (x : Name) : ∀ u ∈ Name.cells x, u.oneCell' = true := by intro u hu; simp [Name.cells] at hu; rcases hu with rfl <;> rfl
theorem Name.oneAll (l : List Name) : ∀ u ∈ l.flatMap Name.cells, u.oneCell' = true := by intro u hu; obtain ⟨x, _, hx⟩ := List.mem_flatMap.1 hu; exact Name.one x u hx
def OwnPostName (w : World) (b : Nat) (sn : Bool) (A : Option Addr) (l : List Name) (e : Ending) (w' : World) : Prop :=
 e = .returned (.tuple #[]) ∧ ∃ A' c', NameSet w' b false A' c' l ∧ Fr (· = b) w w' ∧ Moved w sn A false A'
set_option maxRecDepth 100000 in
set_option maxHeartbeats 1000000 in
theorem own_no_Name (b c : Nat) (A : Option Addr) (l : List Name) (w : World) (hS : NameSet w b false A c l) :
 Calls Tryz.prog 119 #[.pointer (some ⟨b, 0, none⟩)] w (OwnPostName w b false A l) := by
 have h1 := hS.cell1
 have HS := Lib.hid hS
 clear hS
 go_enter Tryz.func119, Tryz.ntmps119
 go_wp2
 go_end0
 exact ⟨rfl, A, c, HS.out, Fr.refl _ _, .inl ⟨rfl, rfl⟩⟩
set_option maxRecDepth 100000 in
set_option maxHeartbeats 1000000 in
theorem own_yes_Name (b c : Nat) (A : Option Addr) (l : List Name) (w : World) (hS : NameSet w b true A c l) (hl : (l.length : Int) ≤ 1000000000) :
 Calls Tryz.prog 119 #[.pointer (some ⟨b, 0, none⟩)] w (OwnPostName w b true A l) := by
 obtain ⟨i0, hi, hz0, hz1, hz2⟩ := info_parts info_Name
 have h0 := hS.cell0
 have h1 := hS.cell1
 have hb := hS.lt
 have f0 := hS.blk.frozen 0
 have f1 := hS.blk.frozen 1
 have hrd := hS.rd Name.cells_length
 have HB := Lib.hid hS.blk
 have HRD := Lib.hid hrd
 clear hS hrd
 have e1 : IntKind.i64.wrap ((l.length : Int) + 1) = (l.length : Int) + 1 := IntWalk.i64_in _ (by omega)
 have hmk : ∀ W : World, (Instr.makeSlice 153 (.int .i64 0) (.int .i64 ((l.length : Int) + 1))).run Tryz.prog W = .ok (.slice (some ⟨W.heap.size, 0, none⟩) 0 (l.length + 1)) (W.alloc (.cells (madeCells (Value.cells (.string ⟨#[]⟩)) ((l.length + 1))) 125)) := fun W => by
  have h := run_make (P := Tryz.prog) W 153 125 i0 _ Tryz.underlying153 hi hz0 .i64 .i64 0 ((l.length : Int) + 1) (by omega) (by omega) (by rw [hz2]; omega) (by omega)
  rw [hz1] at h
  simpa [show ((l.length : Int) + 1).toNat = l.length + 1 by omega] using h
 go_enter Tryz.func119, Tryz.ntmps119
 go_wp2_with fail
 refine wp_region_E (fun w9 => Below w.heap.size w w9) [(0, 0), (1, 0), (2, 0), (3, 0), (4, 1), (5, 0), (6, 0), (8, 0), (9, 0), (10, 0), (11, 1), (7, 2), (12, 2), (13, 0), (14, 0), (15, 2)] (by kernel_rfl) (by kernel_rfl) (fun KK hKK => ?_)
 simp only [beside, List.filterMap_cons, List.filterMap_nil, List.getElem?_toArray, List.getElem?_cons_zero, List.getElem?_cons_succ, Option.map_some]
 repeat (first | (refine wpX_w ?_ (Or.inl ⟨by rfl, fun w9 => ?_⟩) ?_; rotate_left 1; go_simp; with_reducible rfl; go_frame) | (refine wpX_l ?_ (((Below.refl _ _).drew)) (Or.inl ⟨by rfl, fun w9 hw9 => ?_⟩) ?_; rotate_left 1; obtain ⟨hc9, hf9⟩ := bcell hw9; go_simp; with_reducible rfl; go_frame) | (refine wpX_w undef (Or.inr ⟨by rfl, rfl⟩) ?_; go_frame) | (refine wpX_l undef (((Below.refl _ _).drew)) (Or.inr ⟨by rfl, rfl⟩) ?_; go_frame))
 refine wpX_es (fun K9 hK9 => ?_)
 go_simp
 refine hK9 _ _ (((Below.refl _ _).drew).alloc (Nat.le_refl _) _) ?_
 clear hK9 K9
 refine wpX_e (by kernel_rfl) (fun K9 hK9 => ?_)
 refine step_append_src _ (by rfl) _ _ _ (by rfl) 125 i0 _ 1 16 Tryz.underlying153 hi hz0 hz1 hz2 rfl (by omega) _ 0 [] (by rfl) (World.ownsRow_made _ _ _ (Nat.zero_le _) (by unfold maxLen; omega) (by simp [madeCells])) A l.length c (l.flatMap Name.cells) (by rfl) (flat_length Name.cells_length l)
  ((HRD.out.drew.alloc _).news Name.cells_length (by omega)) (Name.oneAll l) (by unfold maxLen; omega) (by omega) ?_
 intro v2 w2 hown hgr hnil hat
 refine hK9 _ _ ?_
 clear hK9 K9
 rw [Nat.zero_add, List.nil_append] at hown
 obtain ⟨A', c', rfl, _, _, hz⟩ := own_form2 hown
 have HB1 := (HB.out.drew.alloc (.cells (madeCells (Value.cells (.string ⟨#[]⟩)) ((l.length + 1))) 125)).grown hgr (by simp [Value.ownBlock]; omega)
 have c0 := (HB1.cell 0).trans rfl
 have c1 := (HB1.cell 1).trans rfl
 have z0 := HB1.frozen 0
 have z1 := HB1.frozen 1
 have HB2 := Lib.hid HB1
 clear HB1
 repeat (first | (refine wpX_w ?_ (Or.inl ⟨by rfl, fun w9 => ?_⟩) ?_; rotate_left 1; go_simp; with_reducible rfl; go_frame) | (refine wpX_l ?_ (((Below.refl _ _).drew).alloc (Nat.le_refl _) _) (Or.inl ⟨by rfl, fun w9 hw9 => ?_⟩) ?_; rotate_left 1; obtain ⟨hc9, hf9⟩ := bcell hw9; go_simp; with_reducible rfl; go_frame) | (refine wpX_w undef (Or.inr ⟨by rfl, rfl⟩) ?_; go_frame) | (refine wpX_l undef (((Below.refl _ _).drew).alloc (Nat.le_refl _) _) (Or.inr ⟨by rfl, rfl⟩) ?_; go_frame))
 refine wpX_e (by kernel_rfl) (fun K9 hK9 => ?_)
 go_simp
 refine hK9 _ _ ?_
 clear hK9 K9
 refine wpX_nil ?_
 simp only [OnlyN_normal]
 refine hKK _ _ ?_
 clear hKK KK
 go_wp2
 go_end0
 have hb2 : (Value.slice A' l.length c').ownBlock = some w.heap.size ∨ (Value.slice A' l.length c').ownBlock = some (w.heap.size + 1) := by
  rcases hat with h | h
  · left; rw [h]; rfl
  · right; rw [h]; simp
 have hA : ∃ g, w.heap.size ≤ g ∧ A' = some ⟨g, 0, none⟩ := by
  rcases A' with _ | a
  · exfalso; simp [Value.ownBlock] at hb2
  · obtain ⟨g, rfl⟩ := hz a rfl
    refine ⟨g, ?_, rfl⟩
    simp [Value.ownBlock] at hb2
    omega
 obtain ⟨g, hg, rfl⟩ := hA
 have HB1 := HB2.out
 have HF : Fr (· = b) w w2 := ((Fr.refl (· = b) w).drew.alloc _).grown hgr (fun k e => by simp [Value.ownBlock] at e; right; omega)
 refine ⟨rfl, some ⟨g, 0, none⟩, c', ⟨(HB1.set_ 0 _).set_ 1 _, ?_⟩, (HF.setCell (p := ⟨b, 0, none⟩) (.inl rfl) _).setCell (p := ⟨b, 1, none⟩) (.inl rfl) _, .inr ⟨rfl, g, hg, rfl⟩⟩
 have hne : (Value.slice (some ⟨g, 0, none⟩) l.length c').ownBlock ≠ some b := by simp [Value.ownBlock]; omega
 exact ownsRow_setCell_other (a := ⟨b, 1, none⟩) (ownsRow_setCell_other (a := ⟨b, 0, none⟩) hown hne _) hne _
theorem own_Name (b c : Nat) (sn : Bool) (A : Option Addr) (l : List Name) (w : World) (hS : NameSet w b sn A c l) (hl : (l.length : Int) ≤ 1000000000) :
 Calls Tryz.prog 119 #[.pointer (some ⟨b, 0, none⟩)] w (OwnPostName w b sn A l) := by
 cases sn
 · exact own_no_Name b c A l w hS
 · exact own_yes_Name b c A l w hS hl
end Go.Proofs.YtpndmjabjjbefaaGreat
namespace Go.Proofs.YtpndmjabjjbefaaGreat
open Go.RowKit
def PutPostName (w : World) (b : Nat) (sn : Bool) (A : Option Addr) (l : List Name) (x : Name) (e : Ending) (w' : World) : Prop :=
 e = .returned (.bool (!has cmpName l x)) ∧ ∃ sn' A' c', NameSet w' b sn' A' c' (put cmpName l x) ∧ Fr (SetMod b sn A) w w' ∧ Moved w sn A sn' A'
set_option maxRecDepth 100000 in
set_option maxHeartbeats 1000000 in
theorem put_there_Name (b c : Nat) (sn : Bool) (A : Option Addr) (l : List Name) (x : Name) (w : World) (hS : NameSet w b sn A c l) (hs : Srt cmpName l) (hl : (l.length : Int) ≤ 100000000) (hh : has cmpName l x = true) :
 Calls Tryz.prog 97 #[.pointer (some ⟨b, 0, none⟩), .string x] w (PutPostName w b sn A l x) := by
 have HS := Lib.hid hS
 have HO := Lib.hid hs
 clear hS hs
 go_enter Tryz.func97, Tryz.ntmps97
 go_wp2_with fail
 refine (find_Name b c sn A l x _ (HS.out.new_ (Below.refl _ _)) HO.out (by omega)).mono ?_
 rintro e w1 ⟨rfl, hb1⟩
 go_wp2_with fail
 go_ret
 refine ⟨by rw [hh]; rfl, sn, A, c, ?_, Fr.of_new ((Below.refl _ _).trans (hb1.mono (by simp))), .inl ⟨rfl, rfl⟩⟩
 rw [put_has hh]
 exact HS.out.new_ ((Below.refl _ _).trans (hb1.mono (by simp)))
set_option maxRecDepth 100000 in
set_option maxHeartbeats 4000000 in
theorem put_new_Name (b c : Nat) (sn : Bool) (A : Option Addr) (l : List Name) (x : Name) (w : World) (hS : NameSet w b sn A c l) (hs : Srt cmpName l) (hl : (l.length : Int) ≤ 100000000) (hh : has cmpName l x = false) :
 Calls Tryz.prog 97 #[.pointer (some ⟨b, 0, none⟩), .string x] w (PutPostName w b sn A l x) := by
 obtain ⟨i0, hi, hz0, hz1, hz2⟩ := info_parts info_Name
 have HS := Lib.hid hS
 have HO := Lib.hid hs
 have hb := hS.lt
 clear hS hs
 have hrk := rank_le (cmp := cmpName) l x
 go_enter Tryz.func97, Tryz.ntmps97
 go_wp2_with fail
 have hSa := HS.out.new_ (Below.refl w.heap.size w)
 have HSa := Lib.hid hSa
 clear hSa
 refine (find_Name b c sn A l x _ HSa.out HO.out (by omega)).mono ?_
 rintro e w1 ⟨rfl, hb1⟩
 have HS1 := Lib.hid (HSa.out.new_ hb1)
 have hsz1 : w.heap.size ≤ w1.heap.size := by have := hb1.size; (try simp at this); omega
 have HB1 := Lib.hid hb1
 clear hb1
 go_wp2_with fail
 refine (own_Name b c sn A l _ HS1.out (by omega)).mono ?_
 rintro e w2 ⟨rfl, A1, c1, hS2, hF2, hM2⟩
 have hsz2 : w1.heap.size ≤ w2.heap.size := hF2.size
 have s0 := hS2.cell0
 have f0 := hS2.blk.frozen 0
 have hb2 : b < w2.heap.size := by omega
 have HS2 := Lib.hid hS2
 have HF2 := Lib.hid hF2
 have HM2 := Lib.hid hM2
 clear hS2 hF2 hM2 
 go_upto_region 8 with
  (at_builtin; refine wpList_append_src (w2.alloc (.cells #[Value.string x] 125)) rfl (.tmp 23) (.tmp 25) 153 rfl 125 i0 _ 1 16 Tryz.underlying153 hi hz0 hz1 hz2 rfl (by omega) (.slice A1 l.length c1) l.length (l.flatMap Name.cells) rfl (ownsRow_new HS2.out.row ((Below.refl _ _).alloc (Nat.le_refl _) _)) (some ⟨w2.heap.size, 0, none⟩) 1 1 (Name.cells x) rfl rfl (fun _ => ⟨_, rfl, World.news_of_block (heap_alloc_new _ _)⟩) (Name.one x) (by unfold maxLen; omega) (by omega) ?_;
   intro v2 w3 hown hgr hnil hat;
   obtain ⟨g, c2, rfl⟩ : ∃ g c2, v2 = .slice (some ⟨g, 0, none⟩) (l.length + 1) c2 := (by
    rcases ownsRow_form hown with ⟨_, h0, _⟩ | ⟨g, c2, h, _⟩
    · omega
    · exact ⟨g, c2, h⟩);
   have HB3' := (HS2.out.blk.alloc (.cells #[Value.string x] 125)).grown hgr (own_blk_ne HS2.out.row HS2.out.blk (by decide));
   have c0 := (HB3'.cell 0).trans rfl;
   have z0 := HB3'.frozen 0;
   have HB3 := Lib.hid HB3';
   have HOWN := Lib.hid hown;
   have HGR := Lib.hid hgr;
   clear HB3' hown hgr)
 have hlg : ((l.length + 1 : Nat) : Int) = (l.length : Int) + 1 := by omega
 have hG : (SetMod b sn A g ∨ w.heap.size ≤ g) ∧ Moved w sn A false (some ⟨g, 0, none⟩) ∧ True ∧ g ≠ b := by
  rcases hat with h | h
  · rcases A1 with _ | a1
    · simp [Value.ownBlock] at h
    · obtain ⟨A', c', hv, _, _, hz⟩ := own_form2 HS2.out.row
      injection hv with hv _ _
      obtain ⟨g', rfl⟩ := hz a1 hv.symm
      have hgg : g' = g := by simpa [Value.ownBlock] using h.symm
      subst hgg
      have hne : g' ≠ b := HS2.out.row_ne (by decide) _ rfl
      rcases HM2.out with ⟨hsn, hA⟩ | ⟨_, g2, hg2, hA⟩
      · have h1 := HS.out.row_lt _ hA.symm
        exact ⟨.inl (.inr ⟨hsn.symm, _, hA.symm, rfl⟩), .inl ⟨hsn, hA⟩, True.intro, hne⟩
      · injection hA with hA
        injection hA with hA
        subst hA
        exact ⟨.inr (by omega), .inr ⟨rfl, _, by omega, rfl⟩, True.intro, hne⟩
  · have hgg : g = w2.heap.size + 1 := by simpa [Value.ownBlock] using h
    subst hgg
    exact ⟨.inr (by omega), .inr ⟨rfl, _, by omega, rfl⟩, True.intro, by omega⟩
 obtain ⟨hgM, hgMv, hgk1, hgb⟩ := hG
 obtain ⟨w4, hw4⟩ : ∃ w4, w4 = w3.setCell ⟨b, 0, none⟩ (.slice (some ⟨g, 0, none⟩) (l.length + 1) c2) := ⟨_, rfl⟩
 have hB4 : Blk w4 b 155 #[.slice (some ⟨g, 0, none⟩) (l.length + 1) c2, .bool false] := by rw [hw4]; exact HB3.out.set_ 0 _
 have hR4 : w4.ownsRow 0 125 1 (.slice (some ⟨g, 0, none⟩) (l.length + 1) c2) (l.length + 1) ((shiftAt l x l.length).flatMap Name.cells) := by
  rw [hw4, shiftAt_start]
  refine ownsRow_setCell_other (a := ⟨b, 0, none⟩) ?_ (by simpa [Value.ownBlock] using hgb) _
  rw [List.flatMap_append, List.flatMap_singleton]
  exact HOWN.out
 have hF4 : Fr (SetMod b sn A) w w4 := by
  rw [hw4]
  have h1 : Fr (SetMod b sn A) w w1 := Fr.of_new ((Below.refl _ _).trans (HB1.out.mono (by simp)))
  have h2 : Fr (SetMod b sn A) w w2 := h1.trans (HF2.out.mono (fun k _ h => .inl h))
  refine ((h2.alloc _).grown HGR.out (fun k hk => ?_)).setCell (p := ⟨b, 0, none⟩) (.inl (.inl rfl)) _
  rcases A1 with _ | a1
  · cases hk
  · simp only [Value.ownBlock, Option.some.injEq] at hk
    subst hk
    rcases HM2.out with ⟨hsn, hA⟩ | ⟨_, g', hg', hA⟩
    · left; right; exact ⟨hsn.symm, a1, hA.symm, rfl⟩
    · injection hA with hA
      subst hA
      right; dsimp only; omega
 rw [← hw4]
 have HgM := Lib.hid hgM
 have HgMv := Lib.hid hgMv
 have HB4 := Lib.hid hB4
 have HR4 := Lib.hid hR4
 have HF4 := Lib.hid hF4
 have s4 := hB4.cell 0
 have s4' : w4.cell? ⟨b, 0, none⟩ = some (.slice (some ⟨g, 0, none⟩) (l.length + 1) c2) := s4
 clear s4 hw4 hB4 hR4 hF4 hat hgM hgMv hnil  s0 f0
 go_wp2_with fail
 go_loopw [7] (fun s wr => ∃ i : Nat, s = .int .i64 i ∧ rank cmpName l x ≤ i ∧ i ≤ l.length ∧ wr.ownsRow 0 125 1 (.slice (some ⟨g, 0, none⟩) (l.length + 1) c2) (l.length + 1) ((shiftAt l x i).flatMap Name.cells) ∧ Fr (· = g) w4 wr) (fun s wr => (intOf s).toNat)
 case atStart => exact ⟨l.length, by go_num, hrk, Nat.le_refl _, HR4.out, Fr.refl _ _⟩
 case round =>
  obtain ⟨i, rfl, hi1, hi2, hown, hfr⟩ := hrel
  have hgw : g < wr.heap.size := (hown.lt g rfl).2
  have r0 : wr.cell? ⟨b, 0, none⟩ = some (.slice (some ⟨g, 0, none⟩) (l.length + 1) c2) := (hfr.cell (p := ⟨b, 0, none⟩) HB4.out.lt (fun h => hgb h.symm)).trans s4'
  have fz : ∀ o, wr.frozen? ⟨g, o, none⟩ = false := fun o => hown.frozenAt o
  have HOW := Lib.hid hown
  have HFR := Lib.hid hfr
  clear hown hfr
  by_cases hlt : rank cmpName l x < i
  · obtain ⟨j, rfl⟩ : ∃ j, i = j + 1 := ⟨i - 1, by omega⟩
    have hj : j < l.length := by omega
    have hrd := ownsRow_rd (A := some ⟨g, 0, none⟩) (c := c2) (l := shiftAt l x (j + 1)) Name.cells_length (by rw [shiftAt_length l x hi2]; exact HOW.out)
    obtain ⟨g', o', hgo, _, hcell⟩ := hrd.at_ (k := j) (by rw [shiftAt_length l x hi2]; omega)
    injection hgo with hgo
    injection hgo with hg1 hg2
    subst hg1; subst hg2
    rw [shiftAt_read l x hj] at hcell
    have q0 : wr.cell? ⟨g, j, none⟩ = some (.string l[j]) := by simpa using hcell 0 _ rfl
    have rmj : Room wr g 125 (c2 * 1) ∧ l.length + 1 ≤ c2 := by
     rcases ownsRow_form HOW.out with ⟨hv, _⟩ | ⟨g', cap, hv, hn, _, hr, _⟩
     · cases hv
     · injection hv with hA _ hc
       injection hA with hA
       injection hA with hA
       subst hA; subst hc
       exact ⟨hr, hn⟩
    obtain ⟨hrm, hcap⟩ := rmj
    obtain ⟨u0, t0⟩ := hrm.cell (i := (j + 1)) (by omega)
    have b0 : (0 : Int) ≤ (j : Int) + 1 := by omega
    have b1 : (0 : Int) ≤ (j : Int) := by omega
    have b4 : (j : Int) < (l.length : Int) := by omega
    have b2 : (j : Int) < (l.length : Int) + 1 := by omega
    have b3 : (j : Int) + 1 < (l.length : Int) + 1 := by omega
    have w1 : IntKind.i64.wrap ((j : Int)) = (j : Int) := IntWalk.i64_in _ (by omega)
    have w2 : IntKind.i64.wrap ((j : Int) + 1 - 1) = (j : Int) := by rw [IntWalk.i64_in _ (by omega)]; omega
    clear hcell hrd hrm
    obtain ⟨y, hy⟩ : ∃ y, y = l[j] := ⟨_, rfl⟩
    rw [← hy] at q0
    have HY := Lib.hid hy
    have hbw : b < wr.heap.size := World.block_lt_of_cell? wr _ r0
    clear hy
    go_wp2_with fail
    refine wp_region_E (fun w9 => Below wr.heap.size wr w9) [(0, 0), (1, 0), (2, 0), (3, 1), (4, 0), (5, 0), (6, 0), (7, 0), (8, 1), (9, 0), (10, 0), (11, 0), (12, 1), (13, 0), (14, 2)] (by kernel_rfl) (by kernel_rfl) (fun KK hKK => ?_)
    simp only [beside, List.filterMap_cons, List.filterMap_nil, List.getElem?_toArray, List.getElem?_cons_zero, List.getElem?_cons_succ, Option.map_some]
    repeat (first | (refine wpX_w ?_ (Or.inl ⟨by rfl, fun w9 => ?_⟩) ?_; rotate_left 1; go_simp; with_reducible rfl; go_frame) | (refine wpX_l ?_ (((Below.refl _ _).drew)) (Or.inl ⟨by rfl, fun w9 hw9 => ?_⟩) ?_; rotate_left 1; obtain ⟨hc9, hf9⟩ := bcell hw9; go_simp; with_reducible rfl; go_frame) | (refine wpX_w undef (Or.inr ⟨by rfl, rfl⟩) ?_; go_frame) | (refine wpX_l undef (((Below.refl _ _).drew)) (Or.inr ⟨by rfl, rfl⟩) ?_; go_frame))
    refine wpX_e (by kernel_rfl) (fun K9 hK9 => ?_)
    go_simp
    refine hK9 _ _ ?_
    clear hK9 K9
    refine wpX_nil ?_
    simp only [OnlyN_normal]
    refine hKK _ _ ?_
    clear hKK KK
    go_wp2_with fail
    go_roundw
    case rel =>
     refine ⟨j, by go_num, by omega, by omega, ?_, Fr.drew ((HFR.out).setCell (p := ⟨g, (j + 1), none⟩) (.inl rfl) (_))⟩
     have hst := ((HOW.out).stored ((j + 1)) (.string y)).1
     have he : setAll ((shiftAt l x (j + 1)).flatMap Name.cells) ((j + 1)) (Name.cells y) = (shiftAt l x j).flatMap Name.cells := by
      rw [flat_set1 Name.cells_length (by omega) _ (j + 1) (by rw [shiftAt_length l x hi2]; omega), HY.out, shiftAt_step l x hj]
     rw [← he]
     exact hst
    case measure => simp [intOf] <;> omega
  · obtain rfl : i = rank cmpName l x := by omega
    have rmj : Room wr g 125 (c2 * 1) ∧ l.length + 1 ≤ c2 := by
     rcases ownsRow_form HOW.out with ⟨hv, _⟩ | ⟨g', cap, hv, hn, _, hr, _⟩
     · cases hv
     · injection hv with hA _ hc
       injection hA with hA
       injection hA with hA
       subst hA; subst hc
       exact ⟨hr, hn⟩
    obtain ⟨hrm, hcap⟩ := rmj
    obtain ⟨k, hk⟩ : ∃ k, k = rank cmpName l x := ⟨_, rfl⟩
    rw [← hk] at hi2 hlt ⊢
    obtain ⟨u0, t0⟩ := hrm.cell (i := k) (by omega)
    have b1 : (0 : Int) ≤ (k : Int) := by omega
    have b2 : (k : Int) < (l.length : Int) + 1 := by omega
    have HK := Lib.hid hk
    have hbw : b < wr.heap.size := World.block_lt_of_cell? wr _ r0
    clear hrm hk 
    go_wp2_with fail
    go_ret
    have HOWk := HOW.out
    rw [← HK.out] at HOWk
    have hst := ((HOWk).stored (k) (.string x)).1
    have he : setAll ((shiftAt l x k).flatMap Name.cells) (k) (Name.cells x) = (put cmpName l x).flatMap Name.cells := by
     rw [flat_set1 Name.cells_length (by omega) _ k (by rw [shiftAt_length l x hi2]; omega), shiftAt_end l x hi2, put_eq tc_name HO.out hh, HK.out]
    have hln := length_put tc_name HO.out hh
    refine ⟨by rw [hh]; rfl, false, some ⟨g, 0, none⟩, c2, ⟨?_, ?_⟩, ?_, ?_⟩
    · rw [hln]
      exact (HB4.out.fr HFR.out (fun h => hgb h.symm)).far (p := ⟨g, k, none⟩) (fun h => hgb h.symm) _
    · rw [hln, ← he]
      exact hst
    · exact HF4.out.into (((HFR.out).setCell (p := ⟨g, k, none⟩) (.inl rfl) (_))) (fun k hk => by subst hk; exact HgM.out)
    · exact HgMv.out
theorem put_Name (b c : Nat) (sn : Bool) (A : Option Addr) (l : List Name) (x : Name) (w : World) (hS : NameSet w b sn A c l) (hs : Srt cmpName l) (hl : (l.length : Int) ≤ 100000000) :
 Calls Tryz.prog 97 #[.pointer (some ⟨b, 0, none⟩), .string x] w (PutPostName w b sn A l x) := by
 cases hh : has cmpName l x
 · exact put_new_Name b c sn A l x w hS hs hl hh
 · exact put_there_Name b c sn A l x w hS hs hl hh
end Go.Proofs.YtpndmjabjjbefaaGreat
namespace Go.Proofs.YtpndmjabjjbefaaGreat
open Go.RowKit
set_option maxRecDepth 100000 in
set_option maxHeartbeats 400000 in
theorem place_Name (b c : Nat) (sn : Bool) (A : Option Addr) (l : List Name) (x : Name) (w : World) (hS : NameSet w b sn A c l) (hs : Srt cmpName l) (hl : (l.length : Int) ≤ 1000000000) :
 Calls Tryz.prog 123 #[.pointer (some ⟨b, 0, none⟩), .string x] w (FoundName l x w) := by
 have HS := Lib.hid hS
 have HO := Lib.hid hs
 clear hS hs
 go_enter Tryz.func123, Tryz.ntmps123
 go_wp2_with fail
 refine (find_Name b c sn A l x _ (HS.out.new_ (Below.refl _ _)) HO.out (by omega)).mono ?_
 rintro e w1 ⟨rfl, hb1⟩
 go_wp2_with fail
 go_ret2
 exact ⟨rfl, (Below.refl _ _).trans (hb1.mono (by simp))⟩
def ClonePostName (w : World) (b : Nat) (A : Option Addr) (c : Nat) (l : List Name) (e : Ending) (w' : World) : Prop :=
 ∃ k, e = .returned (.pointer (some ⟨k, 0, none⟩)) ∧ w.heap.size ≤ k ∧ NameSet w' b true A c l ∧ NameSet w' k true A c l ∧ Fr (· = b) w w'
set_option maxRecDepth 100000 in
set_option maxHeartbeats 1000000 in
theorem clone_Name (b c : Nat) (sn : Bool) (A : Option Addr) (l : List Name) (w : World) (hS : NameSet w b sn A c l) :
 Calls Tryz.prog 120 #[.pointer (some ⟨b, 0, none⟩)] w (ClonePostName w b A c l) := by
 have s0 := hS.cell0
 have s1 := hS.cell1
 have f1 := hS.blk.frozen 1
 have hb := hS.lt
 have HS := Lib.hid hS
 clear hS
 go_enter Tryz.func120, Tryz.ntmps120
 go_wp2
 go_ret
 have h1 : NameSet (w.setCell ⟨b, 1, none⟩ (.bool true)) b true A c l := ⟨HS.out.blk.set_ 1 _, ownsRow_setCell_other HS.out.row (own_blk_ne HS.out.row HS.out.blk (by decide)) _⟩
 refine ⟨w.heap.size, by simp, Nat.le_refl _, h1.new_ ((Below.refl _ _).alloc (Nat.le_refl _) _), ⟨?_, ownsRow_new h1.row ((Below.refl _ _).alloc (Nat.le_refl _) _)⟩, ((Fr.refl (· = b) w).setCell (p := ⟨b, 1, none⟩) (.inl rfl) _).alloc _⟩
 have h2 := Blk.new (w.setCell ⟨b, 1, none⟩ (.bool true)) 155 #[.slice A l.length c, .bool true]
 simpa using h2
end Go.Proofs.YtpndmjabjjbefaaGreat
namespace Go.Proofs.YtpndmjabjjbefaaGreat
open Go.RowKit
def NewPostName (w : World) (xs : List Name) (e : Ending) (w' : World) : Prop :=
 ∃ k, e = .returned (.pointer (some ⟨k, 0, none⟩)) ∧ w.heap.size ≤ k ∧ ∃ sn A c, NameSet w' k sn A c (puts cmpName [] xs) ∧ AIn A (w.heap.size ≤ ·) ∧ Below w.heap.size w w'
set_option maxRecDepth 100000 in
set_option maxHeartbeats 2000000 in
theorem new_Name (A : Option Addr) (c : Nat) (xs : List Name) (w : World) (hrd : RowRd w 1 Name.cells A c xs) (hl : (xs.length : Int) ≤ 10000000) :
 Calls Tryz.prog 70 #[.slice A xs.length c] w (NewPostName w xs) := by
 have HRD := Lib.hid hrd
 clear hrd
 go_enter Tryz.func70, Tryz.ntmps70
 go_wp2_with fail
 obtain ⟨W0, hW0⟩ : ∃ W0, W0 = w.alloc (.cells #[.slice none 0 0, .bool false] 155) := ⟨_, rfl⟩
 have hb0 : Below w.heap.size w W0 := by rw [hW0]; exact (Below.refl _ _).alloc (Nat.le_refl _) _
 have hS0 : NameSet W0 w.heap.size false none 0 [] := ⟨by rw [hW0]; exact Blk.new _ _ _, ⟨by simp, .inl ⟨rfl, rfl⟩⟩⟩
 rw [← hW0]
 clear hW0
 have HB0 := Lib.hid hb0
 have HS0 := Lib.hid hS0
 clear hb0 hS0
 go_loopw [10] (fun s wr => ∃ i : Nat, s = .int .i64 i ∧ i ≤ xs.length ∧ ∃ sn A' c', NameSet wr w.heap.size sn A' c' (puts cmpName [] (xs.take i)) ∧ AIn A' (w.heap.size ≤ ·) ∧ Below w.heap.size w wr) (fun s wr => xs.length - (intOf s).toNat)
 case atStart => exact ⟨0, rfl, Nat.zero_le _, false, none, 0, HS0.out, AIn.none_ _, HB0.out⟩
 case round =>
  obtain ⟨i, rfl, hi, sn, A', c', hS, hA', hB⟩ := hrel
  have HS := Lib.hid hS
  have HA := Lib.hid hA'
  have HB := Lib.hid hB
  clear hS hA' hB
  by_cases hlt : i < xs.length
  · obtain ⟨x, hx⟩ : ∃ x, x = xs[i] := ⟨_, rfl⟩
    obtain ⟨g, off, rfl, hgs, hcell⟩ := (HRD.out.fr (Fr.of_new (M := fun _ => False) HB.out) (fun _ _ h => h)).at_ hlt
    rw [← hx] at hcell
    have q0 : wr.cell? ⟨g, off + i, none⟩ = some (.string x) := by simpa using hcell 0 _ rfl
    have b1 : (0 : Int) ≤ (i : Int) := by omega
    have b2 : (i : Int) < (xs.length : Int) := by omega
    have HX := Lib.hid hx
    clear hcell hx
    go_wp2_with fail
    have hsr := Srt.puts tc_name (xs.take i) (Srt.nil (cmp := cmpName))
    have hlen : (((puts cmpName [] (xs.take i)).length : Nat) : Int) ≤ 100000000 := by
     have := length_puts_le tc_name (xs.take i) (Srt.nil (cmp := cmpName))
     simp at this
     omega
    refine (put_Name w.heap.size c' sn A' _ x _ (HS.out.new_ (Below.refl _ _)) hsr hlen).mono ?_
    rintro e w1 ⟨rfl, sn2, A2, c2, hS2, hF2, hM2⟩
    have hB1 : Below w.heap.size w w1 := (HB.out).trans (hF2.below (by have := HB.out.size; (try simp); omega) (fun k hk hm => by
     rcases hm with hm | ⟨_, a, ha, hm⟩
     · omega
     · have := HA.out a ha; omega))
    have hA2 : AIn A2 (w.heap.size ≤ ·) := by
     rcases hM2 with ⟨_, rfl⟩ | ⟨_, g2, hg2, rfl⟩
     · exact HA.out
     · intro a ha; cases ha; have := HB.out.size; (try simp at hg2 ⊢); omega
    have HS2 := Lib.hid hS2
    have HB1 := Lib.hid hB1
    have HA2 := Lib.hid hA2
    clear hS2 hB1 hA2 hF2 hM2 hsr hlen q0
    go_wp2_with fail
    go_roundw
    case rel =>
     refine ⟨i + 1, by go_num, by omega, sn2, A2, c2, ?_, HA2.out, HB1.out⟩
     rw [List.take_add_one, List.getElem?_eq_getElem hlt, ← HX.out]
     simp only [Option.toList_some, puts_snoc]
     exact HS2.out
    case measure => simp [intOf] <;> omega
  · have hie : i = xs.length := by omega
    subst hie
    go_wp2_with fail
    go_ret
    refine ⟨w.heap.size, rfl, Nat.le_refl _, sn, A', c', ?_, HA.out, HB.out⟩
    have := HS.out
    rwa [List.take_length] at this
end Go.Proofs.YtpndmjabjjbefaaGreat
namespace Go.Proofs.YtpndmjabjjbefaaGreat
open Go.RowKit
abbrev NameSets := Sets (α := Name) 155 125 1 Name.cells cmpName
section
variable {D : Nat → Prop} {w : World} {S : Nat → Option (List Name)} {σ : Nat → St} {b : Nat} {l : List Name}
def ChangedName (D : Nat → Prop) (w : World) (S : Nat → Option (List Name)) (σ : Nat → St) (b : Nat) (l : List Name) (w' : World) : Prop :=
 ∃ σ', NameSets D w' (upd S b (some l)) σ' ∧ (∀ k, k ≠ b → σ' k = σ k) ∧ Fr (fun k => ¬ D k) w w' ∧ Fr (SetMod b (σ b).sn (σ b).A) w w'
theorem sPut_Name (x : Name) (h : NameSets D w S σ) (hb : S b = some l) (hl : (l.length : Int) ≤ 100000000) :
 Calls Tryz.prog 97 #[.pointer (some ⟨b, 0, none⟩), .string x] w fun e w' => e = .returned (.bool (!has cmpName l x)) ∧ ChangedName D w S σ b (put cmpName l x) w' := by
 refine (put_Name b _ _ _ l x w (h.at_ b l hb) (h.srt b l hb) hl).mono ?_
 rintro e w' ⟨he, sn', A', c', h1, hF, hM⟩
 exact ⟨he, _, h.moved (by decide) hb h1 ((h.srt b l hb).put tc_name x) hF hM, fun k hk => upd_ne _ _ hk, h.mod hb hF, hF⟩
def MadeName (D : Nat → Prop) (w : World) (S : Nat → Option (List Name)) (_ : Nat → St) (l : List Name) (e : Ending) (w' : World) : Prop :=
 ∃ k, e = .returned (.pointer (some ⟨k, 0, none⟩)) ∧ w.heap.size ≤ k ∧ (∀ b l, S b = some l → b ≠ k) ∧ ∃ σ', NameSets D w' (upd S k (some l)) σ' ∧ Fr (fun k => ¬ D k) w w'
theorem sNew_Name (A : Option Addr) (c : Nat) (xs : List Name) (h : NameSets D w S σ) (hrd : RowRd w 1 Name.cells A c xs) (hl : (xs.length : Int) ≤ 10000000) :
 Calls Tryz.prog 70 #[.slice A xs.length c] w fun e w' => MadeName D w S σ (puts cmpName [] xs) e w' ∧ Below w.heap.size w w' := by
 refine (new_Name A c xs w hrd hl).mono ?_
 rintro e w' ⟨k, he, hk, sn, A', c', h1, hA, hB⟩
 exact ⟨⟨k, he, hk, fun b l hb e => by have := h.lt hb; omega, _, h.add hk h1 (Srt.puts tc_name xs Srt.nil) (.inl hA) hB, Fr.of_new hB⟩, hB⟩
theorem sClone_Name (h : NameSets D w S σ) (hb : S b = some l) :
 Calls Tryz.prog 120 #[.pointer (some ⟨b, 0, none⟩)] w fun e w' => ∃ k, e = .returned (.pointer (some ⟨k, 0, none⟩)) ∧ w.heap.size ≤ k ∧ (∀ b l, S b = some l → b ≠ k) ∧
  ∃ σ', NameSets D w' (upd S k (some l)) σ' ∧ (∀ j, j ≠ k → j ≠ b → σ' j = σ j) ∧ (σ' b).sn = true ∧ (σ' b).A = (σ b).A ∧ (σ' k).sn = true ∧ (σ' k).A = (σ b).A ∧ Fr (fun k => ¬ D k) w w' ∧ Fr (· = b) w w' := by
 refine (clone_Name b _ _ _ l w (h.at_ b l hb)).mono ?_
 rintro e w' ⟨k, he, hk, h1, h2, hF⟩
 have hnb : b ≠ k := fun e => by have := h.lt hb; omega
 have hD : Fr (fun k => ¬ D k) w w' := hF.mono (fun k _ hk => by rw [hk]; exact (h.out b l hb).1)
 have hs := h.seen (by decide) hb h1 hF
 have hrow := (h.at_ b l hb).row_lt
 refine ⟨k, he, hk, fun b l hb e => by have := h.lt hb; omega, upd (upd σ b ⟨true, (σ b).A, (σ b).c⟩) k ⟨true, (σ b).A, (σ b).c⟩, ⟨fun j m hj => ?_, fun j m hj => ?_, fun j m hj => ?_, fun j m j' m' hj hj' hjj hsj a a' ha ha' => ?_, hs.low⟩, fun j h1 h2 => by rw [upd_ne _ _ h1, upd_ne _ _ h2], by rw [upd_ne _ _ hnb, upd_same], by rw [upd_ne _ _ hnb, upd_same], by rw [upd_same], by rw [upd_same], hD, hF⟩
 · by_cases e : j = k
   · subst e; rw [upd_same] at hj ⊢; cases hj; exact h2
   · rw [upd_ne _ _ e] at hj ⊢; exact hs.at_ j m hj
 · by_cases e : j = k
   · subst e; rw [upd_same] at hj; cases hj; exact h.srt b l hb
   · rw [upd_ne _ _ e] at hj; exact h.srt j m hj
 · by_cases e : j = k
   · subst e; rw [upd_same] at hj ⊢; cases hj
     exact ⟨fun hd => by have := h.low _ hd; omega, fun hs2 => by cases hs2⟩
   · rw [upd_ne _ _ e] at hj ⊢; exact hs.out j m hj
 · by_cases e : j = k
   · subst e; rw [upd_same] at hsj; cases hsj
   · rw [upd_ne _ _ e] at hj hsj ha
     by_cases e2 : j' = k
     · subst e2
       rw [upd_same] at ha'
       by_cases e3 : j = b
       · subst e3; rw [upd_same] at hsj; cases hsj
       · exact hs.apart j m b l hj hb e3 hsj a a' ha (by rw [upd_same]; exact ha')
     · rw [upd_ne _ _ e2] at hj' ha'
       exact hs.apart j m j' m' hj hj' hjj hsj a a' ha ha'
end
end Go.Proofs.YtpndmjabjjbefaaGreat
namespace Go.Proofs.YtpndmjabjjbefaaGreat
open Go.RowKit Go.Shelf
structure KnS (W : World) (S : Nat → Option (List Name)) (kb sb : Nat) (K : Kn) (A : Option Addr) (c : Nat) : Prop where
 blk : Blk W kb 127 #[.pointer (some ⟨sb, 0, none⟩), .slice A K.2.length c]
 row : W.ownsRow 0 9 1 (.slice A K.2.length c) K.2.length (K.2.map Value.string)
 set : S sb = some K.1
set_option maxHeartbeats 2000000 in
theorem khas_is {D : Nat → Prop} {W : World} {S : Nat → Option (List Name)} {σ : Nat → St} {kb sb : Nat} {K : Kn} {A : Option Addr} {c : Nat} (v : ByteArray) (hN : NameSets D W S σ) (hK : KnS W S kb sb K A c) (hl : (K.1.length : Int) ≤ 1000000) :
 Calls Tryz.prog 100 #[.pointer (some ⟨kb, 0, none⟩), .string v] W fun e W' => e = .returned (.bool (hasK K v)) ∧ Below W.heap.size W W' := by
 have s0 : W.cell? ⟨kb, 0, none⟩ = some (.pointer (some ⟨sb, 0, none⟩)) := (hK.blk.cell 0).trans rfl
 have hkl := hK.blk.lt
 have HS := Lib.hid (hN.at_ sb K.1 hK.set)
 have HO := Lib.hid (hN.srt sb K.1 hK.set)
 clear hN hK
 go_enter Tryz.func100, Tryz.ntmps100
 go_wp2_with fail
 refine (place_Name sb _ _ _ K.1 v _ HS.out HO.out (by omega)).mono ?_
 rintro e w1 ⟨rfl, hb1⟩
 go_wp2_with fail
 go_ret
 exact ⟨rfl, hb1⟩
set_option maxHeartbeats 2000000 in
theorem kinner_is {D : Nat → Prop} {W : World} {S : Nat → Option (List Name)} {σ : Nat → St} {kb sb : Nat} {K : Kn} {A : Option Addr} {c : Nat} (hN : NameSets D W S σ) (hK : KnS W S kb sb K A c) :
 Calls Tryz.prog 98 #[.pointer (some ⟨kb, 0, none⟩)] W fun e W' => ∃ kb' sb', e = .returned (.pointer (some ⟨kb', 0, none⟩)) ∧ W.heap.size ≤ kb' ∧ W.heap.size ≤ sb' ∧ (∃ σ', NameSets D W' (upd S sb' (some K.1)) σ') ∧ KnS W' (upd S sb' (some K.1)) kb' sb' (K.1, []) none 0 ∧ Fr (fun j => ¬ D j) W W' ∧ Fr (· = sb) W W' := by
 have s0 : W.cell? ⟨kb, 0, none⟩ = some (.pointer (some ⟨sb, 0, none⟩)) := (hK.blk.cell 0).trans rfl
 have hkl := hK.blk.lt
 have HN := Lib.hid hN
 have HS := Lib.hid hK.set
 clear hN hK
 go_enter Tryz.func98, Tryz.ntmps98
 go_wp2_with fail
 refine (sClone_Name HN.out HS.out).mono ?_
 rintro e w1 ⟨k, rfl, hk, _, σ', h1, _, _, _, _, _, hF, hFb⟩
 have H1 := Lib.hid h1
 have HF := Lib.hid hF
 have HFb := Lib.hid hFb
 clear h1 hF hFb
 go_wp2_with fail
 go_ret
 have hn : Below w1.heap.size w1 (w1.alloc (.cells #[.pointer (some ⟨k, 0, none⟩), .slice none 0 0] 127)) := (Below.refl _ _).alloc (Nat.le_refl _) _
 exact ⟨w1.heap.size, k, rfl, HF.out.size, hk, ⟨σ', H1.out.below hn⟩, ⟨Blk.new _ _ _, owns_nil _ _ _ _, upd_same _ _ _⟩, HF.out.trans (Fr.of_new hn), HFb.out.trans (Fr.of_new hn)⟩
end Go.Proofs.YtpndmjabjjbefaaGreat
namespace Go.Proofs.YtpndmjabjjbefaaGreat
open Go.RowKit Go.Shelf
theorem Sets.off_of {α : Type} {tSet tE size : Nat} {cells : α → List Value} {cmp : α → α → Int} {D : Nat → Prop} {w : World} {S : Nat → Option (List α)} {σ : Nat → St} {k : Nat} {t : TypeId} {cs : Array Value} (h : Sets tSet tE size cells cmp D w S σ) (hB : Blk w k t cs) (n1 : t ≠ tSet) (n2 : t ≠ tE) : Off k S σ :=
 fun b l hb => ⟨fun e => hB.ne_ (h.at_ b l hb).blk n1 e.symm, fun a ha e => by
  have := own_blk_ne (h.at_ b l hb).row hB (Ne.symm n2)
  rw [ha] at this
  exact this (by simp [Value.ownBlock, e])⟩
theorem Sets.offM {α : Type} {tSet tE size : Nat} {cells : α → List Value} {cmp : α → α → Int} {D M : Nat → Prop} {w w' : World} {S : Nat → Option (List α)} {σ : Nat → St} (h : Sets tSet tE size cells cmp D w S σ) (ho : ∀ q, M q → Off q S σ) (hF : Fr M w w') : Sets tSet tE size cells cmp D w' S σ :=
 ⟨fun b l hb => (h.at_ b l hb).fr hF (fun hd => (ho b hd b l hb).1 rfl) (fun a ha hd => (ho _ hd b l hb).2 a ha rfl), h.srt, h.out, h.apart, fun k hk => Nat.lt_of_lt_of_le (h.low k hk) hF.size⟩
theorem owns_far {α : Type} {tSet tE size : Nat} {cells : α → List Value} {w w' : World} {b : Nat} {sn : Bool} {A : Option Addr} {c : Nat} {l : List α} {e sz n : Nat} {v : Value} {xs : List Value} (hS : SetAt tSet tE size cells w b sn A c l) (h : w.ownsRow 0 e sz v n xs) (n1 : e ≠ tSet) (n2 : e ≠ tE) (hF : Fr (SetMod b sn A) w w') : w'.ownsRow 0 e sz v n xs :=
 ⟨h.1, h.2.imp id fun ⟨g, cap, cur, hv, h0, hg, hr⟩ => ⟨g, cap, cur, hv, h0, Blk.fr (t := e) hg hF (blk_far hS hg n1 n2), hr⟩⟩
theorem news_one {Y : World} {t : TypeId} {cs : List Value} {k : Nat} (hk : Y.heap.size = k) : ∀ (j : Nat) (u : Value), cs[j]? = some u → (Y.alloc (.cells cs.toArray t)).cell? ((⟨k, 0, none⟩ : Addr).add j) = some u := by
 subst hk
 exact World.news_of_block (heap_alloc_new _ _)
def MetTo (D : Nat → Prop) (W : World) (S : Nat → Option (List Name)) (kb sb : Nat) (K : Kn) (v : ByteArray) (W' : World) : Prop :=
 ∃ σ' A' c', NameSets D W' (upd S sb (some (metK K v).1)) σ' ∧ KnS W' (upd S sb (some (metK K v).1)) kb sb (metK K v) A' c' ∧ AIn A' (fun j => ¬ D j) ∧ Fr (fun j => ¬ D j) W W'
theorem info_str : (Tryz.prog.info? 9).map (fun i => (i.zero, i.size, i.bytes)) = some (some (.string ⟨#[]⟩), 1, 16) := by kernel_rfl
set_option maxRecDepth 100000 in
set_option maxHeartbeats 4000000 in
theorem kmet_is {D : Nat → Prop} {W : World} {S : Nat → Option (List Name)} {σ : Nat → St} {kb sb : Nat} {K : Kn} {A : Option Addr} {c : Nat} (v : ByteArray) (hN : NameSets D W S σ) (hK : KnS W S kb sb K A c) (hkD : ¬ D kb) (hAD : AIn A (fun j => ¬ D j)) (hl : (K.1.length : Int) ≤ 1000000) (hl2 : (K.2.length : Int) ≤ 1000000) :
 Calls Tryz.prog 121 #[.pointer (some ⟨kb, 0, none⟩), .string v] W fun e W' => e = .returned (.tuple #[]) ∧ MetTo D W S kb sb K v W' := by
 obtain ⟨i0, hi0, hz0, hz1, hz2⟩ := info_parts info_str
 have s0 : W.cell? ⟨kb, 0, none⟩ = some (.pointer (some ⟨sb, 0, none⟩)) := (hK.blk.cell 0).trans rfl
 have hkl := hK.blk.lt
 have HN := Lib.hid hN
 have HK := Lib.hid hK
 have HAD := Lib.hid hAD
 have HKD := Lib.hid hkD
 have HSA := Lib.hid (hN.at_ sb K.1 hK.set)
 clear hN hK hAD hkD
 go_enter Tryz.func121, Tryz.ntmps121
 go_wp2_with fail
 refine (sPut_Name v HN.out HK.out.set (by omega)).mono ?_
 rintro e w1 ⟨rfl, σ', h1, _, hF, hFb⟩
 have hkb1 := HK.out.blk.fr hFb (blk_far HSA.out HK.out.blk (by decide) (by decide))
 have hrw1 := owns_far HSA.out HK.out.row (by decide) (by decide) hFb
 have H1 := Lib.hid h1
 have HF := Lib.hid hF
 have HKB := Lib.hid hkb1
 have HRW := Lib.hid hrw1
 clear h1 hF hFb
 cases hh : has cmpName K.1 v
 · have hm : metK K v = (put cmpName K.1 v, K.2 ++ [v]) := by unfold metK; rw [hh]; rfl
   have HM := Lib.hid hm
   have s1 : w1.cell? ⟨kb, 1, none⟩ = some (.slice A K.2.length c) := (hkb1.cell 1).trans rfl
   have f1 := hkb1.frozen 1
   have hkl1 := hkb1.lt
   have hlt1 := HF.out.size
   clear hm hh hkb1 hrw1 s0
   go_wp2_with (at_builtin; refine wpList_append_src _ rfl (.tmp 14) (.tmp 16) 47 rfl 9 i0 _ 1 16 Tryz.underlying47 hi0 hz0 hz1 hz2 rfl (by omega) (.slice A K.2.length c) K.2.length (K.2.map Value.string) rfl (ownsRow_new HRW.out ((Below.refl _ _).alloc (Nat.le_refl _) _)) _ 1 1 [Value.string v] rfl rfl (fun _ => ⟨_, rfl, news_one (by simp)⟩) (by intro u hu; simp at hu; subst hu; rfl) (by unfold maxLen; omega) (by omega) ?_; intro v' w4 hown hg hnil hat; obtain ⟨A', c', rfl, _, _, _⟩ := own_form2 hown; have hkb4 := (HKB.out.alloc (.cells #[.string v] 9)).grown hg (own_blk_ne HRW.out HKB.out (by decide)); have s1 := (hkb4.cell 1).trans rfl; have f1 := hkb4.frozen 1; have hkl1 := hkb4.lt; have HKB4 := Lib.hid hkb4; have HO4 := Lib.hid hown; have HG4 := Lib.hid hg; have HAT := Lib.hid hat; clear hkb4 hown hg hnil hat)
   go_end0
   refine ⟨rfl, ?_⟩
   unfold MetTo
   rw [HM.out]
   have hfr : Fr (fun j => (Value.slice A K.2.length c).ownBlock = some j ∨ j = kb) w1 (w4.setCell ⟨kb, 1, none⟩ (.slice A' (K.2.length + 1) c')) := (((Fr.refl _ w1).alloc _).grown HG4.out (fun k hk => .inl (.inl hk))).setCell (p := ⟨kb, 1, none⟩) (.inl (.inr rfl)) _
   have hoff : ∀ k, ((Value.slice A K.2.length c).ownBlock = some k ∨ k = kb) → Off k (upd S sb (some (put cmpName K.1 v))) σ' := by
    intro k hk
    rcases hk with hk | rfl
    · rcases HRW.out.2 with ⟨hv, _⟩ | ⟨g, cap, cur, hv, _, hg, _⟩
      · rw [hv] at hk; simp [Value.ownBlock] at hk
      · rw [hv] at hk
        have e : g = k := by simpa [Value.ownBlock] using hk
        subst e
        exact H1.out.off_of (t := 9) hg (by decide) (by decide)
    · exact H1.out.off_of HKB.out (by decide) (by decide)
   refine ⟨σ', A', c', H1.out.offM hoff hfr, ⟨?_, ?_, upd_same _ _ _⟩, ?_, HF.out.trans (hfr.mono (fun j _ hj => ?_))⟩
   · have := HKB4.out.set_ 1 (.slice A' (K.2.length + 1) c')
     rw [List.length_append]
     exact this
   · have h9 := ownsRow_setCell_other (a := ⟨kb, 1, none⟩) HO4.out (own_blk_ne HO4.out HKB4.out (by decide)) (.slice A' (K.2.length + 1) c')
     rw [List.length_append, List.map_append]
     exact h9
   · intro a ha hd
     subst ha
     have hlow := H1.out.low _ hd
     rcases HAT.out with h | h
     · rcases A with _ | b
       · simp [Value.ownBlock] at h
       · have e : a.block = b.block := by simpa [Value.ownBlock] using h
         exact HAD.out b rfl (e ▸ hd)
     · have e : a.block = w1.heap.size + 1 := by simpa [Value.ownBlock] using h
       omega
   · rcases hj with hj | rfl
     · rcases A with _ | b
       · simp [Value.ownBlock] at hj
       · have e : b.block = j := by simpa [Value.ownBlock] using hj
         exact fun hd => HAD.out b rfl (e ▸ hd)
     · exact HKD.out
 · have hm : metK K v = (put cmpName K.1 v, K.2) := by unfold metK; rw [hh]; rfl
   have HM := Lib.hid hm
   clear hm hh
   go_wp2_with fail
   go_end0
   refine ⟨rfl, ?_⟩
   unfold MetTo
   rw [HM.out]
   exact ⟨σ', A, c, H1.out, ⟨HKB.out, HRW.out, upd_same _ _ _⟩, HAD.out, HF.out⟩
end Go.Proofs.YtpndmjabjjbefaaGreat
namespace Go.Proofs.YtpndmjabjjbefaaGreat
open Go.RowKit Go.Shelf
theorem upd_twice {α : Type} (S : Nat → α) (b : Nat) (x y : α) : upd (upd S b x) b y = upd S b y := by
 funext k
 by_cases e : k = b
 · subst e; rw [upd_same, upd_same]
 · rw [upd_ne _ _ e, upd_ne _ _ e, upd_ne _ _ e]
def KSt (D : Nat → Prop) (W : World) (S : Nat → Option (List Name)) (kb sb : Nat) (K : Kn) (W' : World) : Prop :=
 ∃ σ' A' c', NameSets D W' (upd S sb (some K.1)) σ' ∧ KnS W' (upd S sb (some K.1)) kb sb K A' c' ∧ AIn A' (fun j => ¬ D j) ∧ Fr (fun j => ¬ D j) W W'
theorem KSt.below {D : Nat → Prop} {W W1 W2 : World} {S : Nat → Option (List Name)} {kb sb : Nat} {K : Kn} (h : KSt D W S kb sb K W1) (hb : Below W1.heap.size W1 W2) : KSt D W S kb sb K W2 := by
 obtain ⟨σ', A', c', h1, h2, h3, h4⟩ := h
 exact ⟨σ', A', c', h1.below hb, ⟨h2.blk.new_ hb, ownsRow_new h2.row hb, h2.set⟩, h3, h4.trans (Fr.of_new hb)⟩
theorem metK_len (K : Kn) (v : ByteArray) (hs : Srt cmpName K.1) : (metK K v).1.length ≤ K.1.length + 1 ∧ (metK K v).2.length ≤ K.2.length + 1 := by
 unfold metK
 cases h : has cmpName K.1 v
 · simp [length_put tc_name hs h]
 · simp [put_has h]
theorem KSt.met {D : Nat → Prop} {W W1 : World} {S : Nat → Option (List Name)} {kb sb : Nat} {K : Kn} (v : ByteArray) (h : KSt D W S kb sb K W1) (hkD : ¬ D kb) (hl : (K.1.length : Int) ≤ 1000000) (hl2 : (K.2.length : Int) ≤ 1000000) :
 Calls Tryz.prog 121 #[.pointer (some ⟨kb, 0, none⟩), .string v] W1 fun e W' => e = .returned (.tuple #[]) ∧ KSt D W S kb sb (metK K v) W' ∧ (metK K v).1.length ≤ K.1.length + 1 ∧ (metK K v).2.length ≤ K.2.length + 1 := by
 obtain ⟨σ', A', c', h1, h2, h3, h4⟩ := h
 refine (kmet_is v h1 h2 hkD h3 hl hl2).mono ?_
 rintro e W' ⟨he, σ2, A2, c2, g1, g2, g3, g4⟩
 rw [upd_twice] at g1 g2
 exact ⟨he, ⟨σ2, A2, c2, g1, g2, g3, h4.trans g4⟩, metK_len K v (h1.srt sb _ (upd_same _ _ _))⟩
theorem KSt.has_ {D : Nat → Prop} {W W1 : World} {S : Nat → Option (List Name)} {kb sb : Nat} {K : Kn} (v : ByteArray) (h : KSt D W S kb sb K W1) (hl : (K.1.length : Int) ≤ 1000000) :
 Calls Tryz.prog 100 #[.pointer (some ⟨kb, 0, none⟩), .string v] W1 fun e W' => e = .returned (.bool (hasK K v)) ∧ Below W1.heap.size W1 W' := by
 obtain ⟨σ', A', c', h1, h2, h3, h4⟩ := h
 exact khas_is v h1 h2 hl
theorem drop_one {α : Type} {l : List α} {i : Nat} (h : i < l.length) : l.drop i = l[i] :: l.drop (i + 1) := List.drop_eq_getElem_cons h
theorem fieldK_cons (k : Kn) (t : TestT) (l : List TestT) : fieldK k (t :: l) = if t.rel = 8 ∨ t.var.toList = [] then fieldK k l else if t.rel = 1 then fieldK (metK k t.var) l else if hasK k t.var = true then fieldK k l else (false, k) := rfl
set_option maxRecDepth 100000 in
set_option maxHeartbeats 8000000 in
theorem kfield_is {D : Nat → Prop} {W : World} {S : Nat → Option (List Name)} {kb sb : Nat} {K : Kn} {A : Option Addr} {c : Nat} (l : List TestT) (h : KSt D W S kb sb K W) (hkD : ¬ D kb) (hrd : RowR repTestT D W A c l) (hl : (K.1.length : Int) + l.length ≤ 1000000) (hl2 : (K.2.length : Int) + l.length ≤ 1000000) :
 Calls Tryz.prog 122 #[.pointer (some ⟨kb, 0, none⟩), .slice A l.length c] W fun e W' => e = .returned (.bool (fieldK K l).1) ∧ KSt D W S kb sb (fieldK K l).2 W' ∧ (fieldK K l).2.1.length ≤ K.1.length + l.length ∧ (fieldK K l).2.2.length ≤ K.2.length + l.length := by
 have H0 := Lib.hid h
 have HR := Lib.hid hrd
 have HKD := Lib.hid hkD
 have hlc := hrd.cap
 clear h hrd hkD
 go_enter Tryz.func122, Tryz.ntmps122
 go_wp2_with fail
 go_loopw [9] (fun s wr => ∃ (i : Nat) (K' : Kn), s = .int .i64 i ∧ i ≤ l.length ∧ fieldK K l = fieldK K' (l.drop i) ∧ KSt D W S kb sb K' wr ∧ K'.1.length ≤ K.1.length + i ∧ K'.2.length ≤ K.2.length + i) (fun s wr => l.length - (intOf s).toNat)
 case atStart => exact ⟨0, K, rfl, Nat.zero_le _, rfl, H0.out, Nat.le_refl _, Nat.le_refl _⟩
 case round =>
  obtain ⟨i, K', rfl, hi, hfk, hst, hk1, hk2⟩ := hrel
  have HFK := Lib.hid hfk
  have HST := Lib.hid hst
  have HF := Lib.hid (show Fr (fun j => ¬ D j) W wr from by obtain ⟨_, _, _, _, _, _, h4⟩ := hst; exact h4)
  clear hfk hst
  by_cases hlt : i < l.length
  · obtain ⟨y, hy⟩ : ∃ y, y = l[i] := ⟨_, rfl⟩
    have hdr := drop_one hlt
    rw [← hy] at hdr
    obtain ⟨g, off, A1, c1, rfl, _, hg, q0, q1, q2, q3, q4, q5, hrow⟩ := at_TestT (HR.out.fr HF.out (fun j hd hn => hn hd)) hlt
    rw [← hy] at q0 q1 q2 q3 q4 q5
    have HDR := Lib.hid hdr
    have b1 : (0 : Int) ≤ (i : Int) := by omega
    have b2 : (i : Int) < (l.length : Int) := by omega
    clear hy hrow hdr
    by_cases h8 : y.rel = 8
    · have r1 : (y.rel == 8) = true := by simp [h8]
      have r2 : decide (y.rel = 8) = true := by simp [h8]
      have HS := Lib.hid (show fieldK K' (y :: l.drop (i + 1)) = fieldK K' (l.drop (i + 1)) by rw [fieldK_cons, if_pos (.inl h8)])
      clear h8
      go_wp2_with fail
      go_roundw
      case rel => exact ⟨i + 1, K', by go_num, by omega, by rw [HFK.out, HDR.out, HS.out], HST.out.below (by (repeat (first | exact Below.refl _ _ | (refine Below.drew ?_) | (refine Below.alloc ?_ (by simp <;> omega) _) | (refine Below.setCell ?_ (by simp <;> omega) _)))), by omega, by omega⟩
      case measure => simp [intOf] <;> omega
    have r1 : (y.rel == 8) = false := by simp [h8]
    have r2 : decide (y.rel = 8) = false := by simp [h8]
    by_cases hv : y.var.toList = []
    · have v1 : (y.var.toList == []) = true := by simp [hv]
      have v2 : y.var.toList.isEmpty = true := by simp [hv]
      have v3 : decide (y.var.toList = []) = true := by simp [hv]
      have HS := Lib.hid (show fieldK K' (y :: l.drop (i + 1)) = fieldK K' (l.drop (i + 1)) by rw [fieldK_cons, if_pos (.inr hv)])
      clear h8 hv
      go_wp2_with fail
      go_roundw
      case rel => exact ⟨i + 1, K', by go_num, by omega, by rw [HFK.out, HDR.out, HS.out], HST.out.below (by (repeat (first | exact Below.refl _ _ | (refine Below.drew ?_) | (refine Below.alloc ?_ (by simp <;> omega) _) | (refine Below.setCell ?_ (by simp <;> omega) _)))), by omega, by omega⟩
      case measure => simp [intOf] <;> omega
    have v1 : (y.var.toList == []) = false := by simp [hv]
    have v2 : y.var.toList.isEmpty = false := by simp [hv]
    have v3 : decide (y.var.toList = []) = false := by simp [hv]
    have hnot : ¬ (y.rel = 8 ∨ y.var.toList = []) := fun h => h.elim h8 hv
    by_cases h1 : y.rel = 1
    · have s1 : (y.rel == 1) = true := by simp [h1]
      have s2 : decide (y.rel = 1) = true := by simp [h1]
      have HS := Lib.hid (show fieldK K' (y :: l.drop (i + 1)) = fieldK (metK K' y.var) (l.drop (i + 1)) by rw [fieldK_cons, if_neg hnot, if_pos h1])
      clear h8 hv hnot h1
      go_wp2_with fail
      refine (KSt.met y.var (HST.out.below (by (repeat (first | exact Below.refl _ _ | (refine Below.drew ?_) | (refine Below.alloc ?_ (by simp <;> omega) _) | (refine Below.setCell ?_ (by simp <;> omega) _))))) HKD.out (by omega) (by omega)).mono ?_
      rintro e w5 ⟨rfl, hst5, hl5, hl6⟩
      have HST5 := Lib.hid hst5
      clear hst5 q0 q1 q2 q3 q4 q5
      go_wp2_with fail
      go_roundw
      case rel => exact ⟨i + 1, metK K' y.var, by go_num, by omega, by rw [HFK.out, HDR.out, HS.out], HST5.out, by omega, by omega⟩
      case measure => simp [intOf] <;> omega
    have s1 : (y.rel == 1) = false := by simp [h1]
    have s2 : decide (y.rel = 1) = false := by simp [h1]
    cases hh : hasK K' y.var
    · have HS := Lib.hid (show fieldK K' (y :: l.drop (i + 1)) = (false, K') by rw [fieldK_cons, if_neg hnot, if_neg h1, hh]; rfl)
      clear h8 hv hnot h1
      go_wp2_with fail
      refine (KSt.has_ y.var (HST.out.below (by (repeat (first | exact Below.refl _ _ | (refine Below.drew ?_) | (refine Below.alloc ?_ (by simp <;> omega) _) | (refine Below.setCell ?_ (by simp <;> omega) _))))) (by omega)).mono ?_
      rintro e w5 ⟨rfl, hb5⟩
      rw [hh]
      have hb5' := Below.trans (show Below wr.heap.size wr _ from (by (repeat (first | exact Below.refl _ _ | (refine Below.drew ?_) | (refine Below.alloc ?_ (by simp <;> omega) _) | (refine Below.setCell ?_ (by simp <;> omega) _))))) (hb5.mono (by simp))
      have HST5 := Lib.hid (HST.out.below hb5')
      have HE := Lib.hid (show fieldK K l = (false, K') by rw [HFK.out, HDR.out, HS.out])
      clear hb5 hb5' hh q0 q1 q2 q3 q4 q5
      go_wp2_with fail
      go_ret
      rw [HE.out]
      exact ⟨rfl, HST5.out, by dsimp only; omega, by dsimp only; omega⟩
    · have HS := Lib.hid (show fieldK K' (y :: l.drop (i + 1)) = fieldK K' (l.drop (i + 1)) by rw [fieldK_cons, if_neg hnot, if_neg h1, hh]; rfl)
      clear h8 hv hnot h1
      go_wp2_with fail
      refine (KSt.has_ y.var (HST.out.below (by (repeat (first | exact Below.refl _ _ | (refine Below.drew ?_) | (refine Below.alloc ?_ (by simp <;> omega) _) | (refine Below.setCell ?_ (by simp <;> omega) _))))) (by omega)).mono ?_
      rintro e w5 ⟨rfl, hb5⟩
      rw [hh]
      have hb5' := Below.trans (show Below wr.heap.size wr _ from (by (repeat (first | exact Below.refl _ _ | (refine Below.drew ?_) | (refine Below.alloc ?_ (by simp <;> omega) _) | (refine Below.setCell ?_ (by simp <;> omega) _))))) (hb5.mono (by simp))
      have HST5 := Lib.hid (HST.out.below hb5')
      clear hb5 hb5' hh q0 q1 q2 q3 q4 q5
      go_wp2_with fail
      go_roundw
      case rel => exact ⟨i + 1, K', by go_num, by omega, by rw [HFK.out, HDR.out, HS.out], HST5.out, by omega, by omega⟩
      case measure => simp [intOf] <;> omega
  · have hie : i = l.length := by omega
    subst hie
    have hend : fieldK K l = (true, K') := by rw [HFK.out, List.drop_length]; rfl
    have HE := Lib.hid hend
    clear hend
    go_wp2_with fail
    go_ret
    rw [HE.out]
    exact ⟨rfl, HST.out, hk1, hk2⟩
end Go.Proofs.YtpndmjabjjbefaaGreat
namespace Go.Proofs.YtpndmjabjjbefaaGreat
open Go.RowKit Go.Shelf
theorem KSt.fr_ {D : Nat → Prop} {W W1 : World} {S : Nat → Option (List Name)} {kb sb : Nat} {K : Kn} (h : KSt D W S kb sb K W1) : Fr (fun j => ¬ D j) W W1 := by
 obtain ⟨_, _, _, _, _, _, h4⟩ := h
 exact h4
theorem KSt.start {D : Nat → Prop} {W : World} {S : Nat → Option (List Name)} {σ : Nat → St} {kb sb : Nat} {K : Kn} {A : Option Addr} {c : Nat} (hN : NameSets D W S σ) (hK : KnS W S kb sb K A c) (hA : AIn A (fun j => ¬ D j)) : KSt D W S kb sb K W := by
 have e : upd S sb (some K.1) = S := upd_id _ _ _ hK.set
 exact ⟨σ, A, c, by rw [e]; exact hN, by rw [e]; exact hK, hA, Fr.refl _ _⟩
theorem KSt.lt {D : Nat → Prop} {W W1 : World} {S : Nat → Option (List Name)} {kb sb : Nat} {K : Kn} (h : KSt D W S kb sb K W1) : kb < W1.heap.size := by
 obtain ⟨_, _, _, _, h2, _, _⟩ := h
 exact h2.blk.lt
theorem row_low {W : World} {e size n : Nat} {A : Option Addr} {c : Nat} {xs : List Value} (h : W.ownsRow 0 e size (.slice A n c) n xs) : AIn A (· < W.heap.size) := by
 intro a ha
 rcases h.2 with ⟨hv, _⟩ | ⟨g, cap, cur, hv, _, hg, _⟩
 · simp only [Value.slice.injEq] at hv; rw [hv.1] at ha; cases ha
 · simp only [Value.slice.injEq] at hv; rw [hv.1] at ha; cases ha
   exact Blk.lt (t := e) (cs := cur) hg
theorem KSt.prot {D : Nat → Prop} {W W1 W2 : World} {S : Nat → Option (List Name)} {kb sb : Nat} {K : Kn} (h : KSt D W S kb sb K W1) (hb : Below W1.heap.size W1 W2) :
 KSt (fun k => D k ∨ (W1.heap.size ≤ k ∧ k < W2.heap.size)) W2 S kb sb K W2 := by
 obtain ⟨σ', A', c', h1, h2, h3, _⟩ := h
 refine ⟨σ', A', c', h1.protect hb, ⟨h2.blk.new_ hb, ownsRow_new h2.row hb, h2.set⟩, fun a ha hd => ?_, Fr.refl _ _⟩
 rcases hd with hd | hd
 · exact h3 a ha hd
 · have := row_low h2.row a ha; omega
theorem KSt.unprot {D D' : Nat → Prop} {W W1 W2 : World} {S : Nat → Option (List Name)} {kb sb : Nat} {K : Kn} (h : KSt D' W1 S kb sb K W2) (hF : Fr (fun j => ¬ D j) W W1) (hD : ∀ k, D k → D' k) : KSt D W S kb sb K W2 := by
 obtain ⟨σ', A', c', h1, h2, h3, h4⟩ := h
 exact ⟨σ', A', c', h1.weaken hD, h2, h3.mono (fun k hk hd => hk (hD k hd)), hF.trans (h4.mono (fun k _ hk hd => hk (hD k hd)))⟩
theorem KSt.prot0 {D : Nat → Prop} {W W1 : World} {S : Nat → Option (List Name)} {kb sb : Nat} {K : Kn} (h : KSt D W S kb sb K W1) : KSt D W1 S kb sb K W1 := by
 obtain ⟨σ', A', c', h1, h2, h3, _⟩ := h
 exact ⟨σ', A', c', h1, h2, h3, Fr.refl _ _⟩
theorem KSt.join {D : Nat → Prop} {W W1 W2 : World} {S : Nat → Option (List Name)} {kb sb : Nat} {K K' : Kn} (h : KSt D W1 S kb sb K W2) (h0 : KSt D W S kb sb K' W1) : KSt D W S kb sb K W2 := by
 obtain ⟨σ', A', c', h1, h2, h3, h4⟩ := h
 exact ⟨σ', A', c', h1, h2, h3, h0.fr_.trans h4⟩
set_option maxRecDepth 100000 in
set_option maxHeartbeats 8000000 in
theorem kone_is {D : Nat → Prop} {W : World} {S : Nat → Option (List Name)} {kb sb : Nat} {K : Kn} {A1 A2 A3 : Option Addr} {c1 c2 c3 : Nat} (x : CondT) (h : KSt D W S kb sb K W) (hkD : ¬ D kb) (h1 : RowR repTestT D W A1 c1 x.attr) (h2 : RowR repTestT D W A2 c2 x.value) (hl : (K.1.length : Int) + (1 + x.attr.length + x.value.length) ≤ 1000000) (hl2 : (K.2.length : Int) + (1 + x.attr.length + x.value.length) ≤ 1000000) :
 Calls Tryz.prog 99 #[.pointer (some ⟨kb, 0, none⟩), .agg #[.int .i64 x.kind, .bool x.goal, .string x.id, .slice A1 x.attr.length c1, .slice A2 x.value.length c2, .bool x.acc, .slice A3 x.conds.length c3]] W fun e W' => e = .returned (.bool (oneK K x).1) ∧ KSt D W S kb sb (oneK K x).2 W' ∧ (oneK K x).2.1.length ≤ K.1.length + (1 + x.attr.length + x.value.length) ∧ (oneK K x).2.2.length ≤ K.2.length + (1 + x.attr.length + x.value.length) := by
 have H0 := Lib.hid h
 have HKD := Lib.hid hkD
 have H1 := Lib.hid h1
 have H2 := Lib.hid h2
 have hl1c := h1.cap
 have hl2c := h2.cap
 clear h hkD h1 h2
 by_cases hg : x.goal = true
 · have g1 := hg
   have hgk : (if x.goal = true then metK K x.id else K) = metK K x.id := if_pos hg
   have H_g := Lib.hid g1
   have HG := Lib.hid hgk
   clear g1 hg hgk
   go_enter Tryz.func99, Tryz.ntmps99
   go_upto_region 1 with fail
   obtain ⟨W1, hW1⟩ : ∃ W1, W1 = W.alloc (.cells #[.int .i64 x.kind, .bool x.goal, .string x.id, .slice A1 x.attr.length c1, .slice A2 x.value.length c2, .bool x.acc, .slice A3 x.conds.length c3] 62) := ⟨_, rfl⟩
   rw [← hW1]
   have hbk : Blk W1 W.heap.size 62 #[.int .i64 x.kind, .bool x.goal, .string x.id, .slice A1 x.attr.length c1, .slice A2 x.value.length c2, .bool x.acc, .slice A3 x.conds.length c3] := by rw [hW1]; exact Blk.new _ _ _
   have hB : Below W.heap.size W W1 := by rw [hW1]; exact (Below.refl _ _).alloc (Nat.le_refl _) _
   have hsz : W1.heap.size = W.heap.size + 1 := by rw [hW1, World.size_alloc]
   have hst1 := H0.out.prot hB
   have hbD : (fun k => D k ∨ (W.heap.size ≤ k ∧ k < W1.heap.size)) W.heap.size := .inr ⟨Nat.le_refl _, by omega⟩
   have hkD1 : ¬ (fun k => D k ∨ (W.heap.size ≤ k ∧ k < W1.heap.size)) kb := fun hd => hd.elim HKD.out (fun hd => by have := H0.out.lt; omega)
   obtain ⟨D1, hD1⟩ : ∃ D1, D1 = (fun k => D k ∨ (W.heap.size ≤ k ∧ k < W1.heap.size)) := ⟨_, rfl⟩
   rw [← hD1] at hst1 hbD hkD1
   have HR1 := Lib.hid (show RowR repTestT D1 W1 A1 c1 x.attr from (H1.out.new_ hB).weaken (fun k hk => by rw [hD1]; exact .inl hk))
   have HR2 := Lib.hid (show RowR repTestT D1 W1 A2 c2 x.value from (H2.out.new_ hB).weaken (fun k hk => by rw [hD1]; exact .inl hk))
   have HDD := Lib.hid (show ∀ k, D k → D1 k from fun k hk => by rw [hD1]; exact .inl hk)
   have HFB := Lib.hid (show Fr (fun j => ¬ D j) W W1 from Fr.of_new hB)
   have HST := Lib.hid hst1
   have HBD := Lib.hid hbD
   have HK1 := Lib.hid hkD1
   have HBK := Lib.hid hbk
   have hlo := hbk.lt
   have e1 : W1.cell? ⟨W.heap.size, 1, none⟩ = some (.bool x.goal) := (hbk.cell 1).trans rfl
   have e2 : W1.cell? ⟨W.heap.size, 2, none⟩ = some (.string x.id) := (hbk.cell 2).trans rfl
   have e3 : W1.cell? ⟨W.heap.size, 3, none⟩ = some (.slice A1 x.attr.length c1) := (hbk.cell 3).trans rfl
   have e4 : W1.cell? ⟨W.heap.size, 4, none⟩ = some (.slice A2 x.value.length c2) := (hbk.cell 4).trans rfl
   clear hW1 hbk hB hsz hst1 hbD hkD1 hD1
   have g1 := H_g.out
   go_wp2_with fail
   refine (KSt.met x.id HST.out HK1.out (by omega) (by omega)).mono ?_
   rintro e w4 ⟨rfl, hst4, hl4, hl5⟩
   have HST4 := Lib.hid hst4
   clear hst4 e1 e2 e3 e4 hlo
   have hbk := HBK.out.fr (HST4.out).fr_ (fun hn => hn HBD.out)
   have hlo := hbk.lt
   have hzw : W.heap.size ≤ w4.heap.size := Nat.le_trans HFB.out.size (HST4.out).fr_.size
   have e2 : w4.cell? ⟨W.heap.size, 2, none⟩ = some (.string x.id) := (hbk.cell 2).trans rfl
   have e3 : w4.cell? ⟨W.heap.size, 3, none⟩ = some (.slice A1 x.attr.length c1) := (hbk.cell 3).trans rfl
   have e4 : w4.cell? ⟨W.heap.size, 4, none⟩ = some (.slice A2 x.value.length c2) := (hbk.cell 4).trans rfl
   clear hbk
   go_wp2_with fail
   cases hh : hasK (metK K x.id) x.id
   · skip
     have hhx := KSt.has_ x.id (HST4.out) (by omega)
     rw [hh] at hhx
     refine hhx.mono ?_
     rintro e w5 ⟨rfl, hb5⟩
     have HST5 := Lib.hid ((HST4.out).below (hb5))
     clear hhx hb5
     have HA := Lib.hid (show oneK K x = (false, metK K x.id) by unfold oneK; simp only [HG.out]; simp [hh])
     clear hh
     go_wp2_with fail
     go_ret
     rw [HA.out]
     exact ⟨rfl, (HST5.out).unprot HFB.out HDD.out, by dsimp only; omega, by dsimp only; omega⟩
   · skip
     have hhx := KSt.has_ x.id (HST4.out) (by omega)
     rw [hh] at hhx
     refine hhx.mono ?_
     rintro e w5 ⟨rfl, hb5⟩
     have HST5 := Lib.hid ((HST4.out).below (hb5))
     clear hhx hb5
     have hbk := HBK.out.fr (HST5.out).fr_ (fun hn => hn HBD.out)
     have hlo := hbk.lt
     have hzw : W.heap.size ≤ w5.heap.size := Nat.le_trans HFB.out.size (HST5.out).fr_.size
     have e2 : w5.cell? ⟨W.heap.size, 2, none⟩ = some (.string x.id) := (hbk.cell 2).trans rfl
     have e3 : w5.cell? ⟨W.heap.size, 3, none⟩ = some (.slice A1 x.attr.length c1) := (hbk.cell 3).trans rfl
     have e4 : w5.cell? ⟨W.heap.size, 4, none⟩ = some (.slice A2 x.value.length c2) := (hbk.cell 4).trans rfl
     clear hbk
     obtain ⟨b2, k2, hf⟩ : ∃ b k, fieldK (metK K x.id) x.attr = (b, k) := ⟨_, _, rfl⟩
     have hfa := kfield_is x.attr (A := A1) (c := c1) (HST5.out.prot0) HK1.out (HR1.out.fr HST5.out.fr_ (fun k hk hn => hn hk)) (by omega) (by omega)
     rw [hf] at hfa
     have HFA := Lib.hid hfa
     clear hfa
     cases b2
     · skip
       have HA := Lib.hid (show oneK K x = (false, k2) by unfold oneK; simp only [HG.out]; simp [hh, hf])
       clear hh hf
       go_wp2_with fail
       refine HFA.out.mono ?_
       rintro e w6 ⟨rfl, hst6, hl6, hl7⟩
       have HST6 := Lib.hid (hst6.join HST5.out)
       clear hst6
       go_wp2_with fail
       go_ret
       rw [HA.out]
       exact ⟨rfl, (HST6.out).unprot HFB.out HDD.out, by dsimp only; omega, by dsimp only; omega⟩
     · skip
       obtain ⟨b3, k3, hf3⟩ : ∃ b k, fieldK k2 x.value = (b, k) := ⟨_, _, rfl⟩
       have HA := Lib.hid (show oneK K x = (b3, k3) by unfold oneK; simp only [HG.out]; simp [hh, hf, hf3])
       clear hh hf
       go_wp2_with fail
       refine HFA.out.mono ?_
       rintro e w6 ⟨rfl, hst6, hl6, hl7⟩
       have HST6 := Lib.hid (hst6.join HST5.out)
       clear hst6
       have hbk := HBK.out.fr (HST6.out).fr_ (fun hn => hn HBD.out)
       have hlo := hbk.lt
       have hzw : W.heap.size ≤ w6.heap.size := Nat.le_trans HFB.out.size (HST6.out).fr_.size
       have e2 : w6.cell? ⟨W.heap.size, 2, none⟩ = some (.string x.id) := (hbk.cell 2).trans rfl
       have e3 : w6.cell? ⟨W.heap.size, 3, none⟩ = some (.slice A1 x.attr.length c1) := (hbk.cell 3).trans rfl
       have e4 : w6.cell? ⟨W.heap.size, 4, none⟩ = some (.slice A2 x.value.length c2) := (hbk.cell 4).trans rfl
       clear hbk
       have hfa := kfield_is x.value (A := A2) (c := c2) (HST6.out.prot0) HK1.out (HR2.out.fr HST6.out.fr_ (fun k hk hn => hn hk)) (by omega) (by omega)
       rw [hf3] at hfa
       have HFA := Lib.hid hfa
       clear hfa hf3
       go_wp2_with fail
       refine HFA.out.mono ?_
       rintro e w7 ⟨rfl, hst7, hl8, hl9⟩
       have HST7 := Lib.hid (hst7.join HST6.out)
       clear hst7
       go_wp2_with fail
       go_ret
       rw [HA.out]
       exact ⟨rfl, (HST7.out).unprot HFB.out HDD.out, by dsimp only; omega, by dsimp only; omega⟩
 · have g1 : x.goal = false := by simpa using hg
   have hgk : (if x.goal = true then metK K x.id else K) = K := if_neg hg
   have H_g := Lib.hid g1
   have HG := Lib.hid hgk
   clear g1 hg hgk
   go_enter Tryz.func99, Tryz.ntmps99
   go_upto_region 1 with fail
   obtain ⟨W1, hW1⟩ : ∃ W1, W1 = W.alloc (.cells #[.int .i64 x.kind, .bool x.goal, .string x.id, .slice A1 x.attr.length c1, .slice A2 x.value.length c2, .bool x.acc, .slice A3 x.conds.length c3] 62) := ⟨_, rfl⟩
   rw [← hW1]
   have hbk : Blk W1 W.heap.size 62 #[.int .i64 x.kind, .bool x.goal, .string x.id, .slice A1 x.attr.length c1, .slice A2 x.value.length c2, .bool x.acc, .slice A3 x.conds.length c3] := by rw [hW1]; exact Blk.new _ _ _
   have hB : Below W.heap.size W W1 := by rw [hW1]; exact (Below.refl _ _).alloc (Nat.le_refl _) _
   have hsz : W1.heap.size = W.heap.size + 1 := by rw [hW1, World.size_alloc]
   have hst1 := H0.out.prot hB
   have hbD : (fun k => D k ∨ (W.heap.size ≤ k ∧ k < W1.heap.size)) W.heap.size := .inr ⟨Nat.le_refl _, by omega⟩
   have hkD1 : ¬ (fun k => D k ∨ (W.heap.size ≤ k ∧ k < W1.heap.size)) kb := fun hd => hd.elim HKD.out (fun hd => by have := H0.out.lt; omega)
   obtain ⟨D1, hD1⟩ : ∃ D1, D1 = (fun k => D k ∨ (W.heap.size ≤ k ∧ k < W1.heap.size)) := ⟨_, rfl⟩
   rw [← hD1] at hst1 hbD hkD1
   have HR1 := Lib.hid (show RowR repTestT D1 W1 A1 c1 x.attr from (H1.out.new_ hB).weaken (fun k hk => by rw [hD1]; exact .inl hk))
   have HR2 := Lib.hid (show RowR repTestT D1 W1 A2 c2 x.value from (H2.out.new_ hB).weaken (fun k hk => by rw [hD1]; exact .inl hk))
   have HDD := Lib.hid (show ∀ k, D k → D1 k from fun k hk => by rw [hD1]; exact .inl hk)
   have HFB := Lib.hid (show Fr (fun j => ¬ D j) W W1 from Fr.of_new hB)
   have HST := Lib.hid hst1
   have HBD := Lib.hid hbD
   have HK1 := Lib.hid hkD1
   have HBK := Lib.hid hbk
   have hlo := hbk.lt
   have e1 : W1.cell? ⟨W.heap.size, 1, none⟩ = some (.bool x.goal) := (hbk.cell 1).trans rfl
   have e2 : W1.cell? ⟨W.heap.size, 2, none⟩ = some (.string x.id) := (hbk.cell 2).trans rfl
   have e3 : W1.cell? ⟨W.heap.size, 3, none⟩ = some (.slice A1 x.attr.length c1) := (hbk.cell 3).trans rfl
   have e4 : W1.cell? ⟨W.heap.size, 4, none⟩ = some (.slice A2 x.value.length c2) := (hbk.cell 4).trans rfl
   clear hW1 hbk hB hsz hst1 hbD hkD1 hD1
   have g1 := H_g.out
   go_wp2_with fail
   cases hh : hasK (K) x.id
   · skip
     have hhx := KSt.has_ x.id (HST.out) (by omega)
     rw [hh] at hhx
     refine hhx.mono ?_
     rintro e w5 ⟨rfl, hb5⟩
     have HST5 := Lib.hid ((HST.out).below (hb5))
     clear hhx hb5
     have HA := Lib.hid (show oneK K x = (false, K) by unfold oneK; simp only [HG.out]; simp [hh])
     clear hh
     go_wp2_with fail
     go_ret
     rw [HA.out]
     exact ⟨rfl, (HST5.out).unprot HFB.out HDD.out, by dsimp only; omega, by dsimp only; omega⟩
   · skip
     have hhx := KSt.has_ x.id (HST.out) (by omega)
     rw [hh] at hhx
     refine hhx.mono ?_
     rintro e w5 ⟨rfl, hb5⟩
     have HST5 := Lib.hid ((HST.out).below (hb5))
     clear hhx hb5
     have hbk := HBK.out.fr (HST5.out).fr_ (fun hn => hn HBD.out)
     have hlo := hbk.lt
     have hzw : W.heap.size ≤ w5.heap.size := Nat.le_trans HFB.out.size (HST5.out).fr_.size
     have e2 : w5.cell? ⟨W.heap.size, 2, none⟩ = some (.string x.id) := (hbk.cell 2).trans rfl
     have e3 : w5.cell? ⟨W.heap.size, 3, none⟩ = some (.slice A1 x.attr.length c1) := (hbk.cell 3).trans rfl
     have e4 : w5.cell? ⟨W.heap.size, 4, none⟩ = some (.slice A2 x.value.length c2) := (hbk.cell 4).trans rfl
     clear hbk
     obtain ⟨b2, k2, hf⟩ : ∃ b k, fieldK (K) x.attr = (b, k) := ⟨_, _, rfl⟩
     have hfa := kfield_is x.attr (A := A1) (c := c1) (HST5.out.prot0) HK1.out (HR1.out.fr HST5.out.fr_ (fun k hk hn => hn hk)) (by omega) (by omega)
     rw [hf] at hfa
     have HFA := Lib.hid hfa
     clear hfa
     cases b2
     · skip
       have HA := Lib.hid (show oneK K x = (false, k2) by unfold oneK; simp only [HG.out]; simp [hh, hf])
       clear hh hf
       go_wp2_with fail
       refine HFA.out.mono ?_
       rintro e w6 ⟨rfl, hst6, hl6, hl7⟩
       have HST6 := Lib.hid (hst6.join HST5.out)
       clear hst6
       go_wp2_with fail
       go_ret
       rw [HA.out]
       exact ⟨rfl, (HST6.out).unprot HFB.out HDD.out, by dsimp only; omega, by dsimp only; omega⟩
     · skip
       obtain ⟨b3, k3, hf3⟩ : ∃ b k, fieldK k2 x.value = (b, k) := ⟨_, _, rfl⟩
       have HA := Lib.hid (show oneK K x = (b3, k3) by unfold oneK; simp only [HG.out]; simp [hh, hf, hf3])
       clear hh hf
       go_wp2_with fail
       refine HFA.out.mono ?_
       rintro e w6 ⟨rfl, hst6, hl6, hl7⟩
       have HST6 := Lib.hid (hst6.join HST5.out)
       clear hst6
       have hbk := HBK.out.fr (HST6.out).fr_ (fun hn => hn HBD.out)
       have hlo := hbk.lt
       have hzw : W.heap.size ≤ w6.heap.size := Nat.le_trans HFB.out.size (HST6.out).fr_.size
       have e2 : w6.cell? ⟨W.heap.size, 2, none⟩ = some (.string x.id) := (hbk.cell 2).trans rfl
       have e3 : w6.cell? ⟨W.heap.size, 3, none⟩ = some (.slice A1 x.attr.length c1) := (hbk.cell 3).trans rfl
       have e4 : w6.cell? ⟨W.heap.size, 4, none⟩ = some (.slice A2 x.value.length c2) := (hbk.cell 4).trans rfl
       clear hbk
       have hfa := kfield_is x.value (A := A2) (c := c2) (HST6.out.prot0) HK1.out (HR2.out.fr HST6.out.fr_ (fun k hk hn => hn hk)) (by omega) (by omega)
       rw [hf3] at hfa
       have HFA := Lib.hid hfa
       clear hfa hf3
       go_wp2_with fail
       refine HFA.out.mono ?_
       rintro e w7 ⟨rfl, hst7, hl8, hl9⟩
       have HST7 := Lib.hid (hst7.join HST6.out)
       clear hst7
       go_wp2_with fail
       go_ret
       rw [HA.out]
       exact ⟨rfl, (HST7.out).unprot HFB.out HDD.out, by dsimp only; omega, by dsimp only; omega⟩
end Go.Proofs.YtpndmjabjjbefaaGreat
namespace Go.Proofs.YtpndmjabjjbefaaGreat
open Go.RowKit Go.Shelf
theorem Sets.more {α : Type} {tSet tE size : Nat} {cells : α → List Value} {cmp : α → α → Int} {D D2 : Nat → Prop} {w : World} {S : Nat → Option (List α)} {σ : Nat → St} (h : Sets tSet tE size cells cmp D w S σ) (hD : ∀ q, D2 q → D q ∨ (Off q S σ ∧ q < w.heap.size)) : Sets tSet tE size cells cmp D2 w S σ :=
 ⟨h.at_, h.srt, fun b l hb => ⟨fun hd => (hD b hd).elim (h.out b l hb).1 (fun ho => (ho.1 b l hb).1 rfl), fun hs a ha hd => (hD _ hd).elim (fun hd => (h.out b l hb).2 hs a ha hd) (fun ho => (ho.1 b l hb).2 a ha rfl)⟩, h.apart, fun k hk => (hD k hk).elim (h.low k) (·.2)⟩
theorem Sets.drop_ {α : Type} {tSet tE size : Nat} {cells : α → List Value} {cmp : α → α → Int} {D : Nat → Prop} {w : World} {S : Nat → Option (List α)} {σ : Nat → St} {k : Nat} {m : List α} (h : Sets tSet tE size cells cmp D w (upd S k (some m)) σ) (hk : S k = none) : Sets tSet tE size cells cmp D w S σ := by
 have hup : ∀ b l, S b = some l → upd S k (some m) b = some l := fun b l hb => by
  rw [upd_ne _ _ (fun e => by rw [e, hk] at hb; cases hb)]; exact hb
 exact ⟨fun b l hb => h.at_ b l (hup b l hb), fun b l hb => h.srt b l (hup b l hb), fun b l hb => h.out b l (hup b l hb), fun b l b' l' hb hb' => h.apart b l b' l' (hup b l hb) (hup b' l' hb'), h.low⟩
def ForkTo (D : Nat → Prop) (W : World) (S : Nat → Option (List Name)) (kb sb : Nat) (K : Kn) (X : World) (e : Ending) (w5 : World) : Prop :=
 ∃ kb' sb' D2 S2, e = .returned (.pointer (some ⟨kb', 0, none⟩)) ∧ KSt D2 w5 S2 kb' sb' (K.1, []) w5 ∧ ¬ D2 kb' ∧ (∀ k, D k → D2 k) ∧ (∀ b t cs, Blk X b t cs → t ≠ 155 → Blk w5 b t cs) ∧ Fr (fun j => ¬ D j) X w5 ∧ (∀ K2 w6, KSt D2 w5 S2 kb' sb' K2 w6 → KSt D W S kb sb K w6)
theorem kfork_is {D : Nat → Prop} {W X : World} {S : Nat → Option (List Name)} {kb sb : Nat} {K : Kn} (h : KSt D W S kb sb K X) : Calls Tryz.prog 98 #[.pointer (some ⟨kb, 0, none⟩)] X (ForkTo D W S kb sb K X) := by
 obtain ⟨σ', A', c', h1, h2, h3, h4⟩ := h
 refine (kinner_is h1 h2).mono ?_
 rintro e w5 ⟨kb', sb', rfl, hk, hs, ⟨σ2, g1⟩, g2, g3, g4⟩
 have hsa := h1.at_ sb K.1 (upd_same _ _ _)
 have hkb5 : Blk w5 kb _ _ := h2.blk.fr g4 (fun e => h2.blk.ne_ hsa.blk (by decide) e)
 have hrow5 := ownsRow_fr h2.row g4 (fun g hg e => own_blk_ne h2.row hsa.blk (by decide) (by rw [hg, e]))
 have hAs := row_low hrow5
 have hnone : upd S sb (some K.1) sb' = none := by
  cases hx : upd S sb (some K.1) sb' with
  | none => rfl
  | some m => exact absurd (h1.lt hx) (by omega)
 refine ⟨kb', sb', fun k => D k ∨ k = kb ∨ (∃ a, A' = some a ∧ a.block = k), upd S sb (some K.1), rfl, ?_, ?_, fun k hk => .inl hk, ?_, g3, ?_⟩
 · refine ⟨σ2, none, 0, Sets.more g1 (fun q hq => ?_), g2, AIn.none_ _, Fr.refl _ _⟩
   rcases hq with hq | rfl | ⟨a, rfl, rfl⟩
   · exact .inl hq
   · exact .inr ⟨g1.off_of hkb5 (by decide) (by decide), hkb5.lt⟩
   · refine .inr ⟨?_, hAs a rfl⟩
     rcases hrow5.2 with ⟨hv, _⟩ | ⟨g, cap, cur, hv, _, hg, _⟩
     · simp at hv
     · simp only [Value.slice.injEq, Option.some.injEq] at hv
       rw [hv.1]
       exact g1.off_of (t := 9) hg (by decide) (by decide)
 · rintro (hd | rfl | ⟨a, rfl, rfl⟩)
   · have := h1.low _ hd; omega
   · have := h2.blk.lt; omega
   · have := row_low h2.row a rfl; omega
 · intro b t cs hb hne
   exact hb.fr g4 (fun e => hb.ne_ hsa.blk hne e)
 · rintro K2 w6 ⟨σ3, A3, c3, k1, k2, k3, k4⟩
   refine ⟨σ3, A', c', (k1.drop_ hnone).weaken (fun k hk => .inl hk), ⟨hkb5.fr k4 (fun hn => hn (.inr (.inl rfl))), ownsRow_fr hrow5 k4 (fun g hg hn => hn (.inr (.inr ?_))), upd_same _ _ _⟩, h3, (h4.trans g3).trans (k4.mono (fun j _ hj hd => hj (.inl hd)))⟩
   rcases A' with _ | a
   · simp [Value.ownBlock] at hg
   · exact ⟨a, rfl, by simpa [Value.ownBlock] using hg⟩
theorem condsK_cons (n : Nat) (k : Kn) (c : CondT) (l : List CondT) (a : Int) : condsK (n + 1) k (c :: l) a = if c.kind = 3 then
 (match condsK n (k.1, []) c.conds (a + 1) with
  | (true, a2, _) => condsK (n + 1) k l a2
  | (false, a2, _) => (false, a2, k))
 else
  (match oneK (if c.kind = 1 then k else (k.1, [])) c with
   | (true, k2) => condsK (n + 1) (if c.kind = 1 then k2 else k) l (a + 1)
   | (false, _) => (false, a, k)) := by rw [condsK] <;> rfl
theorem condsK_nil (n : Nat) (k : Kn) (a : Int) : condsK n k [] a = (true, a, k) := by
 cases n <;> rw [condsK]
theorem flatC_nil (n d : Nat) : flatC n d [] = [] := by cases n <;> rfl
def SmallC (x : Nat × CondT) : Prop := x.2.attr.length ≤ 4 ∧ x.2.value.length ≤ 4 ∧ (x.2.kind ≠ 3 → x.2.conds = [])
def CondsTo (D : Nat → Prop) (W : World) (S : Nat → Option (List Name)) (kb sb : Nat) (K : Kn) (at_ m : Nat) (r : Bool × Int × Kn) (e : Ending) (W' : World) : Prop :=
 e = .returned (.tuple #[.int .i64 r.2.1, .bool r.1]) ∧ Fr (fun j => ¬ D j) W W' ∧ (r.1 = true → KSt D W S kb sb r.2.2 W' ∧ r.2.1 = ((at_ + m : Nat) : Int) ∧ r.2.2.1.length ≤ K.1.length + 9 * m ∧ r.2.2.2.length ≤ K.2.length + 9 * m)
set_option maxRecDepth 100000 in
set_option maxHeartbeats 16000000 in
theorem kconds_is : ∀ (n d at_ : Nat) (D : Nat → Prop) (W : World) (S : Nat → Option (List Name)) (kb sb : Nat) (K : Kn) (A : Option Addr) (c : Nat) (l : List CondT), KSt D W S kb sb K W → ¬ D kb → RowR (repCondT n) D W A c l → (∀ x ∈ flatC n d l, SmallC x) → K.1.length + 9 * (flatC n d l).length ≤ 900000 → K.2.length + 9 * (flatC n d l).length ≤ 900000 → at_ + (flatC n d l).length ≤ 1000000000 →
 Calls Tryz.prog 71 #[.pointer (some ⟨kb, 0, none⟩), .slice A l.length c, .int .i64 (at_ : Int)] W (CondsTo D W S kb sb K at_ (flatC n d l).length (condsK n K l at_)) := by
 intro n
 induction n with
 | zero =>
   intro d at_ D W S kb sb K A c l hst hkD h hsm hl1 hl2 hla
   have hl0 : l = [] := by
    cases l with
    | nil => rfl
    | cons x l =>
      obtain ⟨b, off, cs, _, _, _, hr, _⟩ := h.at_ (k := 0) (by simp)
      exact hr.elim
   subst hl0
   have H0 := Lib.hid hst
   have HN := Lib.hid (condsK_nil 0 K at_)
   clear h hst hsm hkD
   go_enter Tryz.func71, Tryz.ntmps71
   go_wp2_with fail
   go_loopw [2, 15] (fun a s wr => s = .int .i64 0 ∧ a = .int .i64 (at_ : Int) ∧ wr = W) (fun a s wr => 0)
   case atStart => exact ⟨rfl, rfl, rfl⟩
   case round =>
    obtain ⟨rfl, rfl, rfl⟩ := hrel
    go_wp2_with fail
    go_ret2
    unfold CondsTo
    rw [HN.out]
    exact ⟨rfl, Fr.refl _ _, fun _ => ⟨H0.out, by simp [flatC], by simp [flatC], by simp [flatC]⟩⟩
 | succ n ih =>
   intro d at_ D W S kb sb K A c l hst hkD h hsm hl1 hl2 hla
   have H0 := Lib.hid hst
   have HKD := Lib.hid hkD
   have HR := Lib.hid h
   have HSM := Lib.hid hsm
   have IH := Lib.hid ih
   have hlc := h.cap
   obtain ⟨tot, htot⟩ : ∃ tot, tot = (flatC (n + 1) d l).length := ⟨_, rfl⟩
   rw [← htot] at hl1 hl2 hla ⊢
   have HTOT := Lib.hid htot
   clear h hst hsm hkD ih htot
   go_enter Tryz.func71, Tryz.ntmps71
   go_wp2_with fail
   go_loopw [2, 15] (fun a s wr => ∃ (i m : Nat) (K' : Kn), s = .int .i64 i ∧ i ≤ l.length ∧ m = (flatC (n + 1) d (l.take i)).length ∧ a = .int .i64 ((at_ + m : Nat) : Int) ∧ condsK (n + 1) K l at_ = condsK (n + 1) K' (l.drop i) ((at_ + m : Nat) : Int) ∧ KSt D W S kb sb K' wr ∧ K'.1.length ≤ K.1.length + 9 * m ∧ K'.2.length ≤ K.2.length + 9 * m) (fun a s wr => l.length - (intOf s).toNat)
   case atStart => exact ⟨0, 0, K, rfl, Nat.zero_le _, by simp [flatC], rfl, rfl, H0.out, Nat.le_refl _, Nat.le_refl _⟩
   case round =>
    obtain ⟨i, m, K', rfl, hi, hm, rfl, heq, hst, hk1, hk2⟩ := hrel
    have HEQ := Lib.hid heq
    have HST := Lib.hid hst
    have HM := Lib.hid hm
    clear heq hst hm
    by_cases hlt : i < l.length
    · obtain ⟨y, hy⟩ : ∃ y, y = l[i] := ⟨_, rfl⟩
      obtain ⟨k, hk⟩ : ∃ k, k = at_ + m := ⟨_, rfl⟩
      obtain ⟨mi, hmi⟩ : ∃ mi, mi = (flatC n (d + 1) y.conds).length := ⟨_, rfl⟩
      have hsn := flatC_snoc n d l i hlt
      rw [← hy] at hsn
      have HM1 := Lib.hid (show (flatC (n + 1) d (l.take (i + 1))).length = m + 1 + mi by rw [hsn, List.length_append, List.length_cons, ← HM.out, ← hmi]; omega)
      have hle : m + 1 + mi ≤ tot := by
       rw [← HM1.out, HTOT.out]
       conv => rhs; rw [← List.take_append_drop (i + 1) l, flatC_succ, List.flatMap_append, List.length_append]
       rw [flatC_succ]
       omega
      have hin : ∀ x, x ∈ (d, y) :: flatC n (d + 1) y.conds → x ∈ flatC (n + 1) d l := by
       intro x hx
       rw [flatC_succ]
       exact List.mem_flatMap.2 ⟨y, by rw [hy]; exact List.getElem_mem hlt, hx⟩
      have hsy : SmallC (d, y) := HSM.out _ (hin _ List.mem_cons_self)
      have HSY := Lib.hid (show ∀ x ∈ flatC n (d + 1) y.conds, SmallC x from fun x hx => HSM.out _ (hin _ (List.mem_cons_of_mem _ hx)))
      obtain ⟨hsy1, hsy2, hsy3⟩ := hsy
      dsimp only at hsy1 hsy2 hsy3
      have HMI := Lib.hid (show y.kind ≠ 3 → mi = 0 from fun hk => by rw [hmi, hsy3 hk, flatC_nil]; rfl)
      clear hsy3
      have hdr := drop_one hlt
      rw [← hy] at hdr
      have HEQ2 := Lib.hid (show condsK (n + 1) K l at_ = condsK (n + 1) K' (y :: l.drop (i + 1)) (k : Int) by rw [HEQ.out, hdr, hk])
      obtain ⟨g, off, A1, c1, A2, c2, A3, c3, rfl, _, hg, q0, q1, q2, q3, q4, q5, q6, r1, r2, r3⟩ := at_CondT (HR.out.fr HST.out.fr_ (fun j hd hn => hn hd)) hlt
      rw [← hy] at q0 q1 q2 q3 q4 q5 q6 r1 r2 r3
      have HR1 := Lib.hid r1
      have HR2 := Lib.hid r2
      have HR3 := Lib.hid r3
      have hn3 := r3.cap
      have b1 : (0 : Int) ≤ (i : Int) := by omega
      have b2 : (i : Int) < (l.length : Int) := by omega
      have hzr := HST.out.fr_.size
      have v1 : IntKind.i64.wrap ((k : Int) + 1) = ((k + 1 : Nat) : Int) := by rw [IntWalk.i64_in _ (by omega)]; rfl
      have HK := Lib.hid hk
      rw [← hk]
      have HME := Lib.hid hmi
      clear hy hsn hin hdr r1 r2 r3 hk hmi
      by_cases kd1 : y.kind = 1
      · have t1 : (y.kind == 1) = true := by simp [kd1]
        have t1' : decide (y.kind = 1) = true := by simp [kd1]
        have t3 : (y.kind == 3) = false := by simp [kd1]
        have t3' : decide (y.kind = 3) = false := by simp [kd1]
        obtain ⟨bo, ko, ho⟩ : ∃ b k, oneK K' y = (b, k) := ⟨_, _, rfl⟩
        have HEQ3 := Lib.hid (show condsK (n + 1) K l at_ = if bo = true then condsK (n + 1) ko (l.drop (i + 1)) ((k : Int) + 1) else (false, (k : Int), K') by
         rw [HEQ2.out, condsK_cons, if_neg (by rw [kd1]; decide)]
         simp only [if_pos kd1, ho]
         cases bo <;> rfl)
        have HM0 := Lib.hid (HMI.out (by rw [kd1]; decide))
        clear kd1
        go_wp2_with fail
        obtain ⟨X, hX⟩ : ∃ X, X = wr.alloc (.cells #[.int .i64 y.kind, .bool y.goal, .string y.id, .slice A1 y.attr.length c1, .slice A2 y.value.length c2, .bool y.acc, .slice A3 y.conds.length c3] 62) := ⟨_, rfl⟩
        rw [← hX]
        have hbX : Below wr.heap.size wr X := by rw [hX]; exact (Below.refl _ _).alloc (Nat.le_refl _) _
        have hBk : Blk X wr.heap.size 62 #[.int .i64 y.kind, .bool y.goal, .string y.id, .slice A1 y.attr.length c1, .slice A2 y.value.length c2, .bool y.acc, .slice A3 y.conds.length c3] := by rw [hX]; exact Blk.new _ _ _
        have HBX := Lib.hid hbX
        have HBK := Lib.hid hBk
        clear hX hbX hBk
        have hko := kone_is y (A3 := A3) (c3 := c3) (HST.out.below HBX.out).prot0 HKD.out (HR1.out.new_ HBX.out) (HR2.out.new_ HBX.out) (by omega) (by omega)
        rw [ho] at hko
        refine hko.mono ?_
        rintro e w6 ⟨rfl, hst6, hl6, hl7⟩
        have HST6 := Lib.hid (hst6.join (HST.out.below HBX.out))
        dsimp only at hl6 hl7
        clear hko ho hst6 q0 q1 q2 q3 q4 q5 q6
        cases bo with
        | false =>
          go_wp2_with fail
          go_ret2
          unfold CondsTo
          rw [HEQ3.out, if_neg (by decide)]
          exact ⟨rfl, HST6.out.fr_, fun h => by cases h⟩
        | true =>
          go_wp2_with fail
          go_roundw
          case rel =>
           have hat : ((at_ + (m + 1 + mi) : Nat) : Int) = (k : Int) + 1 := by have := HM0.out; have := HK.out; omega
           refine ⟨i + 1, m + 1 + mi, ko, by go_num, by omega, HM1.out.symm, by rw [hat], by rw [hat, HEQ3.out]; simp, HST6.out, by omega, by omega⟩
          case measure => simp [intOf] <;> omega
      · have t1 : (y.kind == 1) = false := by simp [kd1]
        have t1' : decide (y.kind = 1) = false := by simp [kd1]
        by_cases kd3 : y.kind = 3
        · have t3 : (y.kind == 3) = true := by simp [kd3]
          have t3' : decide (y.kind = 3) = true := by simp [kd3]
          obtain ⟨⟨bo, ao, ko⟩, ho⟩ : ∃ r, condsK n (K'.1, []) y.conds ((k + 1 : Nat) : Int) = r := ⟨_, rfl⟩
          have HEQ3 := Lib.hid (show condsK (n + 1) K l at_ = if bo = true then condsK (n + 1) K' (l.drop (i + 1)) ao else (false, ao, K') by
           rw [HEQ2.out, condsK_cons, if_pos kd3, show ((k : Int) + 1) = ((k + 1 : Nat) : Int) by omega, ho]
           cases bo <;> rfl)
          have T3 := Lib.hid t3
          have T3' := Lib.hid t3'
          clear kd1 kd3 t3 t3'
          go_wp2_with fail
          obtain ⟨X, hX⟩ : ∃ X, X = wr.alloc (.cells #[.int .i64 y.kind, .bool y.goal, .string y.id, .slice A1 y.attr.length c1, .slice A2 y.value.length c2, .bool y.acc, .slice A3 y.conds.length c3] 62) := ⟨_, rfl⟩
          rw [← hX]
          have hbX : Below wr.heap.size wr X := by rw [hX]; exact (Below.refl _ _).alloc (Nat.le_refl _) _
          have hBk : Blk X wr.heap.size 62 #[.int .i64 y.kind, .bool y.goal, .string y.id, .slice A1 y.attr.length c1, .slice A2 y.value.length c2, .bool y.acc, .slice A3 y.conds.length c3] := by rw [hX]; exact Blk.new _ _ _
          have HBX := Lib.hid hbX
          have HBK := Lib.hid hBk
          clear hX hbX hBk
          refine (kfork_is (HST.out.below HBX.out)).mono ?_
          rintro e w5 ⟨kb', sb', D2, S2, rfl, hs5, hkD2, hDD, hbl, hF5, hback⟩
          have HF5 := Lib.hid ((HST.out.below HBX.out).fr_.trans hF5)
          have HDD := Lib.hid hDD
          have hBk5 := hbl _ _ _ HBK.out (by decide)
          have HB5 := Lib.hid hBk5
          have HBACK := Lib.hid hback
          have hg5 := hBk5.lt
          have x0 : w5.cell? ⟨wr.heap.size, 0, none⟩ = some (.int .i64 y.kind) := (hBk5.cell 0).trans rfl
          have x6 : w5.cell? ⟨wr.heap.size, 6, none⟩ = some (.slice A3 y.conds.length c3) := (hBk5.cell 6).trans rfl
          have hih := IH.out (d + 1) (k + 1) D2 w5 S2 kb' sb' (K'.1, []) A3 c3 y.conds hs5 hkD2 (((HR3.out.new_ HBX.out).fr hF5 (fun k hk hn => hn hk)).weaken hDD) HSY.out (by have := HME.out; dsimp only; omega) (by have := HME.out; simp; omega) (by have := HME.out; have := HK.out; omega)
          rw [ho] at hih
          have HIH := Lib.hid hih
          clear hih hs5 hkD2 hDD hbl hF5 hback hBk5 ho q0 q1 q2 q3 q4 q5 q6
          have t3 := T3.out
          have t3' := T3'.out
          go_wp2_with fail
          refine HIH.out.mono ?_
          rintro e w6 ⟨rfl, hF6, htr⟩
          cases bo with
          | false =>
            have HF6 := Lib.hid hF6
            clear htr hF6 x0 x6
            go_wp2_with fail
            go_ret2
            unfold CondsTo
            rw [HEQ3.out, if_neg (by decide)]
            exact ⟨rfl, HF5.out.trans (HF6.out.mono (fun j _ hj hd => hj (HDD.out j hd))), fun h => by cases h⟩
          | true =>
            obtain ⟨hst6, ha6, hl6, hl7⟩ := htr rfl
            have HST6 := Lib.hid (HBACK.out _ _ hst6)
            dsimp only at ha6
            have HA6 := Lib.hid ha6
            clear htr hF6 x0 x6 hst6 ha6 hl6 hl7
            go_wp2_with fail
            go_roundw
            case rel =>
             have hat : ao = ((at_ + (m + 1 + mi) : Nat) : Int) := by have := HA6.out; have := HK.out; have := HME.out; omega
             refine ⟨i + 1, m + 1 + mi, K', by go_num, by omega, HM1.out.symm, by rw [hat], by rw [HEQ3.out, hat]; simp, HST6.out, by omega, by omega⟩
            case measure => simp [intOf] <;> omega
        · have t3 : (y.kind == 3) = false := by simp [kd3]
          have t3' : decide (y.kind = 3) = false := by simp [kd3]
          obtain ⟨bo, ko, ho⟩ : ∃ b k, oneK (K'.1, []) y = (b, k) := ⟨_, _, rfl⟩
          have HEQ3 := Lib.hid (show condsK (n + 1) K l at_ = if bo = true then condsK (n + 1) K' (l.drop (i + 1)) ((k : Int) + 1) else (false, (k : Int), K') by
           rw [HEQ2.out, condsK_cons, if_neg kd3]
           simp only [if_neg kd1, ho]
           cases bo <;> rfl)
          have HM0 := Lib.hid (HMI.out kd3)
          have T3 := Lib.hid t3
          have T3' := Lib.hid t3'
          clear kd1 kd3 t3 t3'
          go_wp2_with fail
          obtain ⟨X, hX⟩ : ∃ X, X = wr.alloc (.cells #[.int .i64 y.kind, .bool y.goal, .string y.id, .slice A1 y.attr.length c1, .slice A2 y.value.length c2, .bool y.acc, .slice A3 y.conds.length c3] 62) := ⟨_, rfl⟩
          rw [← hX]
          have hbX : Below wr.heap.size wr X := by rw [hX]; exact (Below.refl _ _).alloc (Nat.le_refl _) _
          have hBk : Blk X wr.heap.size 62 #[.int .i64 y.kind, .bool y.goal, .string y.id, .slice A1 y.attr.length c1, .slice A2 y.value.length c2, .bool y.acc, .slice A3 y.conds.length c3] := by rw [hX]; exact Blk.new _ _ _
          have HBX := Lib.hid hbX
          have HBK := Lib.hid hBk
          clear hX hbX hBk
          refine (kfork_is (HST.out.below HBX.out)).mono ?_
          rintro e w5 ⟨kb', sb', D2, S2, rfl, hs5, hkD2, hDD, hbl, hF5, hback⟩
          have HF5 := Lib.hid ((HST.out.below HBX.out).fr_.trans hF5)
          have HDD := Lib.hid hDD
          have hBk5 := hbl _ _ _ HBK.out (by decide)
          have HBACK := Lib.hid hback
          have hg5 := hBk5.lt
          have x0 : w5.cell? ⟨wr.heap.size, 0, none⟩ = some (.int .i64 y.kind) := (hBk5.cell 0).trans rfl
          have x1 : w5.cell? ⟨wr.heap.size, 1, none⟩ = some (.bool y.goal) := (hBk5.cell 1).trans rfl
          have x2 : w5.cell? ⟨wr.heap.size, 2, none⟩ = some (.string y.id) := (hBk5.cell 2).trans rfl
          have x3 : w5.cell? ⟨wr.heap.size, 3, none⟩ = some (.slice A1 y.attr.length c1) := (hBk5.cell 3).trans rfl
          have x4 : w5.cell? ⟨wr.heap.size, 4, none⟩ = some (.slice A2 y.value.length c2) := (hBk5.cell 4).trans rfl
          have x5 : w5.cell? ⟨wr.heap.size, 5, none⟩ = some (.bool y.acc) := (hBk5.cell 5).trans rfl
          have x6 : w5.cell? ⟨wr.heap.size, 6, none⟩ = some (.slice A3 y.conds.length c3) := (hBk5.cell 6).trans rfl
          have hko := kone_is y (A3 := A3) (c3 := c3) hs5 hkD2 (((HR1.out.new_ HBX.out).fr hF5 (fun k hk hn => hn hk)).weaken hDD) (((HR2.out.new_ HBX.out).fr hF5 (fun k hk hn => hn hk)).weaken hDD) (by dsimp only; omega) (by dsimp only; simp; omega)
          rw [ho] at hko
          have HKO := Lib.hid hko
          clear hko hs5 hkD2 hDD hbl hF5 hback hBk5 ho q0 q1 q2 q3 q4 q5 q6
          have t3 := T3.out
          have t3' := T3'.out
          go_wp2_with fail
          refine HKO.out.mono ?_
          rintro e w6 ⟨rfl, hst6, -, -⟩
          have HST6 := Lib.hid hst6
          clear hst6 x0 x1 x2 x3 x4 x5 x6
          cases bo with
          | false =>
            go_wp2_with fail
            go_ret2
            unfold CondsTo
            rw [HEQ3.out, if_neg (by decide)]
            exact ⟨rfl, HF5.out.trans (HST6.out.fr_.mono (fun j _ hj hd => hj (HDD.out j hd))), fun h => by cases h⟩
          | true =>
            go_wp2_with fail
            go_roundw
            case rel =>
             have hat : ((at_ + (m + 1 + mi) : Nat) : Int) = (k : Int) + 1 := by have := HM0.out; have := HK.out; omega
             refine ⟨i + 1, m + 1 + mi, K', by go_num, by omega, HM1.out.symm, by rw [hat], by rw [hat, HEQ3.out]; simp, HBACK.out _ _ HST6.out, by omega, by omega⟩
            case measure => simp [intOf] <;> omega
    · have hie : i = l.length := by omega
      subst hie
      rw [List.take_length, ← HTOT.out] at HM
      rw [List.drop_length, condsK_nil] at HEQ
      have hm := HM.out
      subst hm
      go_wp2_with fail
      go_ret2
      unfold CondsTo
      rw [HEQ.out]
      exact ⟨rfl, HST.out.fr_, fun _ => ⟨HST.out, rfl, hk1, hk2⟩⟩
end Go.Proofs.YtpndmjabjjbefaaGreat
namespace Go.Proofs.YtpndmjabjjbefaaGreat
open Go.RowKit Go.Shelf
def frs (room : Int) (s : List BindT × List Sym) (v : ByteArray) : List BindT × List Sym := (s.1 ++ [⟨v, freshS room s.2 (greatV v)⟩], freshL room s.2 (greatV v))
def frsAll (room : Int) (l : List BindT) (L : List Sym) (vs : List ByteArray) : List BindT × List Sym := vs.foldl (frs room) (l, L)
theorem frsAll_snoc (room : Int) (l : List BindT) (L : List Sym) (vs : List ByteArray) (v : ByteArray) : frsAll room l L (vs ++ [v]) = frs room (frsAll room l L vs) v := by unfold frsAll; rw [List.foldl_append]; rfl
theorem frsAll_len (room : Int) (l : List BindT) (L : List Sym) : ∀ vs : List ByteArray, (frsAll room l L vs).1.length = l.length + vs.length := by
 intro vs
 have : ∀ (vs : List ByteArray) (s : List BindT × List Sym), (vs.foldl (frs room) s).1.length = s.1.length + vs.length := by
  intro vs
  induction vs with
  | nil => intro s; rfl
  | cons v vs ih => intro s; rw [List.foldl_cons, ih]; simp [frs]; omega
 exact this vs (l, L)
def freshErr (room : Int) : List Sym → List ByteArray → Int
 | _, [] => 0
 | L, v :: r => if freshE room L (greatV v) ≠ 0 then freshE room L (greatV v) else freshErr room (freshL room L (greatV v)) r
def prefA (b : List BindT) (a : ActT) : Option PrefT :=
 if (valueV a.value b).2 = false ∨ rightB (getB b a.id).1 (atomV a.attr b).1 (valueV a.value b).1 = false then none
 else if otherB a.pref = true then (if validB (atomV a.other b).1 = false then none else some ⟨(getB b a.id).1, (atomV a.attr b).1, (valueV a.value b).1, (atomV a.other b).1, a.pref, false, 0, 0⟩)
 else some ⟨(getB b a.id).1, (atomV a.attr b).1, (valueV a.value b).1, zS, a.pref, false, 0, 0⟩
def putA (b : List BindT) (a : ActT) : List Sym :=
 match prefA b a with
 | none => []
 | some x => if otherB a.pref = true then [x.other, x.id, x.attr, x.value] else [x.id, x.attr, x.value]
def doNews (l : List BindT) (acts : List ActT) : List ByteArray := newsV l (acts.flatMap needsA)
def doBinds (room : Int) (l : List BindT) (acts : List ActT) (L : List Sym) : List BindT × List Sym := frsAll room l L (doNews l acts)
def doV (room : Int) (l : List BindT) (acts : List ActT) (L : List Sym) : (List PrefT × List BindT × Int) × List Sym :=
 if freshErr room L (doNews l acts) ≠ 0 then (([], [], freshErr room L (doNews l acts)), L)
 else if putCode room (doBinds room l acts L).2 (acts.flatMap (putA (doBinds room l acts L).1)) ≠ 0 then (([], [], putCode room (doBinds room l acts L).2 (acts.flatMap (putA (doBinds room l acts L).1))), L)
 else ((acts.filterMap (prefA (doBinds room l acts L).1), (doBinds room l acts L).1, 0),
  putList room ((((doBinds room l acts L).1.drop l.length).map BindT.sym).foldl (fun L s => putList room L [s]) L) (acts.flatMap (putA (doBinds room l acts L).1)))
section
variable {D M : Nat → Prop} {W W' : World} {T T' : TB} {L L' : List Sym}
theorem TabBlk.lt (h : TabBlk W T) : T.b < W.heap.size ∧ T.bm < W.heap.size := ⟨h.1.lt, h.2.lt⟩
def OtherT (W : World) (k : Nat) : Prop := ∃ t cs, Blk W k t cs ∧ t ≠ 131 ∧ t ≠ 23 ∧ t ≠ 161 ∧ t ≠ 135 ∧ t ≠ 111 ∧ t ≠ 137
theorem OtherT.of {k : Nat} {t : TypeId} {cs : Array Value} (h : Blk W k t cs) (h1 : t ≠ 131) (h2 : t ≠ 23) (h3 : t ≠ 161) (h4 : t ≠ 135) (h5 : t ≠ 111) (h6 : t ≠ 137) : OtherT W k := ⟨t, cs, h, h1, h2, h3, h4, h5, h6⟩
theorem GT2.lts (h : GT2 D W T T' L L') : (T.b < W.heap.size ∧ T.bm < W.heap.size) ∧ (T'.b < W.heap.size ∧ T'.bm < W.heap.size) := by
 obtain ⟨S, σ, S2, σ2, m, m', h1, h2, h3, h4, h5, h6⟩ := h
 exact ⟨h3.blk.lt, h4.blk.lt⟩
theorem GT2.stepB {B : Nat} (h : GT2 D W T T' L L') (hB : (T.b < B ∧ T.bm < B) ∧ (T'.b < B ∧ T'.bm < B)) (hF : Fr (FromB B D) W W') : GT2 (Plus D W W') W' T T' L L' := by
 obtain ⟨S, σ, S2, σ2, m, m', h1, h2, h3, h4, h5, h6⟩ := h
 have hF2 : Fr D W W' := hF.mono (fun k _ hk => hk.1)
 have nb : ∀ k, k < B → ¬ FromB B D k := fun k hk h => by have := h.2; omega
 exact ⟨S, σ, S2, σ2, m, m', h1.inD h2 hF2, h2.grow h1 _, h3.blk_ ⟨h3.blk.1.fr hF (nb _ hB.1.1), h3.blk.2.fr hF (nb _ hB.1.2)⟩, h4.blk_ ⟨h4.blk.1.fr hF (nb _ hB.2.1), h4.blk.2.fr hF (nb _ hB.2.2)⟩, h5, h6⟩
theorem GT2.offT (h : GT2 D W T T' L L') (hM : ∀ k, M k → OtherT W k) (hF : Fr M W W') : GT2 D W' T T' L L' := by
 obtain ⟨S, σ, S2, σ2, m, m', h1, h2, h3, h4, h5, h6⟩ := h
 have ho : ∀ q, M q → Off q S σ ∧ Off q S2 σ2 := fun q hq => by
  obtain ⟨t, cs, hb, n1, n2, n3, n4, _⟩ := hM q hq
  exact ⟨h1.syms.off_of hb n1 n2, h1.pages.off_of hb n3 n4⟩
 have hne : ∀ {k : Nat} {cs : Array Value}, (Blk W k 111 cs ∨ Blk W k 137 cs) → ¬ M k := fun hb hk => by
  obtain ⟨t, cs', hb', _, _, _, _, n5, n6⟩ := hM _ hk
  rcases hb with hb | hb
  · exact hb'.ne_ hb n5 rfl
  · exact hb'.ne_ hb n6 rfl
 have hT : ∀ {T : TB}, TabBlk W T → TabBlk W' T := fun hb => ⟨hb.1.fr hF (hne (.inl hb.1)), hb.2.fr hF (hne (.inr hb.2))⟩
 exact ⟨S, σ, S2, σ2, m, m', ⟨h1.syms.offM (fun q hq => (ho q hq).1) hF, h1.pages.offM (fun q hq => (ho q hq).2) hF⟩, h2, h3.blk_ (hT h3.blk), h4.blk_ (hT h4.blk), h5, h6⟩
theorem GT.stepB {B : Nat} (h : GT D W T L) (hB : ∀ S2 σ2 σ S m, Tabs D W S σ S2 σ2 → TabSt W S S2 T L m → T.b < B ∧ T.bm < B) (hF : Fr (FromB B D) W W') : GT (Plus D W W') W' T L := by
 obtain ⟨S, σ, S2, σ2, m, h1, h2, h3⟩ := h
 have hF2 : Fr D W W' := hF.mono (fun k _ hk => hk.1)
 have nb : ∀ k, k < B → ¬ FromB B D k := fun k hk h => by have := h.2; omega
 have hBB := hB _ _ _ _ _ h1 h3
 exact ⟨S, σ, S2, σ2, m, h1.inD h2 hF2, h2.grow h1 _, h3.blk_ ⟨h3.blk.1.fr hF (nb _ hBB.1), h3.blk.2.fr hF (nb _ hBB.2)⟩⟩
theorem rows_ne {e1 e2 : TypeId} {z1 z2 n1 n2 b1 b2 : Nat} {v1 v2 : Value} {x1 x2 : List Value} (h1 : W.ownsRow b1 e1 z1 v1 n1 x1) (h2 : W.ownsRow b2 e2 z2 v2 n2 x2) (hne : e1 ≠ e2) {g : Nat} (hg : v1.ownBlock = some g) : v2.ownBlock ≠ some g := by
 rcases h1.2 with ⟨rfl, _⟩ | ⟨k, cap, cur, rfl, _, hk, _⟩
 · simp [Value.ownBlock] at hg
 · have e : k = g := by simpa [Value.ownBlock] using hg
   subst e
   exact own_blk_ne h2 (t := e1) (cs := cur) hk (Ne.symm hne)
theorem Blk.rangeAt {g : Nat} {t : TypeId} {cs : List Value} (h : Blk W g t cs.toArray) : W.rangeAt g 0 cs := fun j v hv => by
 rw [show (0 + j) = j by omega, h.cell j]; simpa using hv
theorem RowRd.drop_ {α : Type} {size c : Nat} {cells : α → List Value} {A : Option Addr} {l : List α} (h : RowRd W size cells A c l) (k : Nat) (hk : k ≤ l.length) : RowRd W size cells (if c = k then A else A.map (·.add (k * size))) (c - k) (l.drop k) := by
 obtain ⟨h1, h2, h3⟩ := h
 refine ⟨by simp; omega, by omega, fun h0 => ?_⟩
 have h0' : k < l.length := by simp at h0; omega
 obtain ⟨b, off, rfl, hb, hc⟩ := h3 (by omega)
 refine ⟨b, off + k * size, ?_, hb, fun j hj i u hu => ?_⟩
 · rw [if_neg (by omega)]
   simp only [Option.map_some]
   rw [Go.WideShapes.add_plain]
 · have hj' : k + j < l.length := by simp at hj; omega
   rw [List.getElem_drop] at hu
   have := hc (k + j) hj' i u hu
   rw [show off + k * size + j * size + i = off + (k + j) * size + i by rw [Nat.add_mul]; omega]
   exact this
def Own (D : Nat → Prop) (X : World) (k : Nat) (t : TypeId) (cs : Array Value) : Prop := Blk X k t cs ∧ ¬ D k
theorem Own.step {B k : Nat} {t : TypeId} {cs : Array Value} (h : Own D W k t cs) (hF : Fr (FromB B D) W W') : Own (Plus D W W') W' k t cs :=
 ⟨h.1.fr hF (fun hk => h.2 hk.1), fun hk => hk.elim h.2 (fun hk => by have := h.1.lt; omega)⟩
def OwnR (D : Nat → Prop) (X : World) (e : TypeId) (size n : Nat) (A : Option Addr) (c : Nat) (xs : List Value) : Prop := X.ownsRow 0 e size (.slice A n c) n xs ∧ AIn A (fun k => ¬ D k)
theorem OwnR.step {B size n c : Nat} {e : TypeId} {A : Option Addr} {xs : List Value} (h : OwnR D W e size n A c xs) (hF : Fr (FromB B D) W W') : OwnR (Plus D W W') W' e size n A c xs := by
 have hl := row_low h.1
 refine ⟨ownsRow_fr h.1 hF (fun g hg hk => ?_), fun a ha hk => hk.elim (h.2 a ha) (fun hk => by have := hl a ha; omega)⟩
 rcases A with _ | a
 · simp [Value.ownBlock] at hg
 · have e : a.block = g := by simpa [Value.ownBlock] using hg
   exact h.2 a rfl (e ▸ hk.1)
structure DoI (DI : Nat → Prop) (w W5 : World) (T T1 : TB) (l : List BindT) (L : List Sym) (news : List ByteArray) (bb tr ro rb re : Nat) (D : Nat → Prop) (pre : List ByteArray) (X : World) (A : Option Addr) (c : Nat) : Prop where
 gt : GT2 D X T T1 L (frsAll T1.room l L pre).2
 di : ∀ k, DI k → D k
 bb : Own D X bb 28 #[.slice A (l.length + pre.length) c]
 row : OwnR D X 36 4 (l.length + pre.length) A c ((frsAll T1.room l L pre).1.flatMap BindT.cells)
 from_ : AIn A (w.heap.size ≤ ·)
 tr : Own D X tr 66 #[.pointer (some ⟨T1.b, 0, none⟩)]
 ro : Own D X ro 69 #[.slice none 0 0]
 rb : Own D X rb 28 #[.slice none 0 0]
 re : Own D X re 44 #[.int .i64 0]
 fr : Fr (fun j => ¬ DI j) W5 X
 err : ∀ post, news = pre ++ post → freshErr T1.room L news = freshErr T1.room (frsAll T1.room l L pre).2 post
theorem DoI.step {DI : Nat → Prop} {w W5 : World} {T T1 : TB} {l : List BindT} {L : List Sym} {news : List ByteArray} {bb tr ro rb re : Nat} {pre : List ByteArray} {A : Option Addr} {c : Nat}
 (h : DoI DI w W5 T T1 l L news bb tr ro rb re D pre W A c) (hB : (T.b < W5.heap.size ∧ T.bm < W5.heap.size) ∧ (T1.b < W5.heap.size ∧ T1.bm < W5.heap.size)) (hDI : ∀ k, DI k → k < W5.heap.size) (hF : Fr (FromB W5.heap.size D) W W') :
 DoI DI w W5 T T1 l L news bb tr ro rb re (Plus D W W') pre W' A c :=
 ⟨h.gt.stepB hB hF, fun k hk => .inl (h.di k hk), h.bb.step hF, h.row.step hF, h.from_, h.tr.step hF, h.ro.step hF, h.rb.step hF, h.re.step hF, h.fr.trans (hF.mono (fun k _ hk hd => by have := hDI k hd; have := hk.2; omega)), h.err⟩
structure DoX (DI : Nat → Prop) (W5 : World) (T : TB) (L : List Sym) (R : (List PrefT × List BindT × Int) × List Sym) (ro rb re : Nat) (D : Nat → Prop) (X : World) (e : Int) : Prop where
 res : R = (([], [], e), L)
 gt : GT D X T L
 tb : T.b < W5.heap.size ∧ T.bm < W5.heap.size
 di : ∀ k, DI k → D k
 ro : Own D X ro 69 #[.slice none 0 0]
 rb : Own D X rb 28 #[.slice none 0 0]
 re : Own D X re 44 #[.int .i64 e]
 fr : Fr (fun j => ¬ DI j) W5 X
theorem DoX.step {DI : Nat → Prop} {W5 : World} {R : (List PrefT × List BindT × Int) × List Sym} {ro rb re : Nat} {e : Int} (h : DoX DI W5 T L R ro rb re D W e) (hDI : ∀ k, DI k → k < W5.heap.size) (hF : Fr (FromB W5.heap.size D) W W') : DoX DI W5 T L R ro rb re (Plus D W W') W' e :=
 ⟨h.res, h.gt.stepB (fun _ _ _ _ _ _ _ => h.tb) hF, h.tb, fun k hk => .inl (h.di k hk), h.ro.step hF, h.rb.step hF, h.re.step hF, h.fr.trans (hF.mono (fun k _ hk hd => by have := hDI k hd; have := hk.2; omega))⟩
theorem GT.addT (h : GT D W T L) (hM : ∀ k, M k → OtherT W k) : GT (fun k => D k ∨ M k) W T L := by
 obtain ⟨S, σ, S2, σ2, m, h1, h2, h3⟩ := h
 have ho : ∀ q, M q → (Off q S σ ∧ Off q S2 σ2) ∧ q < W.heap.size := fun q hq => by
  obtain ⟨t, cs, hb, n1, n2, n3, n4, _⟩ := hM q hq
  exact ⟨⟨h1.syms.off_of hb n1 n2, h1.pages.off_of hb n3 n4⟩, hb.lt⟩
 exact ⟨S, σ, S2, σ2, m, ⟨Sets.more h1.syms (fun q hq => hq.imp id (fun hq => ⟨(ho q hq).1.1, (ho q hq).2⟩)), Sets.more h1.pages (fun q hq => hq.imp id (fun hq => ⟨(ho q hq).1.2, (ho q hq).2⟩))⟩, fun q hq => hq.elim (h2 q) (fun hq => (ho q hq).1), h3⟩
theorem GT.offT (h : GT D W T L) (hM : ∀ k, M k → OtherT W k) (hF : Fr M W W') : GT D W' T L := by
 obtain ⟨S, σ, S2, σ2, m, h1, h2, h3⟩ := h
 have ho : ∀ q, M q → Off q S σ ∧ Off q S2 σ2 := fun q hq => by
  obtain ⟨t, cs, hb, n1, n2, n3, n4, _⟩ := hM q hq
  exact ⟨h1.syms.off_of hb n1 n2, h1.pages.off_of hb n3 n4⟩
 have hne : ∀ {k : Nat} {cs : Array Value}, (Blk W k 111 cs ∨ Blk W k 137 cs) → ¬ M k := fun hb hk => by
  obtain ⟨t, cs', hb', _, _, _, _, n5, n6⟩ := hM _ hk
  rcases hb with hb | hb
  · exact hb'.ne_ hb n5 rfl
  · exact hb'.ne_ hb n6 rfl
 exact ⟨S, σ, S2, σ2, m, ⟨h1.syms.offM (fun q hq => (ho q hq).1) hF, h1.pages.offM (fun q hq => (ho q hq).2) hF⟩, h2, h3.blk_ ⟨h3.blk.1.fr hF (hne (.inl h3.blk.1)), h3.blk.2.fr hF (hne (.inr h3.blk.2))⟩⟩
theorem GT2.plus (h : GT2 D W T T' L L') (hb : Below W.heap.size W W') : GT2 (Plus D W W') W' T T' L L' := h.new_ hb
theorem GT.plus (h : GT D W T L) (hb : Below W.heap.size W W') : GT (Plus D W W') W' T L := h.new_ hb
end
end Go.Proofs.YtpndmjabjjbefaaGreat
