/-
  Texts put together: NewPage, WorkPage, BookMap, Tab, BookPut, BookPut2, TabNew, TabPut.
-/
import Derived.Test.YtpndmjabjjbefaaGreatVg
import Derived.Test.YtpndmjabjjbefaaGreatVb
import Derived.Test.YtpndmjabjjbefaaGreatVc
import Derived.Deep.Cut
import Derived.Maps.RangeWalk
namespace Go.Proofs.YtpndmjabjjbefaaGreat
open Go.RowKit
def NewPostPage (w : World) (xs : List Page) (e : Ending) (w' : World) : Prop :=
 ∃ k, e = .returned (.pointer (some ⟨k, 0, none⟩)) ∧ w.heap.size ≤ k ∧ ∃ sn A c, PageSet w' k sn A c (puts cmpPage [] xs) ∧ AIn A (w.heap.size ≤ ·) ∧ Below w.heap.size w w'
set_option maxRecDepth 100000 in
set_option maxHeartbeats 2000000 in
theorem new_Page (A : Option Addr) (c : Nat) (xs : List Page) (w : World) (hrd : RowRd w 2 Page.cells A c xs) (hl : (xs.length : Int) ≤ 10000000) :
 Calls Tryz.prog 74 #[.slice A xs.length c] w (NewPostPage w xs) := by
 have HRD := Lib.hid hrd
 clear hrd
 go_enter Tryz.func74, Tryz.ntmps74
 go_wp2_with fail
 obtain ⟨W0, hW0⟩ : ∃ W0, W0 = w.alloc (.cells #[.slice none 0 0, .bool false] 161) := ⟨_, rfl⟩
 have hb0 : Below w.heap.size w W0 := by rw [hW0]; exact (Below.refl _ _).alloc (Nat.le_refl _) _
 have hS0 : PageSet W0 w.heap.size false none 0 [] := ⟨by rw [hW0]; exact Blk.new _ _ _, ⟨by simp, .inl ⟨rfl, rfl⟩⟩⟩
 rw [← hW0]
 clear hW0
 have HB0 := Lib.hid hb0
 have HS0 := Lib.hid hS0
 clear hb0 hS0
 go_loopw [10] (fun s wr => ∃ i : Nat, s = .int .i64 i ∧ i ≤ xs.length ∧ ∃ sn A' c', PageSet wr w.heap.size sn A' c' (puts cmpPage [] (xs.take i)) ∧ AIn A' (w.heap.size ≤ ·) ∧ Below w.heap.size w wr) (fun s wr => xs.length - (intOf s).toNat)
 case atStart => exact ⟨0, rfl, Nat.zero_le _, false, none, 0, HS0.out, AIn.none_ _, HB0.out⟩
 case round =>
  obtain ⟨i, rfl, hi, sn, A', c', hS, hA', hB⟩ := hrel
  have HS := Lib.hid hS
  have HA := Lib.hid hA'
  have HB := Lib.hid hB
  clear hS hA' hB
  by_cases hlt : i < xs.length
  · obtain ⟨x, hx⟩ : ∃ x, x = xs[i] := ⟨_, rfl⟩
    obtain ⟨g, off, rfl, hgs, hcell⟩ := (HRD.out.fr (Fr.of_new (M := fun _ => False) HB.out) (fun _ _ h => h)).at_ hlt
    rw [← hx] at hcell
    have q0 : wr.cell? ⟨g, off + i * 2, none⟩ = some (.int .u8 x.kk) := by simpa using hcell 0 _ rfl
    have q1 : wr.cell? ⟨g, off + i * 2 + 1, none⟩ = some (.int .i64 x.v) := by simpa using hcell 1 _ rfl
    have b1 : (0 : Int) ≤ (i : Int) := by omega
    have b2 : (i : Int) < (xs.length : Int) := by omega
    have HX := Lib.hid hx
    clear hcell hx
    go_wp2_with fail
    have hsr := Srt.puts tc_page (xs.take i) (Srt.nil (cmp := cmpPage))
    have hlen : (((puts cmpPage [] (xs.take i)).length : Nat) : Int) ≤ 100000000 := by
     have := length_puts_le tc_page (xs.take i) (Srt.nil (cmp := cmpPage))
     simp at this
     omega
    refine (put_Page w.heap.size c' sn A' _ x _ (HS.out.new_ ((Below.refl _ _).alloc (Nat.le_refl _) _)) hsr hlen).mono ?_
    rintro e w1 ⟨rfl, sn2, A2, c2, hS2, hF2, hM2⟩
    have hB1 : Below w.heap.size w w1 := (HB.out.alloc HB.out.size _).trans (hF2.below (by have := HB.out.size; (try simp); omega) (fun k hk hm => by
     rcases hm with hm | ⟨_, a, ha, hm⟩
     · omega
     · have := HA.out a ha; omega))
    have hA2 : AIn A2 (w.heap.size ≤ ·) := by
     rcases hM2 with ⟨_, rfl⟩ | ⟨_, g2, hg2, rfl⟩
     · exact HA.out
     · intro a ha; cases ha; have := HB.out.size; (try simp at hg2 ⊢); omega
    have HS2 := Lib.hid hS2
    have HB1 := Lib.hid hB1
    have HA2 := Lib.hid hA2
    clear hS2 hB1 hA2 hF2 hM2 hsr hlen q0 q1
    go_wp2_with fail
    go_roundw
    case rel =>
     refine ⟨i + 1, by go_num, by omega, sn2, A2, c2, ?_, HA2.out, HB1.out⟩
     rw [List.take_add_one, List.getElem?_eq_getElem hlt, ← HX.out]
     simp only [Option.toList_some, puts_snoc]
     exact HS2.out
    case measure => simp [intOf] <;> omega
  · have hie : i = xs.length := by omega
    subst hie
    go_wp2_with fail
    go_ret
    refine ⟨w.heap.size, rfl, Nat.le_refl _, sn, A', c', ?_, HA.out, HB.out⟩
    have := HS.out
    rwa [List.take_length] at this
end Go.Proofs.YtpndmjabjjbefaaGreat
namespace Go.Proofs.YtpndmjabjjbefaaGreat
open Go.RowKit
abbrev PageSets := Sets (α := Page) 161 135 2 Page.cells cmpPage
section
variable {D : Nat → Prop} {w : World} {S : Nat → Option (List Page)} {σ : Nat → St} {b : Nat} {l : List Page}
theorem sClone_Page (h : PageSets D w S σ) (hb : S b = some l) :
 Calls Tryz.prog 103 #[.pointer (some ⟨b, 0, none⟩)] w fun e w' => ∃ k, e = .returned (.pointer (some ⟨k, 0, none⟩)) ∧ w.heap.size ≤ k ∧ (∀ b l, S b = some l → b ≠ k) ∧
  ∃ σ', PageSets D w' (upd S k (some l)) σ' ∧ (∀ j, j ≠ k → j ≠ b → σ' j = σ j) ∧ (σ' b).sn = true ∧ (σ' b).A = (σ b).A ∧ (σ' k).sn = true ∧ (σ' k).A = (σ b).A ∧ Fr (fun k => ¬ D k) w w' ∧ Fr (· = b) w w' := by
 refine (clone_Page b _ _ _ l w (h.at_ b l hb)).mono ?_
 rintro e w' ⟨k, he, hk, h1, h2, hF⟩
 have hnb : b ≠ k := fun e => by have := h.lt hb; omega
 have hD : Fr (fun k => ¬ D k) w w' := hF.mono (fun k _ hk => by rw [hk]; exact (h.out b l hb).1)
 have hs := h.seen (by decide) hb h1 hF
 have hrow := (h.at_ b l hb).row_lt
 refine ⟨k, he, hk, fun b l hb e => by have := h.lt hb; omega, upd (upd σ b ⟨true, (σ b).A, (σ b).c⟩) k ⟨true, (σ b).A, (σ b).c⟩, ⟨fun j m hj => ?_, fun j m hj => ?_, fun j m hj => ?_, fun j m j' m' hj hj' hjj hsj a a' ha ha' => ?_, hs.low⟩, fun j h1 h2 => by rw [upd_ne _ _ h1, upd_ne _ _ h2], by rw [upd_ne _ _ hnb, upd_same], by rw [upd_ne _ _ hnb, upd_same], by rw [upd_same], by rw [upd_same], hD, hF⟩
 · by_cases e : j = k
   · subst e; rw [upd_same] at hj ⊢; cases hj; exact h2
   · rw [upd_ne _ _ e] at hj ⊢; exact hs.at_ j m hj
 · by_cases e : j = k
   · subst e; rw [upd_same] at hj; cases hj; exact h.srt b l hb
   · rw [upd_ne _ _ e] at hj; exact h.srt j m hj
 · by_cases e : j = k
   · subst e; rw [upd_same] at hj ⊢; cases hj
     exact ⟨fun hd => by have := h.low _ hd; omega, fun hs2 => by cases hs2⟩
   · rw [upd_ne _ _ e] at hj ⊢; exact hs.out j m hj
 · by_cases e : j = k
   · subst e; rw [upd_same] at hsj; cases hsj
   · rw [upd_ne _ _ e] at hj hsj ha
     by_cases e2 : j' = k
     · subst e2
       rw [upd_same] at ha'
       by_cases e3 : j = b
       · subst e3; rw [upd_same] at hsj; cases hsj
       · exact hs.apart j m b l hj hb e3 hsj a a' ha (by rw [upd_same]; exact ha')
     · rw [upd_ne _ _ e2] at hj' ha'
       exact hs.apart j m j' m' hj hj' hjj hsj a a' ha ha'
end
end Go.Proofs.YtpndmjabjjbefaaGreat
namespace Go.Proofs.YtpndmjabjjbefaaGreat
open Go.RowKit
def mget (m : List Page) (c : UInt8) : Option Int := (m.find? fun p => p.key == c).map Page.v
def mput (m : List Page) (p : Page) : List Page := put cmpPage (drop cmpPage m p) p
theorem mget_none {m : List Page} {c : UInt8} (h : has cmpPage m ⟨c, 0⟩ = false) : mget m c = none := by
 unfold mget
 rw [List.find?_eq_none.2]
 · rfl
 · intro p hp
   have := has_false.1 h p hp
   simp only [beq_iff_eq]
   exact fun e => this (cmpPage_eq.2 e)
theorem mget_some {m : List Page} (hs : Srt cmpPage m) {c : UInt8} {p : Page} (hp : p ∈ m) (h : p.key = c) : mget m c = some p.v := by
 unfold mget
 obtain ⟨i, hi, rfl⟩ := List.getElem_of_mem hp
 have : m.find? (fun p => p.key == c) = some m[i] := by
  rw [List.find?_eq_some_iff_getElem]
  refine ⟨by simpa using h, i, hi, rfl, fun j hj => ?_⟩
  have h2 := hs.lt hj hi
  simp only [Bool.not_eq_true', beq_eq_false_iff_ne]
  intro e
  have : cmpPage m[j] m[i] = 0 := cmpPage_eq.2 (e.trans h.symm)
  omega
 rw [this]; rfl
theorem found_page {m : List Page} (hs : Srt cmpPage m) {c : UInt8} {v : Int} (h : has cmpPage m ⟨c, v⟩ = true) : ∃ y, m[rank cmpPage m ⟨c, v⟩]? = some y ∧ y.key = c ∧ mget m c = some y.v := by
 obtain ⟨_, _, hk, e⟩ := drop_eq tc_page hs h
 exact ⟨_, List.getElem?_eq_getElem hk, cmpPage_eq.1 e, mget_some hs (List.getElem_mem hk) (cmpPage_eq.1 e)⟩
set_option maxHeartbeats 1000000 in
theorem at_is (c : UInt8) (w : World) : Calls Tryz.prog 127 #[.int .u8 (c.toNat : Int)] w fun e w' => e = .returned (.agg #[.int .u8 (c.toNat : Int), .int .i64 0]) ∧ Below w.heap.size w w' := by
 go_enter Tryz.func127, Tryz.ntmps127
 go_wp2_with fail
 exact bodyPost_ret (v := .agg #[.int .u8 (c.toNat : Int), .int .i64 0]) (by simp [results, Tryz.results127, go_sem]) rfl ⟨rfl, by (repeat (first | exact Below.refl _ _ | (refine Below.drew ?_) | (refine Below.alloc ?_ (by simp <;> omega) _) | (refine Below.setCell ?_ (by simp <;> omega) _)))⟩
set_option maxRecDepth 100000 in
set_option maxHeartbeats 4000000 in
theorem mapget_no (bm bp cc : Nat) (sn : Bool) (A : Option Addr) (m : List Page) (c : UInt8) (w : World) (hM : Blk w bm 137 #[.pointer (some ⟨bp, 0, none⟩)]) (hS : PageSet w bp sn A cc m) (hs : Srt cmpPage m) (hl : (m.length : Int) ≤ 1000000) (hh : has cmpPage m ⟨c, 0⟩ = false) :
 Calls Tryz.prog 104 #[.pointer (some ⟨bm, 0, none⟩), .int .u8 (c.toNat : Int)] w fun e w' => e = .returned (.tuple #[.int .i64 0, .bool false]) ∧ Below w.heap.size w w' := by
 have s0 := (hM.cell 0).trans rfl
 have hml := hM.lt
 have HS := Lib.hid hS
 have HO := Lib.hid hs
 have HM := Lib.hid hM
 have HH := Lib.hid hh
 clear hS hs hM hh
 go_enter Tryz.func104, Tryz.ntmps104
 go_wp2_with fail
 refine wp_region_Pl (fun w9 => Below w.heap.size w w9) [0, 1, 2, 3, 4, 7, 8, 9, 12] [3] (.fork [(0, 0), (1, 0), (2, 0), (3, 1), (4, 0)] 5 (.fork [] 6 (.fin [(7, 0), (8, 0), (9, 0), (10, 2), (11, 2), (12, 0)]) 10 (.fin [(6, 2), (7, 0), (8, 0), (9, 0), (11, 2), (12, 0)])) 10 (.fin [(5, 2), (6, 2), (7, 0), (8, 0), (9, 0), (11, 2), (12, 0)])) (by kernel_rfl) (by kernel_rfl) (by kernel_rfl) (fun KK hKK => ?_)
 simp only [wpPl, beside, List.filterMap_cons, List.filterMap_nil, List.getElem?_toArray, List.getElem?_cons_zero, List.getElem?_cons_succ, Option.map_some]
 repeat (first | (refine wpY_w ?_ (Or.inl ⟨by rfl, fun w9 => ?_⟩) ?_; rotate_left 1; go_simp; with_reducible rfl; go_frame) | (refine wpY_l ?_ ((Below.refl _ _).drew) (Or.inl ⟨by rfl, fun w9 hw9 => ?_⟩) ?_; rotate_left 1; obtain ⟨hc9, hf9⟩ := bcell hw9; go_simp; with_reducible rfl; go_frame) | (refine wpY_w undef (Or.inr ⟨by rfl, rfl⟩) ?_; go_frame) | (refine wpY_l undef ((Below.refl _ _).drew) (Or.inr ⟨by rfl, rfl⟩) ?_; go_frame))
 refine wpY_nil ⟨?_, ?_⟩
 · refine wpOp_cs rfl (fun K9 hK9 => ?_)
   go_simp
   refine (at_is c _).mono ?_
   rintro e wa ⟨rfl, hba⟩
   have HBa := Lib.hid (((Below.refl w.heap.size w).drew).trans (hba.mono (by first | omega | simp)))
   clear hba
   have hza := HBa.out.size
   refine hK9 _ _ (fun _ => HBa.out) ?_
   clear hK9 K9
   try go_frame
   try simp only [beside, List.filterMap_nil]
   refine wpY_nil ⟨?_, ?_⟩
   · refine wpOp_cs rfl (fun K9 hK9 => ?_)
     go_simp
     refine (get_no_Page bp cc sn A m ⟨c, 0⟩ _ (HS.out.new_ (HBa.out)) HO.out (by omega) HH.out).mono ?_
     rintro e wg ⟨rfl, hbg⟩
     have HBg := Lib.hid ((HBa.out).trans (hbg.mono (by have := HBa.out.size; first | omega | (simp; done) | (simp; omega))))
     clear hbg
     have hzg := HBg.out.size
     refine hK9 _ _ (fun _ => HBg.out) ?_
     clear hK9 K9
     try go_frame
     try simp only [beside, List.filterMap_nil]
     repeat (first | (refine wpY_w ?_ (Or.inl ⟨by rfl, fun w9 => ?_⟩) ?_; rotate_left 1; go_simp; with_reducible rfl; go_frame) | (refine wpY_l ?_ (HBg.out) (Or.inl ⟨by rfl, fun w9 hw9 => ?_⟩) ?_; rotate_left 1; obtain ⟨hc9, hf9⟩ := bcell hw9; go_simp; with_reducible rfl; go_frame) | (refine wpY_w undef (Or.inr ⟨by rfl, rfl⟩) ?_; go_frame) | (refine wpY_l undef (HBg.out) (Or.inr ⟨by rfl, rfl⟩) ?_; go_frame))
     refine wpY_es (fun K9 hK9 => ?_)
     go_simp
     have hB9 := (HBg.out).alloc (by have := HBg.out.size; first | omega | (simp; done) | (simp; omega)) (.cells #[.int .u8 0, .int .i64 0] 135)
     have HB9 := Lib.hid hB9
     have hk9 : Blk (wg.alloc (.cells #[.int .u8 0, .int .i64 0] 135)) wg.heap.size 135 #[.int .u8 0, .int .i64 0] := Blk.new wg 135 #[.int .u8 0, .int .i64 0]
     have HK9 := Lib.hid hk9
     clear hB9 hk9
     have hz9 := HB9.out.size
     refine hK9 _ _ (HB9.out) ?_
     clear hK9 K9
     try go_frame
     refine wpY_es (fun K9 hK9 => ?_)
     have u0 := ((HK9.out).cell 0).trans rfl
     have u1 := ((HK9.out).cell 1).trans rfl
     have f0 := (HK9.out).frozen 0
     have f1 := (HK9.out).frozen 1
     have hgl := (HK9.out).lt
     go_simp
     refine hK9 _ _ (by (repeat (first | exact Below.refl _ _ | exact HBa.out | exact HBg.out | exact HB9.out | (refine Below.drew ?_) | (refine Below.alloc ?_ (by first | omega | (simp; done) | (simp; omega)) _) | (refine Below.setCell ?_ (by first | omega | (simp; done) | (simp; omega)) _)))) ?_
     clear hK9 K9
     try go_frame
     repeat (first | (refine wpY_w ?_ (Or.inl ⟨by rfl, fun w9 => ?_⟩) ?_; rotate_left 1; go_simp; with_reducible rfl; go_frame) | (refine wpY_l ?_ (by (repeat (first | exact Below.refl _ _ | exact HBa.out | exact HBg.out | exact HB9.out | (refine Below.drew ?_) | (refine Below.alloc ?_ (by first | omega | (simp; done) | (simp; omega)) _) | (refine Below.setCell ?_ (by first | omega | (simp; done) | (simp; omega)) _)))) (Or.inl ⟨by rfl, fun w9 hw9 => ?_⟩) ?_; rotate_left 1; obtain ⟨hc9, hf9⟩ := bcell hw9; go_simp; with_reducible rfl; go_frame) | (refine wpY_w undef (Or.inr ⟨by rfl, rfl⟩) ?_; go_frame) | (refine wpY_l undef (by (repeat (first | exact Below.refl _ _ | exact HBa.out | exact HBg.out | exact HB9.out | (refine Below.drew ?_) | (refine Below.alloc ?_ (by first | omega | (simp; done) | (simp; omega)) _) | (refine Below.setCell ?_ (by first | omega | (simp; done) | (simp; omega)) _)))) (Or.inr ⟨by rfl, rfl⟩) ?_; go_frame))
     refine wpY_nil ?_
     simp only [OnlyN_normal]
     refine hKK _ _ ?_
     clear hKK KK
     go_wp2_with fail
     go_ret2
     exact ⟨rfl, by (repeat (first | exact Below.refl _ _ | exact HBa.out | exact HBg.out | exact HB9.out | (refine Below.drew ?_) | (refine Below.alloc ?_ (by first | omega | (simp; done) | (simp; omega)) _) | (refine Below.setCell ?_ (by first | omega | (simp; done) | (simp; omega)) _)))⟩
   · refine wpOp_cs rfl (fun K9 hK9 => ?_)
     go_simp
     have hB9 := (HBa.out).alloc (by have := HBa.out.size; first | omega | (simp; done) | (simp; omega)) (.cells #[.int .u8 0, .int .i64 0] 135)
     have HB9 := Lib.hid hB9
     have hk9 : Blk (wa.alloc (.cells #[.int .u8 0, .int .i64 0] 135)) wa.heap.size 135 #[.int .u8 0, .int .i64 0] := Blk.new wa 135 #[.int .u8 0, .int .i64 0]
     have HK9 := Lib.hid hk9
     clear hB9 hk9
     have hz9 := HB9.out.size
     refine hK9 _ _ (fun _ => HB9.out) ?_
     clear hK9 K9
     try go_frame
     try simp only [beside, List.filterMap_nil]
     refine wpY_es (fun K9 hK9 => ?_)
     go_simp
     refine (get_no_Page bp cc sn A m ⟨c, 0⟩ _ (HS.out.new_ (HB9.out)) HO.out (by omega) HH.out).mono ?_
     rintro e wg ⟨rfl, hbg⟩
     have hkg := (HK9.out).new_ hbg
     have HKg := Lib.hid hkg
     clear hkg
     have HBg := Lib.hid ((HB9.out).trans (hbg.mono (by have := HB9.out.size; first | omega | (simp at this ⊢; done) | (simp at this ⊢; omega))))
     clear hbg
     have hzg := HBg.out.size
     refine hK9 _ _ (HBg.out) ?_
     clear hK9 K9
     try go_frame
     repeat (first | (refine wpY_w ?_ (Or.inl ⟨by rfl, fun w9 => ?_⟩) ?_; rotate_left 1; go_simp; with_reducible rfl; go_frame) | (refine wpY_l ?_ (HBg.out) (Or.inl ⟨by rfl, fun w9 hw9 => ?_⟩) ?_; rotate_left 1; obtain ⟨hc9, hf9⟩ := bcell hw9; go_simp; with_reducible rfl; go_frame) | (refine wpY_w undef (Or.inr ⟨by rfl, rfl⟩) ?_; go_frame) | (refine wpY_l undef (HBg.out) (Or.inr ⟨by rfl, rfl⟩) ?_; go_frame))
     refine wpY_es (fun K9 hK9 => ?_)
     have u0 := ((HKg.out).cell 0).trans rfl
     have u1 := ((HKg.out).cell 1).trans rfl
     have f0 := (HKg.out).frozen 0
     have f1 := (HKg.out).frozen 1
     have hgl := (HKg.out).lt
     go_simp
     refine hK9 _ _ (by (repeat (first | exact Below.refl _ _ | exact HBa.out | exact HB9.out | exact HBg.out | (refine Below.drew ?_) | (refine Below.alloc ?_ (by first | omega | (simp; done) | (simp; omega)) _) | (refine Below.setCell ?_ (by first | omega | (simp; done) | (simp; omega)) _)))) ?_
     clear hK9 K9
     try go_frame
     repeat (first | (refine wpY_w ?_ (Or.inl ⟨by rfl, fun w9 => ?_⟩) ?_; rotate_left 1; go_simp; with_reducible rfl; go_frame) | (refine wpY_l ?_ (by (repeat (first | exact Below.refl _ _ | exact HBa.out | exact HB9.out | exact HBg.out | (refine Below.drew ?_) | (refine Below.alloc ?_ (by first | omega | (simp; done) | (simp; omega)) _) | (refine Below.setCell ?_ (by first | omega | (simp; done) | (simp; omega)) _)))) (Or.inl ⟨by rfl, fun w9 hw9 => ?_⟩) ?_; rotate_left 1; obtain ⟨hc9, hf9⟩ := bcell hw9; go_simp; with_reducible rfl; go_frame) | (refine wpY_w undef (Or.inr ⟨by rfl, rfl⟩) ?_; go_frame) | (refine wpY_l undef (by (repeat (first | exact Below.refl _ _ | exact HBa.out | exact HB9.out | exact HBg.out | (refine Below.drew ?_) | (refine Below.alloc ?_ (by first | omega | (simp; done) | (simp; omega)) _) | (refine Below.setCell ?_ (by first | omega | (simp; done) | (simp; omega)) _)))) (Or.inr ⟨by rfl, rfl⟩) ?_; go_frame))
     refine wpY_nil ?_
     simp only [OnlyN_normal]
     refine hKK _ _ ?_
     clear hKK KK
     go_wp2_with fail
     go_ret2
     exact ⟨rfl, by (repeat (first | exact Below.refl _ _ | exact HBa.out | exact HB9.out | exact HBg.out | (refine Below.drew ?_) | (refine Below.alloc ?_ (by first | omega | (simp; done) | (simp; omega)) _) | (refine Below.setCell ?_ (by first | omega | (simp; done) | (simp; omega)) _)))⟩
 · refine wpOp_cs rfl (fun K9 hK9 => ?_)
   go_simp
   have hB9 := ((Below.refl w.heap.size w).drew).alloc (by first | omega | simp) (.cells #[.int .u8 0, .int .i64 0] 135)
   have HB9 := Lib.hid hB9
   have hk9 : Blk (w.drew.alloc (.cells #[.int .u8 0, .int .i64 0] 135)) w.heap.size 135 #[.int .u8 0, .int .i64 0] := Blk.new w.drew 135 #[.int .u8 0, .int .i64 0]
   have HK9 := Lib.hid hk9
   clear hB9 hk9
   have hz9 := HB9.out.size
   refine hK9 _ _ (fun _ => HB9.out) ?_
   clear hK9 K9
   try go_frame
   try simp only [beside, List.filterMap_nil]
   refine wpY_es (fun K9 hK9 => ?_)
   go_simp
   refine (at_is c _).mono ?_
   rintro e wa ⟨rfl, hba⟩
   have hka := (HK9.out).new_ hba
   have HKa := Lib.hid hka
   clear hka
   have HBa := Lib.hid ((HB9.out).trans (hba.mono (by have := HB9.out.size; first | omega | (simp at this ⊢; done) | (simp at this ⊢; omega))))
   clear hba
   have hza := HBa.out.size
   refine hK9 _ _ (HBa.out) ?_
   clear hK9 K9
   try go_frame
   refine wpY_es (fun K9 hK9 => ?_)
   go_simp
   refine (get_no_Page bp cc sn A m ⟨c, 0⟩ _ (HS.out.new_ (HBa.out)) HO.out (by omega) HH.out).mono ?_
   rintro e wg ⟨rfl, hbg⟩
   have hkg := (HKa.out).new_ hbg
   have HKg := Lib.hid hkg
   clear hkg
   have HBg := Lib.hid ((HBa.out).trans (hbg.mono (by have := HBa.out.size; first | omega | (simp; done) | (simp; omega))))
   clear hbg
   have hzg := HBg.out.size
   refine hK9 _ _ (HBg.out) ?_
   clear hK9 K9
   try go_frame
   repeat (first | (refine wpY_w ?_ (Or.inl ⟨by rfl, fun w9 => ?_⟩) ?_; rotate_left 1; go_simp; with_reducible rfl; go_frame) | (refine wpY_l ?_ (HBg.out) (Or.inl ⟨by rfl, fun w9 hw9 => ?_⟩) ?_; rotate_left 1; obtain ⟨hc9, hf9⟩ := bcell hw9; go_simp; with_reducible rfl; go_frame) | (refine wpY_w undef (Or.inr ⟨by rfl, rfl⟩) ?_; go_frame) | (refine wpY_l undef (HBg.out) (Or.inr ⟨by rfl, rfl⟩) ?_; go_frame))
   refine wpY_es (fun K9 hK9 => ?_)
   have u0 := ((HKg.out).cell 0).trans rfl
   have u1 := ((HKg.out).cell 1).trans rfl
   have f0 := (HKg.out).frozen 0
   have f1 := (HKg.out).frozen 1
   have hgl := (HKg.out).lt
   go_simp
   refine hK9 _ _ (by (repeat (first | exact Below.refl _ _ | exact HB9.out | exact HBa.out | exact HBg.out | (refine Below.drew ?_) | (refine Below.alloc ?_ (by first | omega | (simp; done) | (simp; omega)) _) | (refine Below.setCell ?_ (by first | omega | (simp; done) | (simp; omega)) _)))) ?_
   clear hK9 K9
   try go_frame
   repeat (first | (refine wpY_w ?_ (Or.inl ⟨by rfl, fun w9 => ?_⟩) ?_; rotate_left 1; go_simp; with_reducible rfl; go_frame) | (refine wpY_l ?_ (by (repeat (first | exact Below.refl _ _ | exact HB9.out | exact HBa.out | exact HBg.out | (refine Below.drew ?_) | (refine Below.alloc ?_ (by first | omega | (simp; done) | (simp; omega)) _) | (refine Below.setCell ?_ (by first | omega | (simp; done) | (simp; omega)) _)))) (Or.inl ⟨by rfl, fun w9 hw9 => ?_⟩) ?_; rotate_left 1; obtain ⟨hc9, hf9⟩ := bcell hw9; go_simp; with_reducible rfl; go_frame) | (refine wpY_w undef (Or.inr ⟨by rfl, rfl⟩) ?_; go_frame) | (refine wpY_l undef (by (repeat (first | exact Below.refl _ _ | exact HB9.out | exact HBa.out | exact HBg.out | (refine Below.drew ?_) | (refine Below.alloc ?_ (by first | omega | (simp; done) | (simp; omega)) _) | (refine Below.setCell ?_ (by first | omega | (simp; done) | (simp; omega)) _)))) (Or.inr ⟨by rfl, rfl⟩) ?_; go_frame))
   refine wpY_nil ?_
   simp only [OnlyN_normal]
   refine hKK _ _ ?_
   clear hKK KK
   go_wp2_with fail
   go_ret2
   exact ⟨rfl, by (repeat (first | exact Below.refl _ _ | exact HB9.out | exact HBa.out | exact HBg.out | (refine Below.drew ?_) | (refine Below.alloc ?_ (by first | omega | (simp; done) | (simp; omega)) _) | (refine Below.setCell ?_ (by first | omega | (simp; done) | (simp; omega)) _)))⟩
set_option maxRecDepth 100000 in
set_option maxHeartbeats 4000000 in
theorem mapget_is (bm bp cc : Nat) (sn : Bool) (A : Option Addr) (m : List Page) (c : UInt8) (y : Page) (w : World) (hM : Blk w bm 137 #[.pointer (some ⟨bp, 0, none⟩)]) (hS : PageSet w bp sn A cc m) (hs : Srt cmpPage m) (hl : (m.length : Int) ≤ 1000000) (hh : has cmpPage m ⟨c, 0⟩ = true) (hy : m[rank cmpPage m ⟨c, 0⟩]? = some y) :
 Calls Tryz.prog 104 #[.pointer (some ⟨bm, 0, none⟩), .int .u8 (c.toNat : Int)] w fun e w' => e = .returned (.tuple #[.int .i64 y.v, .bool true]) ∧ Below w.heap.size w w' := by
 have s0 := (hM.cell 0).trans rfl
 have hml := hM.lt
 have HS := Lib.hid hS
 have HO := Lib.hid hs
 have HM := Lib.hid hM
 have HH := Lib.hid hh
 have HY := Lib.hid hy
 clear hy
 clear hS hs hM hh
 go_enter Tryz.func104, Tryz.ntmps104
 go_wp2_with fail
 refine wp_region_Pl (fun w9 => Below w.heap.size w w9) [0, 1, 2, 3, 4, 7, 8, 9, 12] [3] (.fork [(0, 0), (1, 0), (2, 0), (3, 1), (4, 0)] 5 (.fork [] 6 (.fin [(7, 0), (8, 0), (9, 0), (10, 2), (11, 2), (12, 0)]) 10 (.fin [(6, 2), (7, 0), (8, 0), (9, 0), (11, 2), (12, 0)])) 10 (.fin [(5, 2), (6, 2), (7, 0), (8, 0), (9, 0), (11, 2), (12, 0)])) (by kernel_rfl) (by kernel_rfl) (by kernel_rfl) (fun KK hKK => ?_)
 simp only [wpPl, beside, List.filterMap_cons, List.filterMap_nil, List.getElem?_toArray, List.getElem?_cons_zero, List.getElem?_cons_succ, Option.map_some]
 repeat (first | (refine wpY_w ?_ (Or.inl ⟨by rfl, fun w9 => ?_⟩) ?_; rotate_left 1; go_simp; with_reducible rfl; go_frame) | (refine wpY_l ?_ ((Below.refl _ _).drew) (Or.inl ⟨by rfl, fun w9 hw9 => ?_⟩) ?_; rotate_left 1; obtain ⟨hc9, hf9⟩ := bcell hw9; go_simp; with_reducible rfl; go_frame) | (refine wpY_w undef (Or.inr ⟨by rfl, rfl⟩) ?_; go_frame) | (refine wpY_l undef ((Below.refl _ _).drew) (Or.inr ⟨by rfl, rfl⟩) ?_; go_frame))
 refine wpY_nil ⟨?_, ?_⟩
 · refine wpOp_cs rfl (fun K9 hK9 => ?_)
   go_simp
   refine (at_is c _).mono ?_
   rintro e wa ⟨rfl, hba⟩
   have HBa := Lib.hid (((Below.refl w.heap.size w).drew).trans (hba.mono (by first | omega | simp)))
   clear hba
   have hza := HBa.out.size
   refine hK9 _ _ (fun _ => HBa.out) ?_
   clear hK9 K9
   try go_frame
   try simp only [beside, List.filterMap_nil]
   refine wpY_nil ⟨?_, ?_⟩
   · refine wpOp_cs rfl (fun K9 hK9 => ?_)
     go_simp
     refine (get_is_Page bp cc sn A m ⟨c, 0⟩ y _ (HS.out.new_ (HBa.out)) HO.out (by omega) HH.out HY.out).mono ?_
     rintro e wg ⟨rfl, hbg⟩
     have HBg := Lib.hid ((HBa.out).trans (hbg.mono (by have := HBa.out.size; first | omega | (simp; done) | (simp; omega))))
     clear hbg
     have hzg := HBg.out.size
     refine hK9 _ _ (fun _ => HBg.out) ?_
     clear hK9 K9
     try go_frame
     try simp only [beside, List.filterMap_nil]
     repeat (first | (refine wpY_w ?_ (Or.inl ⟨by rfl, fun w9 => ?_⟩) ?_; rotate_left 1; go_simp; with_reducible rfl; go_frame) | (refine wpY_l ?_ (HBg.out) (Or.inl ⟨by rfl, fun w9 hw9 => ?_⟩) ?_; rotate_left 1; obtain ⟨hc9, hf9⟩ := bcell hw9; go_simp; with_reducible rfl; go_frame) | (refine wpY_w undef (Or.inr ⟨by rfl, rfl⟩) ?_; go_frame) | (refine wpY_l undef (HBg.out) (Or.inr ⟨by rfl, rfl⟩) ?_; go_frame))
     refine wpY_es (fun K9 hK9 => ?_)
     go_simp
     have hB9 := (HBg.out).alloc (by have := HBg.out.size; first | omega | (simp; done) | (simp; omega)) (.cells #[.int .u8 0, .int .i64 0] 135)
     have HB9 := Lib.hid hB9
     have hk9 : Blk (wg.alloc (.cells #[.int .u8 0, .int .i64 0] 135)) wg.heap.size 135 #[.int .u8 0, .int .i64 0] := Blk.new wg 135 #[.int .u8 0, .int .i64 0]
     have HK9 := Lib.hid hk9
     clear hB9 hk9
     have hz9 := HB9.out.size
     refine hK9 _ _ (HB9.out) ?_
     clear hK9 K9
     try go_frame
     refine wpY_es (fun K9 hK9 => ?_)
     have u0 := ((HK9.out).cell 0).trans rfl
     have u1 := ((HK9.out).cell 1).trans rfl
     have f0 := (HK9.out).frozen 0
     have f1 := (HK9.out).frozen 1
     have hgl := (HK9.out).lt
     go_simp
     refine hK9 _ _ (by (repeat (first | exact Below.refl _ _ | exact HBa.out | exact HBg.out | exact HB9.out | (refine Below.drew ?_) | (refine Below.alloc ?_ (by first | omega | (simp; done) | (simp; omega)) _) | (refine Below.setCell ?_ (by first | omega | (simp; done) | (simp; omega)) _)))) ?_
     clear hK9 K9
     try go_frame
     repeat (first | (refine wpY_w ?_ (Or.inl ⟨by rfl, fun w9 => ?_⟩) ?_; rotate_left 1; go_simp; with_reducible rfl; go_frame) | (refine wpY_l ?_ (by (repeat (first | exact Below.refl _ _ | exact HBa.out | exact HBg.out | exact HB9.out | (refine Below.drew ?_) | (refine Below.alloc ?_ (by first | omega | (simp; done) | (simp; omega)) _) | (refine Below.setCell ?_ (by first | omega | (simp; done) | (simp; omega)) _)))) (Or.inl ⟨by rfl, fun w9 hw9 => ?_⟩) ?_; rotate_left 1; obtain ⟨hc9, hf9⟩ := bcell hw9; go_simp; with_reducible rfl; go_frame) | (refine wpY_w undef (Or.inr ⟨by rfl, rfl⟩) ?_; go_frame) | (refine wpY_l undef (by (repeat (first | exact Below.refl _ _ | exact HBa.out | exact HBg.out | exact HB9.out | (refine Below.drew ?_) | (refine Below.alloc ?_ (by first | omega | (simp; done) | (simp; omega)) _) | (refine Below.setCell ?_ (by first | omega | (simp; done) | (simp; omega)) _)))) (Or.inr ⟨by rfl, rfl⟩) ?_; go_frame))
     refine wpY_nil ?_
     simp only [OnlyN_normal]
     refine hKK _ _ ?_
     clear hKK KK
     go_wp2_with fail
     go_ret2
     exact ⟨rfl, by (repeat (first | exact Below.refl _ _ | exact HBa.out | exact HBg.out | exact HB9.out | (refine Below.drew ?_) | (refine Below.alloc ?_ (by first | omega | (simp; done) | (simp; omega)) _) | (refine Below.setCell ?_ (by first | omega | (simp; done) | (simp; omega)) _)))⟩
   · refine wpOp_cs rfl (fun K9 hK9 => ?_)
     go_simp
     have hB9 := (HBa.out).alloc (by have := HBa.out.size; first | omega | (simp; done) | (simp; omega)) (.cells #[.int .u8 0, .int .i64 0] 135)
     have HB9 := Lib.hid hB9
     have hk9 : Blk (wa.alloc (.cells #[.int .u8 0, .int .i64 0] 135)) wa.heap.size 135 #[.int .u8 0, .int .i64 0] := Blk.new wa 135 #[.int .u8 0, .int .i64 0]
     have HK9 := Lib.hid hk9
     clear hB9 hk9
     have hz9 := HB9.out.size
     refine hK9 _ _ (fun _ => HB9.out) ?_
     clear hK9 K9
     try go_frame
     try simp only [beside, List.filterMap_nil]
     refine wpY_es (fun K9 hK9 => ?_)
     go_simp
     refine (get_is_Page bp cc sn A m ⟨c, 0⟩ y _ (HS.out.new_ (HB9.out)) HO.out (by omega) HH.out HY.out).mono ?_
     rintro e wg ⟨rfl, hbg⟩
     have hkg := (HK9.out).new_ hbg
     have HKg := Lib.hid hkg
     clear hkg
     have HBg := Lib.hid ((HB9.out).trans (hbg.mono (by have := HB9.out.size; first | omega | (simp at this ⊢; done) | (simp at this ⊢; omega))))
     clear hbg
     have hzg := HBg.out.size
     refine hK9 _ _ (HBg.out) ?_
     clear hK9 K9
     try go_frame
     repeat (first | (refine wpY_w ?_ (Or.inl ⟨by rfl, fun w9 => ?_⟩) ?_; rotate_left 1; go_simp; with_reducible rfl; go_frame) | (refine wpY_l ?_ (HBg.out) (Or.inl ⟨by rfl, fun w9 hw9 => ?_⟩) ?_; rotate_left 1; obtain ⟨hc9, hf9⟩ := bcell hw9; go_simp; with_reducible rfl; go_frame) | (refine wpY_w undef (Or.inr ⟨by rfl, rfl⟩) ?_; go_frame) | (refine wpY_l undef (HBg.out) (Or.inr ⟨by rfl, rfl⟩) ?_; go_frame))
     refine wpY_es (fun K9 hK9 => ?_)
     have u0 := ((HKg.out).cell 0).trans rfl
     have u1 := ((HKg.out).cell 1).trans rfl
     have f0 := (HKg.out).frozen 0
     have f1 := (HKg.out).frozen 1
     have hgl := (HKg.out).lt
     go_simp
     refine hK9 _ _ (by (repeat (first | exact Below.refl _ _ | exact HBa.out | exact HB9.out | exact HBg.out | (refine Below.drew ?_) | (refine Below.alloc ?_ (by first | omega | (simp; done) | (simp; omega)) _) | (refine Below.setCell ?_ (by first | omega | (simp; done) | (simp; omega)) _)))) ?_
     clear hK9 K9
     try go_frame
     repeat (first | (refine wpY_w ?_ (Or.inl ⟨by rfl, fun w9 => ?_⟩) ?_; rotate_left 1; go_simp; with_reducible rfl; go_frame) | (refine wpY_l ?_ (by (repeat (first | exact Below.refl _ _ | exact HBa.out | exact HB9.out | exact HBg.out | (refine Below.drew ?_) | (refine Below.alloc ?_ (by first | omega | (simp; done) | (simp; omega)) _) | (refine Below.setCell ?_ (by first | omega | (simp; done) | (simp; omega)) _)))) (Or.inl ⟨by rfl, fun w9 hw9 => ?_⟩) ?_; rotate_left 1; obtain ⟨hc9, hf9⟩ := bcell hw9; go_simp; with_reducible rfl; go_frame) | (refine wpY_w undef (Or.inr ⟨by rfl, rfl⟩) ?_; go_frame) | (refine wpY_l undef (by (repeat (first | exact Below.refl _ _ | exact HBa.out | exact HB9.out | exact HBg.out | (refine Below.drew ?_) | (refine Below.alloc ?_ (by first | omega | (simp; done) | (simp; omega)) _) | (refine Below.setCell ?_ (by first | omega | (simp; done) | (simp; omega)) _)))) (Or.inr ⟨by rfl, rfl⟩) ?_; go_frame))
     refine wpY_nil ?_
     simp only [OnlyN_normal]
     refine hKK _ _ ?_
     clear hKK KK
     go_wp2_with fail
     go_ret2
     exact ⟨rfl, by (repeat (first | exact Below.refl _ _ | exact HBa.out | exact HB9.out | exact HBg.out | (refine Below.drew ?_) | (refine Below.alloc ?_ (by first | omega | (simp; done) | (simp; omega)) _) | (refine Below.setCell ?_ (by first | omega | (simp; done) | (simp; omega)) _)))⟩
 · refine wpOp_cs rfl (fun K9 hK9 => ?_)
   go_simp
   have hB9 := ((Below.refl w.heap.size w).drew).alloc (by first | omega | simp) (.cells #[.int .u8 0, .int .i64 0] 135)
   have HB9 := Lib.hid hB9
   have hk9 : Blk (w.drew.alloc (.cells #[.int .u8 0, .int .i64 0] 135)) w.heap.size 135 #[.int .u8 0, .int .i64 0] := Blk.new w.drew 135 #[.int .u8 0, .int .i64 0]
   have HK9 := Lib.hid hk9
   clear hB9 hk9
   have hz9 := HB9.out.size
   refine hK9 _ _ (fun _ => HB9.out) ?_
   clear hK9 K9
   try go_frame
   try simp only [beside, List.filterMap_nil]
   refine wpY_es (fun K9 hK9 => ?_)
   go_simp
   refine (at_is c _).mono ?_
   rintro e wa ⟨rfl, hba⟩
   have hka := (HK9.out).new_ hba
   have HKa := Lib.hid hka
   clear hka
   have HBa := Lib.hid ((HB9.out).trans (hba.mono (by have := HB9.out.size; first | omega | (simp at this ⊢; done) | (simp at this ⊢; omega))))
   clear hba
   have hza := HBa.out.size
   refine hK9 _ _ (HBa.out) ?_
   clear hK9 K9
   try go_frame
   refine wpY_es (fun K9 hK9 => ?_)
   go_simp
   refine (get_is_Page bp cc sn A m ⟨c, 0⟩ y _ (HS.out.new_ (HBa.out)) HO.out (by omega) HH.out HY.out).mono ?_
   rintro e wg ⟨rfl, hbg⟩
   have hkg := (HKa.out).new_ hbg
   have HKg := Lib.hid hkg
   clear hkg
   have HBg := Lib.hid ((HBa.out).trans (hbg.mono (by have := HBa.out.size; first | omega | (simp; done) | (simp; omega))))
   clear hbg
   have hzg := HBg.out.size
   refine hK9 _ _ (HBg.out) ?_
   clear hK9 K9
   try go_frame
   repeat (first | (refine wpY_w ?_ (Or.inl ⟨by rfl, fun w9 => ?_⟩) ?_; rotate_left 1; go_simp; with_reducible rfl; go_frame) | (refine wpY_l ?_ (HBg.out) (Or.inl ⟨by rfl, fun w9 hw9 => ?_⟩) ?_; rotate_left 1; obtain ⟨hc9, hf9⟩ := bcell hw9; go_simp; with_reducible rfl; go_frame) | (refine wpY_w undef (Or.inr ⟨by rfl, rfl⟩) ?_; go_frame) | (refine wpY_l undef (HBg.out) (Or.inr ⟨by rfl, rfl⟩) ?_; go_frame))
   refine wpY_es (fun K9 hK9 => ?_)
   have u0 := ((HKg.out).cell 0).trans rfl
   have u1 := ((HKg.out).cell 1).trans rfl
   have f0 := (HKg.out).frozen 0
   have f1 := (HKg.out).frozen 1
   have hgl := (HKg.out).lt
   go_simp
   refine hK9 _ _ (by (repeat (first | exact Below.refl _ _ | exact HB9.out | exact HBa.out | exact HBg.out | (refine Below.drew ?_) | (refine Below.alloc ?_ (by first | omega | (simp; done) | (simp; omega)) _) | (refine Below.setCell ?_ (by first | omega | (simp; done) | (simp; omega)) _)))) ?_
   clear hK9 K9
   try go_frame
   repeat (first | (refine wpY_w ?_ (Or.inl ⟨by rfl, fun w9 => ?_⟩) ?_; rotate_left 1; go_simp; with_reducible rfl; go_frame) | (refine wpY_l ?_ (by (repeat (first | exact Below.refl _ _ | exact HB9.out | exact HBa.out | exact HBg.out | (refine Below.drew ?_) | (refine Below.alloc ?_ (by first | omega | (simp; done) | (simp; omega)) _) | (refine Below.setCell ?_ (by first | omega | (simp; done) | (simp; omega)) _)))) (Or.inl ⟨by rfl, fun w9 hw9 => ?_⟩) ?_; rotate_left 1; obtain ⟨hc9, hf9⟩ := bcell hw9; go_simp; with_reducible rfl; go_frame) | (refine wpY_w undef (Or.inr ⟨by rfl, rfl⟩) ?_; go_frame) | (refine wpY_l undef (by (repeat (first | exact Below.refl _ _ | exact HB9.out | exact HBa.out | exact HBg.out | (refine Below.drew ?_) | (refine Below.alloc ?_ (by first | omega | (simp; done) | (simp; omega)) _) | (refine Below.setCell ?_ (by first | omega | (simp; done) | (simp; omega)) _)))) (Or.inr ⟨by rfl, rfl⟩) ?_; go_frame))
   refine wpY_nil ?_
   simp only [OnlyN_normal]
   refine hKK _ _ ?_
   clear hKK KK
   go_wp2_with fail
   go_ret2
   exact ⟨rfl, by (repeat (first | exact Below.refl _ _ | exact HB9.out | exact HBa.out | exact HBg.out | (refine Below.drew ?_) | (refine Below.alloc ?_ (by first | omega | (simp; done) | (simp; omega)) _) | (refine Below.setCell ?_ (by first | omega | (simp; done) | (simp; omega)) _)))⟩
end Go.Proofs.YtpndmjabjjbefaaGreat
namespace Go.Proofs.YtpndmjabjjbefaaGreat
open Go.RowKit
def KB (w w' : World) : Prop := ∀ (g : Nat) (t : TypeId) (cs : Array Value), t ≠ 131 → t ≠ 23 → t ≠ 161 → t ≠ 135 → Blk w g t cs → Blk w' g t cs
theorem KB.refl (w : World) : KB w w := fun _ _ _ _ _ _ _ h => h
theorem KB.trans {a b c : World} (h : KB a b) (k : KB b c) : KB a c := fun g t cs h1 h2 h3 h4 h5 => k g t cs h1 h2 h3 h4 (h g t cs h1 h2 h3 h4 h5)
theorem KB.of_below {w w' : World} (h : Below w.heap.size w w') : KB w w' := fun _ _ _ _ _ _ _ hb => hb.new_ h
theorem blk_far {α : Type} {tSet tE size : Nat} {cells : α → List Value} {w : World} {b : Nat} {sn : Bool} {A : Option Addr} {c : Nat} {l : List α} {g : Nat} {t : TypeId} {cs : Array Value}
 (hS : SetAt tSet tE size cells w b sn A c l) (hB : Blk w g t cs) (h1 : t ≠ tSet) (h2 : t ≠ tE) : ¬ SetMod b sn A g := by
 rintro (rfl | ⟨_, a, ha, rfl⟩)
 · exact hB.ne_ hS.blk h1 rfl
 · have := own_blk_ne hS.row hB (Ne.symm h2)
   subst ha
   exact this (by simp [Value.ownBlock])
theorem KB.of_sym {w w' : World} {b : Nat} {sn : Bool} {A : Option Addr} {c : Nat} {l : List Sym} (hS : SymSet w b sn A c l) (hF : Fr (SetMod b sn A) w w') : KB w w' := fun _ _ _ h1 h2 _ _ hB => hB.fr hF (blk_far hS hB h1 h2)
theorem KB.of_page {w w' : World} {b : Nat} {sn : Bool} {A : Option Addr} {c : Nat} {l : List Page} (hS : PageSet w b sn A c l) (hF : Fr (SetMod b sn A) w w') : KB w w' := fun _ _ _ _ _ h3 h4 hB => hB.fr hF (blk_far hS hB h3 h4)
theorem SetAt.other {α β : Type} {tSet tE size tSet2 tE2 size2 : Nat} {cells : α → List Value} {cells2 : β → List Value} {w w' : World} {b b2 : Nat} {sn sn2 : Bool} {A A2 : Option Addr} {c c2 : Nat} {l : List α} {l2 : List β}
 (h : SetAt tSet tE size cells w b sn A c l) (h2 : SetAt tSet2 tE2 size2 cells2 w b2 sn2 A2 c2 l2) (n1 : tSet2 ≠ tSet) (n2 : tSet2 ≠ tE) (n3 : tE2 ≠ tSet) (n4 : tE2 ≠ tE) (hF : Fr (SetMod b sn A) w w') : SetAt tSet2 tE2 size2 cells2 w' b2 sn2 A2 c2 l2 := by
 refine h2.fr hF (blk_far h h2.blk n1 n2) ?_
 intro a ha
 rcases ownsRow_form h2.row with ⟨hv, _⟩ | ⟨g, cap, hv, _, _, hr, _⟩
 · injection hv with hv; rw [ha] at hv; cases hv
 · injection hv with hv
   rw [ha] at hv
   injection hv with hv
   subst hv
   obtain ⟨cur, hcur, _⟩ := hr
   exact blk_far h (show Blk w g tE2 cur from hcur) n3 n4
theorem Sets.other {α β : Type} {tSet tE size tSet2 tE2 size2 : Nat} {cells : α → List Value} {cells2 : β → List Value} {cmp2 : β → β → Int} {D : Nat → Prop} {w w' : World} {b : Nat} {sn : Bool} {A : Option Addr} {c : Nat} {l : List α} {S2 : Nat → Option (List β)} {σ2 : Nat → St}
 (H2 : Sets tSet2 tE2 size2 cells2 cmp2 D w S2 σ2) (h : SetAt tSet tE size cells w b sn A c l) (n1 : tSet2 ≠ tSet) (n2 : tSet2 ≠ tE) (n3 : tE2 ≠ tSet) (n4 : tE2 ≠ tE) (hF : Fr (SetMod b sn A) w w') : Sets tSet2 tE2 size2 cells2 cmp2 D w' S2 σ2 :=
 ⟨fun b' l' hb => h.other (H2.at_ b' l' hb) n1 n2 n3 n4 hF, H2.srt, H2.out, H2.apart, fun k hk => Nat.lt_of_lt_of_le (H2.low k hk) hF.size⟩
structure Tabs (D : Nat → Prop) (w : World) (S : Nat → Option (List Sym)) (σ : Nat → St) (S2 : Nat → Option (List Page)) (σ2 : Nat → St) : Prop where
 syms : SymSets D w S σ
 pages : PageSets D w S2 σ2
section
variable {D : Nat → Prop} {w w' : World} {S : Nat → Option (List Sym)} {σ : Nat → St} {S2 : Nat → Option (List Page)} {σ2 : Nat → St}
theorem Tabs.below (h : Tabs D w S σ S2 σ2) (hb : Below w.heap.size w w') : Tabs D w' S σ S2 σ2 := ⟨h.syms.below hb, h.pages.below hb⟩
theorem Tabs.protect (h : Tabs D w S σ S2 σ2) (hb : Below w.heap.size w w') : Tabs (fun k => D k ∨ (w.heap.size ≤ k ∧ k < w'.heap.size)) w' S σ S2 σ2 := ⟨h.syms.protect hb, h.pages.protect hb⟩
theorem Tabs.start (w : World) : Tabs (· < w.heap.size) w (fun _ => none) (fun _ => ⟨false, none, 0⟩) (fun _ => none) (fun _ => ⟨false, none, 0⟩) := ⟨Sets.start _ _ _ _ _ w, Sets.start _ _ _ _ _ w⟩
def Off {α : Type} (k : Nat) (S : Nat → Option (List α)) (σ : Nat → St) : Prop := ∀ b l, S b = some l → b ≠ k ∧ AIn (σ b).A (· ≠ k)
theorem Off.new_ {α : Type} {tSet tE size : Nat} {cells : α → List Value} {cmp : α → α → Int} {S : Nat → Option (List α)} (h : Sets tSet tE size cells cmp D w S σ) {k : Nat} (hk : w.heap.size ≤ k) : Off k S σ :=
 fun b l hb => ⟨by have := h.lt hb; omega, fun a ha => by have := (h.at_ b l hb).row_lt a ha; omega⟩
theorem Off.moved {α : Type} {S : Nat → Option (List α)} {k b : Nat} {l l' : List α} {st : St} (h : Off k S σ) (hb : S b = some l) (hM : Moved w (σ b).sn (σ b).A st.sn st.A) (hk : k < w.heap.size) : Off k (upd S b (some l')) (upd σ b st) := by
 intro b' m hm
 by_cases e : b' = b
 · subst e
   refine ⟨(h b' l hb).1, ?_⟩
   rw [upd_same]
   rcases hM with ⟨_, hA⟩ | ⟨_, g, hg, hA⟩
   · rw [hA]; exact (h b' l hb).2
   · rw [hA]; intro a ha; cases ha; dsimp only; omega
 · rw [upd_ne _ _ e] at hm ⊢
   exact h b' m hm
def SymStep (D : Nat → Prop) (w : World) (S : Nat → Option (List Sym)) (σ : Nat → St) (S2 : Nat → Option (List Page)) (σ2 : Nat → St) (b : Nat) (l : List Sym) (w' : World) : Prop :=
 (∃ σ', Tabs D w' (upd S b (some l)) σ' S2 σ2 ∧ ∀ k, k < w.heap.size → Off k S σ → Off k (upd S b (some l)) σ') ∧ KB w w' ∧ Fr (fun k => ¬ D k) w w' ∧ Fr (SetMod b (σ b).sn (σ b).A) w w'
def PageStep (D : Nat → Prop) (w : World) (S : Nat → Option (List Sym)) (σ : Nat → St) (S2 : Nat → Option (List Page)) (σ2 : Nat → St) (b : Nat) (m : List Page) (w' : World) : Prop :=
 (∃ σ2', Tabs D w' S σ (upd S2 b (some m)) σ2' ∧ ∀ k, k < w.heap.size → Off k S2 σ2 → Off k (upd S2 b (some m)) σ2') ∧ KB w w' ∧ Fr (fun k => ¬ D k) w w' ∧ Fr (SetMod b (σ2 b).sn (σ2 b).A) w w'
theorem Tabs.sym {b : Nat} {l l' : List Sym} {st : St} (h : Tabs D w S σ S2 σ2) (hb : S b = some l) (h1 : SymSet w' b st.sn st.A st.c l') (hs : Srt cmpSym l') (hF : Fr (SetMod b (σ b).sn (σ b).A) w w') (hM : Moved w (σ b).sn (σ b).A st.sn st.A) : SymStep D w S σ S2 σ2 b l' w' :=
 ⟨⟨upd σ b st, ⟨h.syms.moved (by decide) hb h1 hs hF hM, h.pages.other (h.syms.at_ b l hb) (by decide) (by decide) (by decide) (by decide) hF⟩, fun _ hk ho => ho.moved hb hM hk⟩, KB.of_sym (h.syms.at_ b l hb) hF, h.syms.mod hb hF, hF⟩
theorem Tabs.page {b : Nat} {m m' : List Page} {st : St} (h : Tabs D w S σ S2 σ2) (hb : S2 b = some m) (h1 : PageSet w' b st.sn st.A st.c m') (hs : Srt cmpPage m') (hF : Fr (SetMod b (σ2 b).sn (σ2 b).A) w w') (hM : Moved w (σ2 b).sn (σ2 b).A st.sn st.A) : PageStep D w S σ S2 σ2 b m' w' :=
 ⟨⟨upd σ2 b st, ⟨h.syms.other (h.pages.at_ b m hb) (by decide) (by decide) (by decide) (by decide) hF, h.pages.moved (by decide) hb h1 hs hF hM⟩, fun _ hk ho => ho.moved hb hM hk⟩, KB.of_page (h.pages.at_ b m hb) hF, h.pages.mod hb hF, hF⟩
theorem tPut_Sym {b : Nat} {l : List Sym} (x : Sym) (h : Tabs D w S σ S2 σ2) (hb : S b = some l) (hl : (l.length : Int) ≤ 100000000) :
 Calls Tryz.prog 73 #[.pointer (some ⟨b, 0, none⟩), .agg #[.int .i64 x.kind, .string x.text, .int .i64 x.n]] w fun e w' => e = .returned (.bool (!has cmpSym l x)) ∧ SymStep D w S σ S2 σ2 b (put cmpSym l x) w' := by
 refine (put_Sym b _ _ _ l x w (h.syms.at_ b l hb) (h.syms.srt b l hb) hl).mono ?_
 rintro e w' ⟨he, sn', A', c', h1, hF, hM⟩
 exact ⟨he, h.sym (st := ⟨sn', A', c'⟩) hb h1 ((h.syms.srt b l hb).put tc_sym x) hF hM⟩
theorem tPut_Page {b : Nat} {m : List Page} (x : Page) (h : Tabs D w S σ S2 σ2) (hb : S2 b = some m) (hl : (m.length : Int) ≤ 100000000) :
 Calls Tryz.prog 102 #[.pointer (some ⟨b, 0, none⟩), .agg #[.int .u8 x.kk, .int .i64 x.v]] w fun e w' => e = .returned (.bool (!has cmpPage m x)) ∧ PageStep D w S σ S2 σ2 b (put cmpPage m x) w' := by
 refine (put_Page b _ _ _ m x w (h.pages.at_ b m hb) (h.pages.srt b m hb) hl).mono ?_
 rintro e w' ⟨he, sn', A', c', h1, hF, hM⟩
 exact ⟨he, h.page (st := ⟨sn', A', c'⟩) hb h1 ((h.pages.srt b m hb).put tc_page x) hF hM⟩
theorem tDrop_Page {b : Nat} {m : List Page} (x : Page) (h : Tabs D w S σ S2 σ2) (hb : S2 b = some m) (hl : (m.length : Int) ≤ 100000000) :
 Calls Tryz.prog 128 #[.pointer (some ⟨b, 0, none⟩), .agg #[.int .u8 x.kk, .int .i64 x.v]] w fun e w' => e = .returned (.bool (has cmpPage m x)) ∧ PageStep D w S σ S2 σ2 b (drop cmpPage m x) w' := by
 refine (drop_Page b _ _ _ m x w (h.pages.at_ b m hb) (h.pages.srt b m hb) hl).mono ?_
 rintro e w' ⟨he, sn', A', c', h1, hF, hM⟩
 exact ⟨he, h.page (st := ⟨sn', A', c'⟩) hb h1 ((h.pages.srt b m hb).drop x) hF hM⟩
theorem Tabs.weaken {D' : Nat → Prop} (h : Tabs D w S σ S2 σ2) (hD : ∀ k, D' k → D k) : Tabs D' w S σ S2 σ2 := ⟨h.syms.weaken hD, h.pages.weaken hD⟩
theorem Sets.off {α : Type} {tSet tE size : Nat} {cells : α → List Value} {cmp : α → α → Int} {S : Nat → Option (List α)} (h : Sets tSet tE size cells cmp D w S σ) {k : Nat} (ho : Off k S σ) (hF : Fr (· = k) w w') : Sets tSet tE size cells cmp D w' S σ :=
 ⟨fun b l hb => (h.at_ b l hb).fr hF (ho b l hb).1 (ho b l hb).2, h.srt, h.out, h.apart, fun k hk => Nat.lt_of_lt_of_le (h.low k hk) hF.size⟩
theorem Tabs.off {k : Nat} (h : Tabs D w S σ S2 σ2) (ho : Off k S σ) (ho2 : Off k S2 σ2) (hF : Fr (· = k) w w') : Tabs D w' S σ S2 σ2 := ⟨h.syms.off ho hF, h.pages.off ho2 hF⟩
end
end Go.Proofs.YtpndmjabjjbefaaGreat
namespace Go.Proofs.YtpndmjabjjbefaaGreat
open Go.RowKit
def MapPut (D : Nat → Prop) (w : World) (S : Nat → Option (List Sym)) (σ : Nat → St) (S2 : Nat → Option (List Page)) (σ2 : Nat → St) (bp : Nat) (m : List Page) (w' : World) : Prop :=
 (∃ σ2', Tabs D w' S σ (upd S2 bp (some m)) σ2' ∧ ∀ k, k < w.heap.size → Off k S2 σ2 → Off k (upd S2 bp (some m)) σ2') ∧ KB w w' ∧ Fr (fun k => ¬ D k) w w'
set_option maxRecDepth 100000 in
set_option maxHeartbeats 4000000 in
theorem mapput_no {D : Nat → Prop} {w : World} {S : Nat → Option (List Sym)} {σ : Nat → St} {S2 : Nat → Option (List Page)} {σ2 : Nat → St} (bm bp : Nat) (m : List Page) (c : UInt8) (v : Int) (hT : Tabs D w S σ S2 σ2) (hb : S2 bp = some m) (hM : Blk w bm 137 #[.pointer (some ⟨bp, 0, none⟩)]) (hl : (m.length : Int) ≤ 1000000) (hh : has cmpPage m ⟨c, 0⟩ = false) :
 Calls Tryz.prog 105 #[.pointer (some ⟨bm, 0, none⟩), .int .u8 (c.toNat : Int), .int .i64 v] w fun e w' => e = .returned (.bool true) ∧ MapPut D w S σ S2 σ2 bp (mput m ⟨c, v⟩) w' := by
 have hS := hT.pages.at_ bp m hb
 have hs := hT.pages.srt bp m hb
 obtain ⟨sn, hsn⟩ : ∃ sn, sn = (σ2 bp).sn := ⟨_, rfl⟩
 obtain ⟨A, hA⟩ : ∃ A, A = (σ2 bp).A := ⟨_, rfl⟩
 obtain ⟨cc, hcc⟩ : ∃ cc, cc = (σ2 bp).c := ⟨_, rfl⟩
 rw [← hsn, ← hA, ← hcc] at hS
 clear hsn hA hcc
 have s0 := (hM.cell 0).trans rfl
 have hml := hM.lt
 have HS := Lib.hid hS
 have HO := Lib.hid hs
 have HM := Lib.hid hM
 have HH := Lib.hid hh
 have HT := Lib.hid hT
 have HBB := Lib.hid hb
 clear hS hs hM hh hT hb
 go_enter Tryz.func105, Tryz.ntmps105
 go_upto_region 3 with (fail)
 go_cut [8] from 11 (fun b wc => b = .bool false ∧ Below w.heap.size w wc)
 case first =>
  refine wp_region_Pl (fun w9 => Below w.heap.size w w9) [0, 1, 2, 3, 4, 7, 8, 9, 12] [3] (.fork [(0, 0), (1, 0), (2, 0), (3, 1), (4, 0)] 5 (.fork [] 6 (.fin [(7, 0), (8, 0), (9, 0), (10, 2), (11, 2), (12, 0)]) 10 (.fin [(6, 2), (7, 0), (8, 0), (9, 0), (11, 2), (12, 0)])) 10 (.fin [(5, 2), (6, 2), (7, 0), (8, 0), (9, 0), (11, 2), (12, 0)])) (by kernel_rfl) (by kernel_rfl) (by kernel_rfl) (fun KK hKK => ?_)
  simp only [wpPl, beside, List.filterMap_cons, List.filterMap_nil, List.getElem?_toArray, List.getElem?_cons_zero, List.getElem?_cons_succ, Option.map_some]
  repeat (first | (refine wpY_w ?_ (Or.inl ⟨by rfl, fun w9 => ?_⟩) ?_; rotate_left 1; go_simp; with_reducible rfl; go_frame) | (refine wpY_l ?_ ((Below.refl _ _).drew) (Or.inl ⟨by rfl, fun w9 hw9 => ?_⟩) ?_; rotate_left 1; obtain ⟨hc9, hf9⟩ := bcell hw9; go_simp; with_reducible rfl; go_frame) | (refine wpY_w undef (Or.inr ⟨by rfl, rfl⟩) ?_; go_frame) | (refine wpY_l undef ((Below.refl _ _).drew) (Or.inr ⟨by rfl, rfl⟩) ?_; go_frame))
  refine wpY_nil ⟨?_, ?_⟩
  · refine wpOp_cs rfl (fun K9 hK9 => ?_)
    go_simp
    refine (at_is c _).mono ?_
    rintro e wa ⟨rfl, hba⟩
    have HBa := Lib.hid (((Below.refl w.heap.size w).drew).trans (hba.mono (by first | omega | simp)))
    clear hba
    have hza := HBa.out.size
    refine hK9 _ _ (fun _ => HBa.out) ?_
    clear hK9 K9
    try go_frame
    try simp only [beside, List.filterMap_nil]
    refine wpY_nil ⟨?_, ?_⟩
    · refine wpOp_cs rfl (fun K9 hK9 => ?_)
      go_simp
      refine (get_no_Page bp cc sn A m ⟨c, 0⟩ _ (HS.out.new_ (HBa.out)) HO.out (by omega) HH.out).mono ?_
      rintro e wg ⟨rfl, hbg⟩
      have HBg := Lib.hid ((HBa.out).trans (hbg.mono (by have := HBa.out.size; first | omega | (simp; done) | (simp; omega))))
      clear hbg
      have hzg := HBg.out.size
      refine hK9 _ _ (fun _ => HBg.out) ?_
      clear hK9 K9
      try go_frame
      try simp only [beside, List.filterMap_nil]
      repeat (first | (refine wpY_w ?_ (Or.inl ⟨by rfl, fun w9 => ?_⟩) ?_; rotate_left 1; go_simp; with_reducible rfl; go_frame) | (refine wpY_l ?_ (HBg.out) (Or.inl ⟨by rfl, fun w9 hw9 => ?_⟩) ?_; rotate_left 1; obtain ⟨hc9, hf9⟩ := bcell hw9; go_simp; with_reducible rfl; go_frame) | (refine wpY_w undef (Or.inr ⟨by rfl, rfl⟩) ?_; go_frame) | (refine wpY_l undef (HBg.out) (Or.inr ⟨by rfl, rfl⟩) ?_; go_frame))
      refine wpY_es (fun K9 hK9 => ?_)
      go_simp
      have hB9 := (HBg.out).alloc (by have := HBg.out.size; first | omega | (simp; done) | (simp; omega)) (.cells #[.int .u8 0, .int .i64 0] 135)
      have HB9 := Lib.hid hB9
      have hk9 : Blk (wg.alloc (.cells #[.int .u8 0, .int .i64 0] 135)) wg.heap.size 135 #[.int .u8 0, .int .i64 0] := Blk.new wg 135 #[.int .u8 0, .int .i64 0]
      have HK9 := Lib.hid hk9
      clear hB9 hk9
      have hz9 := HB9.out.size
      refine hK9 _ _ (HB9.out) ?_
      clear hK9 K9
      try go_frame
      refine wpY_es (fun K9 hK9 => ?_)
      have u0 := ((HK9.out).cell 0).trans rfl
      have u1 := ((HK9.out).cell 1).trans rfl
      have f0 := (HK9.out).frozen 0
      have f1 := (HK9.out).frozen 1
      have hgl := (HK9.out).lt
      go_simp
      refine hK9 _ _ (by (repeat (first | exact Below.refl _ _ | exact HBa.out | exact HBg.out | exact HB9.out | (refine Below.drew ?_) | (refine Below.alloc ?_ (by first | omega | (simp; done) | (simp; omega)) _) | (refine Below.setCell ?_ (by first | omega | (simp; done) | (simp; omega)) _)))) ?_
      clear hK9 K9
      try go_frame
      repeat (first | (refine wpY_w ?_ (Or.inl ⟨by rfl, fun w9 => ?_⟩) ?_; rotate_left 1; go_simp; with_reducible rfl; go_frame) | (refine wpY_l ?_ (by (repeat (first | exact Below.refl _ _ | exact HBa.out | exact HBg.out | exact HB9.out | (refine Below.drew ?_) | (refine Below.alloc ?_ (by first | omega | (simp; done) | (simp; omega)) _) | (refine Below.setCell ?_ (by first | omega | (simp; done) | (simp; omega)) _)))) (Or.inl ⟨by rfl, fun w9 hw9 => ?_⟩) ?_; rotate_left 1; obtain ⟨hc9, hf9⟩ := bcell hw9; go_simp; with_reducible rfl; go_frame) | (refine wpY_w undef (Or.inr ⟨by rfl, rfl⟩) ?_; go_frame) | (refine wpY_l undef (by (repeat (first | exact Below.refl _ _ | exact HBa.out | exact HBg.out | exact HB9.out | (refine Below.drew ?_) | (refine Below.alloc ?_ (by first | omega | (simp; done) | (simp; omega)) _) | (refine Below.setCell ?_ (by first | omega | (simp; done) | (simp; omega)) _)))) (Or.inr ⟨by rfl, rfl⟩) ?_; go_frame))
      refine wpY_nil ?_
      simp only [OnlyN_normal]
      refine hKK _ _ ?_
      clear hKK KK
      go_wp2_with fail
      go_meet
      case rel => exact ⟨rfl, by (repeat (first | exact Below.refl _ _ | exact HBa.out | exact HBg.out | exact HB9.out | (refine Below.drew ?_) | (refine Below.alloc ?_ (by first | omega | (simp; done) | (simp; omega)) _) | (refine Below.setCell ?_ (by first | omega | (simp; done) | (simp; omega)) _)))⟩
    · refine wpOp_cs rfl (fun K9 hK9 => ?_)
      go_simp
      have hB9 := (HBa.out).alloc (by have := HBa.out.size; first | omega | (simp; done) | (simp; omega)) (.cells #[.int .u8 0, .int .i64 0] 135)
      have HB9 := Lib.hid hB9
      have hk9 : Blk (wa.alloc (.cells #[.int .u8 0, .int .i64 0] 135)) wa.heap.size 135 #[.int .u8 0, .int .i64 0] := Blk.new wa 135 #[.int .u8 0, .int .i64 0]
      have HK9 := Lib.hid hk9
      clear hB9 hk9
      have hz9 := HB9.out.size
      refine hK9 _ _ (fun _ => HB9.out) ?_
      clear hK9 K9
      try go_frame
      try simp only [beside, List.filterMap_nil]
      refine wpY_es (fun K9 hK9 => ?_)
      go_simp
      refine (get_no_Page bp cc sn A m ⟨c, 0⟩ _ (HS.out.new_ (HB9.out)) HO.out (by omega) HH.out).mono ?_
      rintro e wg ⟨rfl, hbg⟩
      have hkg := (HK9.out).new_ hbg
      have HKg := Lib.hid hkg
      clear hkg
      have HBg := Lib.hid ((HB9.out).trans (hbg.mono (by have := HB9.out.size; first | omega | (simp at this ⊢; done) | (simp at this ⊢; omega))))
      clear hbg
      have hzg := HBg.out.size
      refine hK9 _ _ (HBg.out) ?_
      clear hK9 K9
      try go_frame
      repeat (first | (refine wpY_w ?_ (Or.inl ⟨by rfl, fun w9 => ?_⟩) ?_; rotate_left 1; go_simp; with_reducible rfl; go_frame) | (refine wpY_l ?_ (HBg.out) (Or.inl ⟨by rfl, fun w9 hw9 => ?_⟩) ?_; rotate_left 1; obtain ⟨hc9, hf9⟩ := bcell hw9; go_simp; with_reducible rfl; go_frame) | (refine wpY_w undef (Or.inr ⟨by rfl, rfl⟩) ?_; go_frame) | (refine wpY_l undef (HBg.out) (Or.inr ⟨by rfl, rfl⟩) ?_; go_frame))
      refine wpY_es (fun K9 hK9 => ?_)
      have u0 := ((HKg.out).cell 0).trans rfl
      have u1 := ((HKg.out).cell 1).trans rfl
      have f0 := (HKg.out).frozen 0
      have f1 := (HKg.out).frozen 1
      have hgl := (HKg.out).lt
      go_simp
      refine hK9 _ _ (by (repeat (first | exact Below.refl _ _ | exact HBa.out | exact HB9.out | exact HBg.out | (refine Below.drew ?_) | (refine Below.alloc ?_ (by first | omega | (simp; done) | (simp; omega)) _) | (refine Below.setCell ?_ (by first | omega | (simp; done) | (simp; omega)) _)))) ?_
      clear hK9 K9
      try go_frame
      repeat (first | (refine wpY_w ?_ (Or.inl ⟨by rfl, fun w9 => ?_⟩) ?_; rotate_left 1; go_simp; with_reducible rfl; go_frame) | (refine wpY_l ?_ (by (repeat (first | exact Below.refl _ _ | exact HBa.out | exact HB9.out | exact HBg.out | (refine Below.drew ?_) | (refine Below.alloc ?_ (by first | omega | (simp; done) | (simp; omega)) _) | (refine Below.setCell ?_ (by first | omega | (simp; done) | (simp; omega)) _)))) (Or.inl ⟨by rfl, fun w9 hw9 => ?_⟩) ?_; rotate_left 1; obtain ⟨hc9, hf9⟩ := bcell hw9; go_simp; with_reducible rfl; go_frame) | (refine wpY_w undef (Or.inr ⟨by rfl, rfl⟩) ?_; go_frame) | (refine wpY_l undef (by (repeat (first | exact Below.refl _ _ | exact HBa.out | exact HB9.out | exact HBg.out | (refine Below.drew ?_) | (refine Below.alloc ?_ (by first | omega | (simp; done) | (simp; omega)) _) | (refine Below.setCell ?_ (by first | omega | (simp; done) | (simp; omega)) _)))) (Or.inr ⟨by rfl, rfl⟩) ?_; go_frame))
      refine wpY_nil ?_
      simp only [OnlyN_normal]
      refine hKK _ _ ?_
      clear hKK KK
      go_wp2_with fail
      go_meet
      case rel => exact ⟨rfl, by (repeat (first | exact Below.refl _ _ | exact HBa.out | exact HB9.out | exact HBg.out | (refine Below.drew ?_) | (refine Below.alloc ?_ (by first | omega | (simp; done) | (simp; omega)) _) | (refine Below.setCell ?_ (by first | omega | (simp; done) | (simp; omega)) _)))⟩
  · refine wpOp_cs rfl (fun K9 hK9 => ?_)
    go_simp
    have hB9 := ((Below.refl w.heap.size w).drew).alloc (by first | omega | simp) (.cells #[.int .u8 0, .int .i64 0] 135)
    have HB9 := Lib.hid hB9
    have hk9 : Blk (w.drew.alloc (.cells #[.int .u8 0, .int .i64 0] 135)) w.heap.size 135 #[.int .u8 0, .int .i64 0] := Blk.new w.drew 135 #[.int .u8 0, .int .i64 0]
    have HK9 := Lib.hid hk9
    clear hB9 hk9
    have hz9 := HB9.out.size
    refine hK9 _ _ (fun _ => HB9.out) ?_
    clear hK9 K9
    try go_frame
    try simp only [beside, List.filterMap_nil]
    refine wpY_es (fun K9 hK9 => ?_)
    go_simp
    refine (at_is c _).mono ?_
    rintro e wa ⟨rfl, hba⟩
    have hka := (HK9.out).new_ hba
    have HKa := Lib.hid hka
    clear hka
    have HBa := Lib.hid ((HB9.out).trans (hba.mono (by have := HB9.out.size; first | omega | (simp at this ⊢; done) | (simp at this ⊢; omega))))
    clear hba
    have hza := HBa.out.size
    refine hK9 _ _ (HBa.out) ?_
    clear hK9 K9
    try go_frame
    refine wpY_es (fun K9 hK9 => ?_)
    go_simp
    refine (get_no_Page bp cc sn A m ⟨c, 0⟩ _ (HS.out.new_ (HBa.out)) HO.out (by omega) HH.out).mono ?_
    rintro e wg ⟨rfl, hbg⟩
    have hkg := (HKa.out).new_ hbg
    have HKg := Lib.hid hkg
    clear hkg
    have HBg := Lib.hid ((HBa.out).trans (hbg.mono (by have := HBa.out.size; first | omega | (simp; done) | (simp; omega))))
    clear hbg
    have hzg := HBg.out.size
    refine hK9 _ _ (HBg.out) ?_
    clear hK9 K9
    try go_frame
    repeat (first | (refine wpY_w ?_ (Or.inl ⟨by rfl, fun w9 => ?_⟩) ?_; rotate_left 1; go_simp; with_reducible rfl; go_frame) | (refine wpY_l ?_ (HBg.out) (Or.inl ⟨by rfl, fun w9 hw9 => ?_⟩) ?_; rotate_left 1; obtain ⟨hc9, hf9⟩ := bcell hw9; go_simp; with_reducible rfl; go_frame) | (refine wpY_w undef (Or.inr ⟨by rfl, rfl⟩) ?_; go_frame) | (refine wpY_l undef (HBg.out) (Or.inr ⟨by rfl, rfl⟩) ?_; go_frame))
    refine wpY_es (fun K9 hK9 => ?_)
    have u0 := ((HKg.out).cell 0).trans rfl
    have u1 := ((HKg.out).cell 1).trans rfl
    have f0 := (HKg.out).frozen 0
    have f1 := (HKg.out).frozen 1
    have hgl := (HKg.out).lt
    go_simp
    refine hK9 _ _ (by (repeat (first | exact Below.refl _ _ | exact HB9.out | exact HBa.out | exact HBg.out | (refine Below.drew ?_) | (refine Below.alloc ?_ (by first | omega | (simp; done) | (simp; omega)) _) | (refine Below.setCell ?_ (by first | omega | (simp; done) | (simp; omega)) _)))) ?_
    clear hK9 K9
    try go_frame
    repeat (first | (refine wpY_w ?_ (Or.inl ⟨by rfl, fun w9 => ?_⟩) ?_; rotate_left 1; go_simp; with_reducible rfl; go_frame) | (refine wpY_l ?_ (by (repeat (first | exact Below.refl _ _ | exact HB9.out | exact HBa.out | exact HBg.out | (refine Below.drew ?_) | (refine Below.alloc ?_ (by first | omega | (simp; done) | (simp; omega)) _) | (refine Below.setCell ?_ (by first | omega | (simp; done) | (simp; omega)) _)))) (Or.inl ⟨by rfl, fun w9 hw9 => ?_⟩) ?_; rotate_left 1; obtain ⟨hc9, hf9⟩ := bcell hw9; go_simp; with_reducible rfl; go_frame) | (refine wpY_w undef (Or.inr ⟨by rfl, rfl⟩) ?_; go_frame) | (refine wpY_l undef (by (repeat (first | exact Below.refl _ _ | exact HB9.out | exact HBa.out | exact HBg.out | (refine Below.drew ?_) | (refine Below.alloc ?_ (by first | omega | (simp; done) | (simp; omega)) _) | (refine Below.setCell ?_ (by first | omega | (simp; done) | (simp; omega)) _)))) (Or.inr ⟨by rfl, rfl⟩) ?_; go_frame))
    refine wpY_nil ?_
    simp only [OnlyN_normal]
    refine hKK _ _ ?_
    clear hKK KK
    go_wp2_with fail
    go_meet
    case rel => exact ⟨rfl, by (repeat (first | exact Below.refl _ _ | exact HB9.out | exact HBa.out | exact HBg.out | (refine Below.drew ?_) | (refine Below.alloc ?_ (by first | omega | (simp; done) | (simp; omega)) _) | (refine Below.setCell ?_ (by first | omega | (simp; done) | (simp; omega)) _)))⟩
 case rest =>
  obtain ⟨rfl, hB⟩ := hcut
  have r0 := ((HM.out.new_ hB).cell 0).trans rfl
  have hT2 := HT.out.below hB
  have HB := Lib.hid hB
  have HT2 := Lib.hid hT2
  clear hB hT2 s0
  go_wp2_with fail
  refine (tPut_Page ⟨c, v⟩ HT2.out HBB.out (by omega)).mono ?_
  rintro e w5 ⟨rfl, hch⟩
  have HP := Lib.hid hch
  clear hch
  go_wp2_with fail
  go_ret
  have hd : drop cmpPage m ⟨c, v⟩ = m := drop_self (by
   have h1 := HH.out
   rw [has_false] at h1 ⊢
   intro y hy e
   exact h1 y hy (cmpPage_eq.2 (cmpPage_eq.1 e)))
  have hf : has cmpPage m ⟨c, v⟩ = false := by
   have h1 := HH.out
   rw [has_false] at h1 ⊢
   intro y hy e
   exact h1 y hy (cmpPage_eq.2 (cmpPage_eq.1 e))
  obtain ⟨⟨σ5, h1, h6⟩, h2, h3, _⟩ := HP.out
  refine ⟨by rw [hf] <;> rfl, ?_, (KB.of_below HB.out).trans h2, (Fr.of_new HB.out).trans h3⟩
  unfold mput
  rw [hd]
  exact ⟨σ5, h1, fun k hk ho => h6 k (Nat.lt_of_lt_of_le hk HB.out.size) ho⟩
end Go.Proofs.YtpndmjabjjbefaaGreat
namespace Go.Proofs.YtpndmjabjjbefaaGreat
open Go.RowKit
theorem drop_key {m : List Page} {x y : Page} (h : x.key = y.key) : drop cmpPage m x = drop cmpPage m y := by
 unfold drop
 apply List.filter_congr
 intro z _
 have e : cmpPage z x = cmpPage z y := by unfold cmpPage Page.kk; rw [h]
 rw [e]
set_option maxRecDepth 100000 in
set_option maxHeartbeats 4000000 in
theorem mapput_is {D : Nat → Prop} {w : World} {S : Nat → Option (List Sym)} {σ : Nat → St} {S2 : Nat → Option (List Page)} {σ2 : Nat → St} (bm bp : Nat) (m : List Page) (c : UInt8) (v : Int) (y : Page) (hT : Tabs D w S σ S2 σ2) (hb : S2 bp = some m) (hM : Blk w bm 137 #[.pointer (some ⟨bp, 0, none⟩)]) (hl : (m.length : Int) ≤ 1000000) (hh : has cmpPage m ⟨c, 0⟩ = true) (hy : m[rank cmpPage m ⟨c, 0⟩]? = some y) (hyc : y.key = c) :
 Calls Tryz.prog 105 #[.pointer (some ⟨bm, 0, none⟩), .int .u8 (c.toNat : Int), .int .i64 v] w fun e w' => e = .returned (.bool false) ∧ MapPut D w S σ S2 σ2 bp (mput m ⟨c, v⟩) w' := by
 have hS := hT.pages.at_ bp m hb
 have hs := hT.pages.srt bp m hb
 have hA0 := hS.row_lt
 have hbp := hS.lt
 obtain ⟨sn, hsn⟩ : ∃ sn, sn = (σ2 bp).sn := ⟨_, rfl⟩
 obtain ⟨A, hA⟩ : ∃ A, A = (σ2 bp).A := ⟨_, rfl⟩
 obtain ⟨cc, hcc⟩ : ∃ cc, cc = (σ2 bp).c := ⟨_, rfl⟩
 rw [← hsn, ← hA, ← hcc] at hS
 clear hsn hA hcc
 have s0 := (hM.cell 0).trans rfl
 have hml := hM.lt
 have HS := Lib.hid hS
 have HO := Lib.hid hs
 have HM := Lib.hid hM
 have HH := Lib.hid hh
 have HT := Lib.hid hT
 have HBB := Lib.hid hb
 have HY := Lib.hid hy
 have HYC := Lib.hid hyc
 have HA0 := Lib.hid hA0
 clear hS hs hM hh hT hb hy hyc hA0
 go_enter Tryz.func105, Tryz.ntmps105
 go_upto_region 3 with (fail)
 go_cut [7, 8] from 11 (fun p b wc => b = .bool true ∧ Below w.heap.size w wc ∧ ∃ g, p = .pointer (some ⟨g, 0, none⟩) ∧ w.heap.size ≤ g ∧ g < wc.heap.size ∧ wc.cell? ⟨g, 0, none⟩ = some (.int .u8 y.kk) ∧ wc.cell? ⟨g, 1, none⟩ = some (.int .i64 y.v))
 case first =>
  refine wp_region_Pl (fun w9 => Below w.heap.size w w9) [0, 1, 2, 3, 4, 7, 8, 9, 12] [3] (.fork [(0, 0), (1, 0), (2, 0), (3, 1), (4, 0)] 5 (.fork [] 6 (.fin [(7, 0), (8, 0), (9, 0), (10, 2), (11, 2), (12, 0)]) 10 (.fin [(6, 2), (7, 0), (8, 0), (9, 0), (11, 2), (12, 0)])) 10 (.fin [(5, 2), (6, 2), (7, 0), (8, 0), (9, 0), (11, 2), (12, 0)])) (by kernel_rfl) (by kernel_rfl) (by kernel_rfl) (fun KK hKK => ?_)
  simp only [wpPl, beside, List.filterMap_cons, List.filterMap_nil, List.getElem?_toArray, List.getElem?_cons_zero, List.getElem?_cons_succ, Option.map_some]
  repeat (first | (refine wpY_w ?_ (Or.inl ⟨by rfl, fun w9 => ?_⟩) ?_; rotate_left 1; go_simp; with_reducible rfl; go_frame) | (refine wpY_l ?_ ((Below.refl _ _).drew) (Or.inl ⟨by rfl, fun w9 hw9 => ?_⟩) ?_; rotate_left 1; obtain ⟨hc9, hf9⟩ := bcell hw9; go_simp; with_reducible rfl; go_frame) | (refine wpY_w undef (Or.inr ⟨by rfl, rfl⟩) ?_; go_frame) | (refine wpY_l undef ((Below.refl _ _).drew) (Or.inr ⟨by rfl, rfl⟩) ?_; go_frame))
  refine wpY_nil ⟨?_, ?_⟩
  · refine wpOp_cs rfl (fun K9 hK9 => ?_)
    go_simp
    refine (at_is c _).mono ?_
    rintro e wa ⟨rfl, hba⟩
    have HBa := Lib.hid (((Below.refl w.heap.size w).drew).trans (hba.mono (by first | omega | simp)))
    clear hba
    have hza := HBa.out.size
    refine hK9 _ _ (fun _ => HBa.out) ?_
    clear hK9 K9
    try go_frame
    try simp only [beside, List.filterMap_nil]
    refine wpY_nil ⟨?_, ?_⟩
    · refine wpOp_cs rfl (fun K9 hK9 => ?_)
      go_simp
      refine (get_is_Page bp cc sn A m ⟨c, 0⟩ y _ (HS.out.new_ (HBa.out)) HO.out (by omega) HH.out HY.out).mono ?_
      rintro e wg ⟨rfl, hbg⟩
      have HBg := Lib.hid ((HBa.out).trans (hbg.mono (by have := HBa.out.size; first | omega | (simp; done) | (simp; omega))))
      clear hbg
      have hzg := HBg.out.size
      refine hK9 _ _ (fun _ => HBg.out) ?_
      clear hK9 K9
      try go_frame
      try simp only [beside, List.filterMap_nil]
      repeat (first | (refine wpY_w ?_ (Or.inl ⟨by rfl, fun w9 => ?_⟩) ?_; rotate_left 1; go_simp; with_reducible rfl; go_frame) | (refine wpY_l ?_ (HBg.out) (Or.inl ⟨by rfl, fun w9 hw9 => ?_⟩) ?_; rotate_left 1; obtain ⟨hc9, hf9⟩ := bcell hw9; go_simp; with_reducible rfl; go_frame) | (refine wpY_w undef (Or.inr ⟨by rfl, rfl⟩) ?_; go_frame) | (refine wpY_l undef (HBg.out) (Or.inr ⟨by rfl, rfl⟩) ?_; go_frame))
      refine wpY_es (fun K9 hK9 => ?_)
      go_simp
      have hB9 := (HBg.out).alloc (by have := HBg.out.size; first | omega | (simp; done) | (simp; omega)) (.cells #[.int .u8 0, .int .i64 0] 135)
      have HB9 := Lib.hid hB9
      have hk9 : Blk (wg.alloc (.cells #[.int .u8 0, .int .i64 0] 135)) wg.heap.size 135 #[.int .u8 0, .int .i64 0] := Blk.new wg 135 #[.int .u8 0, .int .i64 0]
      have HK9 := Lib.hid hk9
      clear hB9 hk9
      have hz9 := HB9.out.size
      refine hK9 _ _ (HB9.out) ?_
      clear hK9 K9
      try go_frame
      refine wpY_es (fun K9 hK9 => ?_)
      have u0 := ((HK9.out).cell 0).trans rfl
      have u1 := ((HK9.out).cell 1).trans rfl
      have f0 := (HK9.out).frozen 0
      have f1 := (HK9.out).frozen 1
      have hgl := (HK9.out).lt
      go_simp
      refine hK9 _ _ (by (repeat (first | exact Below.refl _ _ | exact HBa.out | exact HBg.out | exact HB9.out | (refine Below.drew ?_) | (refine Below.alloc ?_ (by first | omega | (simp; done) | (simp; omega)) _) | (refine Below.setCell ?_ (by first | omega | (simp; done) | (simp; omega)) _)))) ?_
      clear hK9 K9
      try go_frame
      repeat (first | (refine wpY_w ?_ (Or.inl ⟨by rfl, fun w9 => ?_⟩) ?_; rotate_left 1; go_simp; with_reducible rfl; go_frame) | (refine wpY_l ?_ (by (repeat (first | exact Below.refl _ _ | exact HBa.out | exact HBg.out | exact HB9.out | (refine Below.drew ?_) | (refine Below.alloc ?_ (by first | omega | (simp; done) | (simp; omega)) _) | (refine Below.setCell ?_ (by first | omega | (simp; done) | (simp; omega)) _)))) (Or.inl ⟨by rfl, fun w9 hw9 => ?_⟩) ?_; rotate_left 1; obtain ⟨hc9, hf9⟩ := bcell hw9; go_simp; with_reducible rfl; go_frame) | (refine wpY_w undef (Or.inr ⟨by rfl, rfl⟩) ?_; go_frame) | (refine wpY_l undef (by (repeat (first | exact Below.refl _ _ | exact HBa.out | exact HBg.out | exact HB9.out | (refine Below.drew ?_) | (refine Below.alloc ?_ (by first | omega | (simp; done) | (simp; omega)) _) | (refine Below.setCell ?_ (by first | omega | (simp; done) | (simp; omega)) _)))) (Or.inr ⟨by rfl, rfl⟩) ?_; go_frame))
      refine wpY_nil ?_
      simp only [OnlyN_normal]
      refine hKK _ _ ?_
      clear hKK KK
      go_wp2_with fail
      go_meet
      case rel => exact ⟨rfl, by (repeat (first | exact Below.refl _ _ | exact HBa.out | exact HBg.out | exact HB9.out | (refine Below.drew ?_) | (refine Below.alloc ?_ (by first | omega | (simp; done) | (simp; omega)) _) | (refine Below.setCell ?_ (by first | omega | (simp; done) | (simp; omega)) _))), _, rfl, by first | exact hzg | exact hza | omega | simp, by first | (simp; done) | (simp; omega), by first | (simp; done) | (go_simp; done) | (go_simp; rfl), by first | (simp; done) | (go_simp; done) | (go_simp; rfl)⟩
    · refine wpOp_cs rfl (fun K9 hK9 => ?_)
      go_simp
      have hB9 := (HBa.out).alloc (by have := HBa.out.size; first | omega | (simp; done) | (simp; omega)) (.cells #[.int .u8 0, .int .i64 0] 135)
      have HB9 := Lib.hid hB9
      have hk9 : Blk (wa.alloc (.cells #[.int .u8 0, .int .i64 0] 135)) wa.heap.size 135 #[.int .u8 0, .int .i64 0] := Blk.new wa 135 #[.int .u8 0, .int .i64 0]
      have HK9 := Lib.hid hk9
      clear hB9 hk9
      have hz9 := HB9.out.size
      refine hK9 _ _ (fun _ => HB9.out) ?_
      clear hK9 K9
      try go_frame
      try simp only [beside, List.filterMap_nil]
      refine wpY_es (fun K9 hK9 => ?_)
      go_simp
      refine (get_is_Page bp cc sn A m ⟨c, 0⟩ y _ (HS.out.new_ (HB9.out)) HO.out (by omega) HH.out HY.out).mono ?_
      rintro e wg ⟨rfl, hbg⟩
      have hkg := (HK9.out).new_ hbg
      have HKg := Lib.hid hkg
      clear hkg
      have HBg := Lib.hid ((HB9.out).trans (hbg.mono (by have := HB9.out.size; first | omega | (simp at this ⊢; done) | (simp at this ⊢; omega))))
      clear hbg
      have hzg := HBg.out.size
      refine hK9 _ _ (HBg.out) ?_
      clear hK9 K9
      try go_frame
      repeat (first | (refine wpY_w ?_ (Or.inl ⟨by rfl, fun w9 => ?_⟩) ?_; rotate_left 1; go_simp; with_reducible rfl; go_frame) | (refine wpY_l ?_ (HBg.out) (Or.inl ⟨by rfl, fun w9 hw9 => ?_⟩) ?_; rotate_left 1; obtain ⟨hc9, hf9⟩ := bcell hw9; go_simp; with_reducible rfl; go_frame) | (refine wpY_w undef (Or.inr ⟨by rfl, rfl⟩) ?_; go_frame) | (refine wpY_l undef (HBg.out) (Or.inr ⟨by rfl, rfl⟩) ?_; go_frame))
      refine wpY_es (fun K9 hK9 => ?_)
      have u0 := ((HKg.out).cell 0).trans rfl
      have u1 := ((HKg.out).cell 1).trans rfl
      have f0 := (HKg.out).frozen 0
      have f1 := (HKg.out).frozen 1
      have hgl := (HKg.out).lt
      go_simp
      refine hK9 _ _ (by (repeat (first | exact Below.refl _ _ | exact HBa.out | exact HB9.out | exact HBg.out | (refine Below.drew ?_) | (refine Below.alloc ?_ (by first | omega | (simp; done) | (simp; omega)) _) | (refine Below.setCell ?_ (by first | omega | (simp; done) | (simp; omega)) _)))) ?_
      clear hK9 K9
      try go_frame
      repeat (first | (refine wpY_w ?_ (Or.inl ⟨by rfl, fun w9 => ?_⟩) ?_; rotate_left 1; go_simp; with_reducible rfl; go_frame) | (refine wpY_l ?_ (by (repeat (first | exact Below.refl _ _ | exact HBa.out | exact HB9.out | exact HBg.out | (refine Below.drew ?_) | (refine Below.alloc ?_ (by first | omega | (simp; done) | (simp; omega)) _) | (refine Below.setCell ?_ (by first | omega | (simp; done) | (simp; omega)) _)))) (Or.inl ⟨by rfl, fun w9 hw9 => ?_⟩) ?_; rotate_left 1; obtain ⟨hc9, hf9⟩ := bcell hw9; go_simp; with_reducible rfl; go_frame) | (refine wpY_w undef (Or.inr ⟨by rfl, rfl⟩) ?_; go_frame) | (refine wpY_l undef (by (repeat (first | exact Below.refl _ _ | exact HBa.out | exact HB9.out | exact HBg.out | (refine Below.drew ?_) | (refine Below.alloc ?_ (by first | omega | (simp; done) | (simp; omega)) _) | (refine Below.setCell ?_ (by first | omega | (simp; done) | (simp; omega)) _)))) (Or.inr ⟨by rfl, rfl⟩) ?_; go_frame))
      refine wpY_nil ?_
      simp only [OnlyN_normal]
      refine hKK _ _ ?_
      clear hKK KK
      go_wp2_with fail
      go_meet
      case rel => exact ⟨rfl, by (repeat (first | exact Below.refl _ _ | exact HBa.out | exact HB9.out | exact HBg.out | (refine Below.drew ?_) | (refine Below.alloc ?_ (by first | omega | (simp; done) | (simp; omega)) _) | (refine Below.setCell ?_ (by first | omega | (simp; done) | (simp; omega)) _))), _, rfl, by first | exact hzg | exact hza | omega | simp, by first | (simp; done) | (simp; omega), by first | (simp; done) | (go_simp; done) | (go_simp; rfl), by first | (simp; done) | (go_simp; done) | (go_simp; rfl)⟩
  · refine wpOp_cs rfl (fun K9 hK9 => ?_)
    go_simp
    have hB9 := ((Below.refl w.heap.size w).drew).alloc (by first | omega | simp) (.cells #[.int .u8 0, .int .i64 0] 135)
    have HB9 := Lib.hid hB9
    have hk9 : Blk (w.drew.alloc (.cells #[.int .u8 0, .int .i64 0] 135)) w.heap.size 135 #[.int .u8 0, .int .i64 0] := Blk.new w.drew 135 #[.int .u8 0, .int .i64 0]
    have HK9 := Lib.hid hk9
    clear hB9 hk9
    have hz9 := HB9.out.size
    refine hK9 _ _ (fun _ => HB9.out) ?_
    clear hK9 K9
    try go_frame
    try simp only [beside, List.filterMap_nil]
    refine wpY_es (fun K9 hK9 => ?_)
    go_simp
    refine (at_is c _).mono ?_
    rintro e wa ⟨rfl, hba⟩
    have hka := (HK9.out).new_ hba
    have HKa := Lib.hid hka
    clear hka
    have HBa := Lib.hid ((HB9.out).trans (hba.mono (by have := HB9.out.size; first | omega | (simp at this ⊢; done) | (simp at this ⊢; omega))))
    clear hba
    have hza := HBa.out.size
    refine hK9 _ _ (HBa.out) ?_
    clear hK9 K9
    try go_frame
    refine wpY_es (fun K9 hK9 => ?_)
    go_simp
    refine (get_is_Page bp cc sn A m ⟨c, 0⟩ y _ (HS.out.new_ (HBa.out)) HO.out (by omega) HH.out HY.out).mono ?_
    rintro e wg ⟨rfl, hbg⟩
    have hkg := (HKa.out).new_ hbg
    have HKg := Lib.hid hkg
    clear hkg
    have HBg := Lib.hid ((HBa.out).trans (hbg.mono (by have := HBa.out.size; first | omega | (simp; done) | (simp; omega))))
    clear hbg
    have hzg := HBg.out.size
    refine hK9 _ _ (HBg.out) ?_
    clear hK9 K9
    try go_frame
    repeat (first | (refine wpY_w ?_ (Or.inl ⟨by rfl, fun w9 => ?_⟩) ?_; rotate_left 1; go_simp; with_reducible rfl; go_frame) | (refine wpY_l ?_ (HBg.out) (Or.inl ⟨by rfl, fun w9 hw9 => ?_⟩) ?_; rotate_left 1; obtain ⟨hc9, hf9⟩ := bcell hw9; go_simp; with_reducible rfl; go_frame) | (refine wpY_w undef (Or.inr ⟨by rfl, rfl⟩) ?_; go_frame) | (refine wpY_l undef (HBg.out) (Or.inr ⟨by rfl, rfl⟩) ?_; go_frame))
    refine wpY_es (fun K9 hK9 => ?_)
    have u0 := ((HKg.out).cell 0).trans rfl
    have u1 := ((HKg.out).cell 1).trans rfl
    have f0 := (HKg.out).frozen 0
    have f1 := (HKg.out).frozen 1
    have hgl := (HKg.out).lt
    go_simp
    refine hK9 _ _ (by (repeat (first | exact Below.refl _ _ | exact HB9.out | exact HBa.out | exact HBg.out | (refine Below.drew ?_) | (refine Below.alloc ?_ (by first | omega | (simp; done) | (simp; omega)) _) | (refine Below.setCell ?_ (by first | omega | (simp; done) | (simp; omega)) _)))) ?_
    clear hK9 K9
    try go_frame
    repeat (first | (refine wpY_w ?_ (Or.inl ⟨by rfl, fun w9 => ?_⟩) ?_; rotate_left 1; go_simp; with_reducible rfl; go_frame) | (refine wpY_l ?_ (by (repeat (first | exact Below.refl _ _ | exact HB9.out | exact HBa.out | exact HBg.out | (refine Below.drew ?_) | (refine Below.alloc ?_ (by first | omega | (simp; done) | (simp; omega)) _) | (refine Below.setCell ?_ (by first | omega | (simp; done) | (simp; omega)) _)))) (Or.inl ⟨by rfl, fun w9 hw9 => ?_⟩) ?_; rotate_left 1; obtain ⟨hc9, hf9⟩ := bcell hw9; go_simp; with_reducible rfl; go_frame) | (refine wpY_w undef (Or.inr ⟨by rfl, rfl⟩) ?_; go_frame) | (refine wpY_l undef (by (repeat (first | exact Below.refl _ _ | exact HB9.out | exact HBa.out | exact HBg.out | (refine Below.drew ?_) | (refine Below.alloc ?_ (by first | omega | (simp; done) | (simp; omega)) _) | (refine Below.setCell ?_ (by first | omega | (simp; done) | (simp; omega)) _)))) (Or.inr ⟨by rfl, rfl⟩) ?_; go_frame))
    refine wpY_nil ?_
    simp only [OnlyN_normal]
    refine hKK _ _ ?_
    clear hKK KK
    go_wp2_with fail
    go_meet
    case rel => exact ⟨rfl, by (repeat (first | exact Below.refl _ _ | exact HB9.out | exact HBa.out | exact HBg.out | (refine Below.drew ?_) | (refine Below.alloc ?_ (by first | omega | (simp; done) | (simp; omega)) _) | (refine Below.setCell ?_ (by first | omega | (simp; done) | (simp; omega)) _))), _, rfl, by first | exact hzg | exact hza | omega | simp, by first | (simp; done) | (simp; omega), by first | (simp; done) | (go_simp; done) | (go_simp; rfl), by first | (simp; done) | (go_simp; done) | (go_simp; rfl)⟩
 case rest =>
  obtain ⟨rfl, hB, g, rfl, hg, hgl, q0, q1⟩ := hcut
  have hMc := HM.out.new_ hB
  have r0 := (hMc.cell 0).trans rfl
  have hml2 := hMc.lt
  have hT2 := HT.out.below hB
  have HMc := Lib.hid hMc
  have HB := Lib.hid hB
  have HT2 := Lib.hid hT2
  clear hB hT2 s0 hMc
  go_wp2_with fail
  refine wp_region_E (fun w9 => Below wc.heap.size wc w9) [(0, 0), (1, 0), (2, 0), (3, 1), (4, 1), (5, 2)] (by kernel_rfl) (by kernel_rfl) (fun KK hKK => ?_)
  simp only [beside, List.filterMap_cons, List.filterMap_nil, List.getElem?_toArray, List.getElem?_cons_zero, List.getElem?_cons_succ, Option.map_some]
  repeat (first | (refine wpX_w ?_ (Or.inl ⟨by rfl, fun w9 => ?_⟩) ?_; rotate_left 1; go_simp; with_reducible rfl; go_frame) | (refine wpX_l ?_ (((Below.refl _ _).drew)) (Or.inl ⟨by rfl, fun w9 hw9 => ?_⟩) ?_; rotate_left 1; obtain ⟨hc9, hf9⟩ := bcell hw9; go_simp; with_reducible rfl; go_frame) | (refine wpX_w undef (Or.inr ⟨by rfl, rfl⟩) ?_; go_frame) | (refine wpX_l undef (((Below.refl _ _).drew)) (Or.inr ⟨by rfl, rfl⟩) ?_; go_frame))
  refine wpX_e (by kernel_rfl) (fun K9 hK9 => ?_)
  go_simp
  refine (tDrop_Page y (HT2.out.below ((Below.refl _ _).drew)) HBB.out (by omega)).mono ?_
  rintro e w5 ⟨rfl, hch⟩
  have HP := Lib.hid hch
  obtain ⟨_, _, _, hM5⟩ := hch
  have hng : ¬ SetMod bp (σ2 bp).sn (σ2 bp).A g := (by
   rintro (h | ⟨_, a, ha, h⟩)
   · omega
   · have := HA0.out a ha; omega)
  have p0 := (hM5.cell (p := ⟨g, 0, none⟩) hgl hng).trans q0
  have p1 := (hM5.cell (p := ⟨g, 1, none⟩) hgl hng).trans q1
  have hMd := HP.out.2.1 bm _ _ (by decide) (by decide) (by decide) (by decide) HMc.out.drew
  have t0 := (hMd.cell 0).trans rfl
  have hl5 := hM5.size
  have hgl5 : g < w5.heap.size := (by have := hl5; simp at this; omega)
  have hml5 : bm < w5.heap.size := hMd.lt
  obtain ⟨σ5, hT5, hO5⟩ := HP.out.1
  have HT5 := Lib.hid hT5
  have HO5 := Lib.hid hO5
  clear hM5 hng q0 q1 r0 hMd hT5 hl5 hO5
  refine hK9 _ _ ?_
  clear hK9 K9
  refine wpX_nil ?_
  simp only [OnlyN_normal]
  refine hKK _ _ ?_
  clear hKK KK
  go_wp2_with fail
  refine wp_region_E (fun w9 => Below w5.heap.size w5 w9) [(0, 0), (1, 0), (2, 0), (3, 1), (4, 0), (5, 1), (6, 0), (7, 0), (8, 2)] (by kernel_rfl) (by kernel_rfl) (fun KK hKK => ?_)
  simp only [beside, List.filterMap_cons, List.filterMap_nil, List.getElem?_toArray, List.getElem?_cons_zero, List.getElem?_cons_succ, Option.map_some]
  repeat (first | (refine wpX_w ?_ (Or.inl ⟨by rfl, fun w9 => ?_⟩) ?_; rotate_left 1; go_simp; with_reducible rfl; go_frame) | (refine wpX_l ?_ (((Below.refl _ _).drew)) (Or.inl ⟨by rfl, fun w9 hw9 => ?_⟩) ?_; rotate_left 1; obtain ⟨hc9, hf9⟩ := bcell hw9; go_simp; with_reducible rfl; go_frame) | (refine wpX_w undef (Or.inr ⟨by rfl, rfl⟩) ?_; go_frame) | (refine wpX_l undef (((Below.refl _ _).drew)) (Or.inr ⟨by rfl, rfl⟩) ?_; go_frame))
  refine wpX_e (by kernel_rfl) (fun K9 hK9 => ?_)
  go_simp
  refine (tPut_Page ⟨y.key, v⟩ (HT5.out.below ((Below.refl _ _).drew)) (upd_same _ _ _) (by have := length_drop_le (cmp := cmpPage) m y; omega)).mono ?_
  rintro e w6 ⟨rfl, hch⟩
  have HP2 := Lib.hid hch
  clear hch
  refine hK9 _ _ ?_
  clear hK9 K9
  refine wpX_nil ?_
  simp only [OnlyN_normal]
  refine hKK _ _ ?_
  clear hKK KK
  go_wp2_with fail
  go_ret
  obtain ⟨⟨σ6, h1, h6⟩, h2, h3, _⟩ := HP2.out
  obtain ⟨_, h4, h5, _⟩ := HP.out
  have hz5 := HB.out.size
  have hz6 := h5.size
  have h7 : ∀ k, k < w.heap.size → Off k S2 σ2 → Off k (upd (upd S2 bp (some (drop cmpPage m y))) bp (some (put cmpPage (drop cmpPage m y) ⟨y.key, v⟩))) σ6 := fun k hk ho => h6 k (by simp at hz6 ⊢; omega) (HO5.out k (by simp; omega) ho)
  refine ⟨rfl, ?_, ((KB.of_below HB.out).trans h4).trans h2, (((Fr.of_new HB.out).trans ((Fr.refl _ wc).drew.trans h5)).trans ((Fr.refl _ w5).drew.trans h3))⟩
  have e1 : drop cmpPage m y = drop cmpPage m ⟨c, v⟩ := drop_key HYC.out
  have e2 : (⟨y.key, v⟩ : Page) = ⟨c, v⟩ := by rw [HYC.out]
  rw [upd_upd, e1, e2] at h1 h7
  exact ⟨σ6, h1, h7⟩
theorem mapput {D : Nat → Prop} {w : World} {S : Nat → Option (List Sym)} {σ : Nat → St} {S2 : Nat → Option (List Page)} {σ2 : Nat → St} (bm bp : Nat) (m : List Page) (c : UInt8) (v : Int) (hT : Tabs D w S σ S2 σ2) (hb : S2 bp = some m) (hM : Blk w bm 137 #[.pointer (some ⟨bp, 0, none⟩)]) (hl : (m.length : Int) ≤ 1000000) :
 Calls Tryz.prog 105 #[.pointer (some ⟨bm, 0, none⟩), .int .u8 (c.toNat : Int), .int .i64 v] w fun e w' => (∃ r, e = .returned (.bool r)) ∧ MapPut D w S σ S2 σ2 bp (mput m ⟨c, v⟩) w' := by
 cases hh : has cmpPage m ⟨c, 0⟩
 · exact (mapput_no bm bp m c v hT hb hM hl hh).mono fun _ _ ⟨h1, h2⟩ => ⟨⟨_, h1⟩, h2⟩
 · obtain ⟨y, hy, hyc, _⟩ := found_page (hT.pages.srt bp m hb) hh
   exact (mapput_is bm bp m c v y hT hb hM hl hh hy hyc).mono fun _ _ ⟨h1, h2⟩ => ⟨⟨_, h1⟩, h2⟩
end Go.Proofs.YtpndmjabjjbefaaGreat
namespace Go.Proofs.YtpndmjabjjbefaaGreat
open Go.RowKit
structure TB where
 b : Nat
 room : Int
 bs : Nat
 bm : Nat
 bp : Nat
def TabBlk (w : World) (T : TB) : Prop := Blk w T.b 111 #[.int .i64 T.room, .pointer (some ⟨T.bs, 0, none⟩), .pointer (some ⟨T.bm, 0, none⟩)] ∧ Blk w T.bm 137 #[.pointer (some ⟨T.bp, 0, none⟩)]
theorem TabBlk.kb {w w' : World} {T : TB} (h : TabBlk w T) (hk : KB w w') : TabBlk w' T := ⟨hk _ _ _ (by decide) (by decide) (by decide) (by decide) h.1, hk _ _ _ (by decide) (by decide) (by decide) (by decide) h.2⟩
theorem TabBlk.below {w w' : World} {T : TB} (h : TabBlk w T) (hk : Below w.heap.size w w') : TabBlk w' T := ⟨h.1.new_ hk, h.2.new_ hk⟩
section
variable {D : Nat → Prop} {w : World} {S : Nat → Option (List Sym)} {σ : Nat → St} {S2 : Nat → Option (List Page)} {σ2 : Nat → St}
def nextB (m : List Page) (c : UInt8) : Int := if greatB c = true then (mget m c).getD 1 else 0
set_option maxHeartbeats 1000000 in
theorem next_is (T : TB) (m : List Page) (c : UInt8) (hT : Tabs D w S σ S2 σ2) (hB : TabBlk w T) (hb : S2 T.bp = some m) (hl : (m.length : Int) ≤ 1000000) :
 Calls Tryz.prog 78 #[.pointer (some ⟨T.b, 0, none⟩), .int .u8 (c.toNat : Int)] w fun e w' => e = .returned (.int .i64 (nextB m c)) ∧ Below w.heap.size w w' := by
 have hS := hT.pages.at_ T.bp m hb
 have hs := hT.pages.srt T.bp m hb
 have HS := Lib.hid hS
 have HO := Lib.hid hs
 have HB := Lib.hid hB
 have s2 := (hB.1.cell 2).trans rfl
 clear hT hB hb hS hs
 cases hg : greatB c
 · have HN : Hid (nextB m c = 0) := Lib.hid (by unfold nextB; rw [hg]; rfl)
   go_enter Tryz.func78, Tryz.ntmps78
   go_wp2_with (go_at_call 77; refine (great_is _ _).mono ?_; rintro e w' ⟨rfl, rfl⟩)
   go_ret
   exact ⟨by rw [HN.out] <;> rfl, Below.refl _ _⟩
 · cases hh : has cmpPage m ⟨c, 0⟩
   · have HN : Hid (nextB m c = 1) := Lib.hid (by unfold nextB; rw [hg, mget_none hh]; rfl)
     have HH := Lib.hid hh
     clear hh
     go_enter Tryz.func78, Tryz.ntmps78
     go_wp2_with (first | (go_at_call 77; refine (great_is _ _).mono ?_; rintro e w' ⟨rfl, rfl⟩) | (go_at_call 104; refine (mapget_no T.bm T.bp _ _ _ m c _ HB.out.2 HS.out HO.out hl HH.out).mono ?_; rintro e w' ⟨rfl, hb1⟩))
     go_ret
     exact ⟨by rw [HN.out] <;> rfl, hb1⟩
   · obtain ⟨y, hy, _, hm⟩ := found_page HO.out hh
     have HN : Hid (nextB m c = y.v) := Lib.hid (by unfold nextB; rw [hg, hm]; rfl)
     have HH := Lib.hid hh
     have HY := Lib.hid hy
     clear hh hy hm
     go_enter Tryz.func78, Tryz.ntmps78
     go_wp2_with (first | (go_at_call 77; refine (great_is _ _).mono ?_; rintro e w' ⟨rfl, rfl⟩) | (go_at_call 104; refine (mapget_is T.bm T.bp _ _ _ m c y _ HB.out.2 HS.out HO.out hl HH.out HY.out).mono ?_; rintro e w' ⟨rfl, hb1⟩))
     go_ret
     exact ⟨by rw [HN.out] <;> rfl, hb1⟩
end
end Go.Proofs.YtpndmjabjjbefaaGreat
namespace Go.Proofs.YtpndmjabjjbefaaGreat
open Go.RowKit
def idc (t : ByteArray) : UInt8 := t.data.toList.headD 0
theorem idc_eq {t : ByteArray} (h : 0 < t.size) : idc t = t[0] := by
 obtain ⟨r, hr⟩ : ∃ r, t.data.toList = t[0] :: r := by
  have hs : t.data.toList.length = t.size := Array.length_toList
  refine ⟨t.data.toList.drop 1, ?_⟩
  have e : t[0] = t.data.toList[0]'(by omega) := by rw [Array.getElem_toList]; rfl
  rw [e, List.getElem_cons_drop, List.drop_zero]
 unfold idc
 rw [hr]; rfl
def tputM (m : List Page) (s : Sym) : List Page := if s.kind = 1 ∧ nextB m (idc s.text) ≤ s.n then mput m ⟨idc s.text, s.n + 1⟩ else m
def TabPut (D : Nat → Prop) (w : World) (S : Nat → Option (List Sym)) (σ : Nat → St) (S2 : Nat → Option (List Page)) (σ2 : Nat → St) (T : TB) (l : List Sym) (m : List Page) (w' : World) : Prop :=
 (∃ σ' σ2', Tabs D w' (upd S T.bs (some l)) σ' (upd S2 T.bp (some m)) σ2' ∧ ∀ k, k < w.heap.size → Off k S σ → Off k S2 σ2 → Off k (upd S T.bs (some l)) σ' ∧ Off k (upd S2 T.bp (some m)) σ2') ∧ KB w w' ∧ Fr (fun k => ¬ D k) w w'
section
variable {D : Nat → Prop} {w : World} {S : Nat → Option (List Sym)} {σ : Nat → St} {S2 : Nat → Option (List Page)} {σ2 : Nat → St}
theorem Tabs.noop {b : Nat} {m : List Page} (h : Tabs D w S σ S2 σ2) (hb : S2 b = some m) : Tabs D w S σ (upd S2 b (some m)) σ2 := by rw [upd_id _ _ _ hb]; exact h
set_option maxRecDepth 100000 in
set_option maxHeartbeats 4000000 in
theorem tabput_other (T : TB) (l : List Sym) (m : List Page) (k : Int) (t : ByteArray) (n : Int) (hT : Tabs D w S σ S2 σ2) (hB : TabBlk w T) (hb : S T.bs = some l) (hb2 : S2 T.bp = some m) (hk : ¬ k = 1) (hl : (l.length : Int) ≤ 1000000) (hl2 : (m.length : Int) ≤ 1000000) :
 Calls Tryz.prog 80 #[.pointer (some ⟨T.b, 0, none⟩), .agg #[.int .i64 k, .string t, .int .i64 n]] w fun e w' => e = .returned (.tuple #[]) ∧ TabPut D w S σ S2 σ2 T (put cmpSym l ⟨k, t, n⟩) m w' := by
 have hA0 := (hT.syms.at_ T.bs l hb).row_lt
 have hbs := (hT.syms.at_ T.bs l hb).lt
 have HT := Lib.hid hT
 have HB := Lib.hid hB
 have HS := Lib.hid hb
 have HP := Lib.hid hb2
 have HA0 := Lib.hid hA0
 have _hl := hl2
 have t1 : (k == 1) = false := by simp [hk]
 clear hk
 clear hT hB hb hb2 hA0
 go_enter Tryz.func80, Tryz.ntmps80
 go_wp2_with fail
 obtain ⟨W, hW⟩ : ∃ W, W = w.alloc (Obj.cells #[Value.int IntKind.i64 k, Value.string t, Value.int IntKind.i64 n] 23) := ⟨_, rfl⟩
 have hX : Blk W w.heap.size 23 #[.int .i64 k, .string t, .int .i64 n] := by rw [hW]; exact Blk.new _ _ _
 have hB0 : Below w.heap.size w W := by rw [hW]; exact (Below.refl _ _).alloc (Nat.le_refl _) _
 rw [← hW]
 clear hW
 have y0 := (hX.cell 0).trans rfl
 have y1 := (hX.cell 1).trans rfl
 have y2 := (hX.cell 2).trans rfl
 have hxl := hX.lt
 have hT0 := HT.out.below hB0
 have hBk := HB.out.below hB0
 have s1 := (hBk.1.cell 1).trans rfl
 have hbl := hBk.1.lt
 have HX := Lib.hid hX
 have HB0 := Lib.hid hB0
 have HT0 := Lib.hid hT0
 have HBk := Lib.hid hBk
 clear hX hB0 hT0 hBk
 refine wp_region_E (fun w9 => Below W.heap.size W w9) [(0, 0), (1, 0), (2, 0), (3, 1), (4, 1), (5, 2)] (by kernel_rfl) (by kernel_rfl) (fun KK hKK => ?_)
 simp only [beside, List.filterMap_cons, List.filterMap_nil, List.getElem?_toArray, List.getElem?_cons_zero, List.getElem?_cons_succ, Option.map_some]
 repeat (first | (refine wpX_w ?_ (Or.inl ⟨by rfl, fun w9 => ?_⟩) ?_; rotate_left 1; go_simp; with_reducible rfl; go_frame) | (refine wpX_l ?_ (((Below.refl _ _).drew)) (Or.inl ⟨by rfl, fun w9 hw9 => ?_⟩) ?_; rotate_left 1; obtain ⟨hc9, hf9⟩ := bcell hw9; go_simp; with_reducible rfl; go_frame) | (refine wpX_w undef (Or.inr ⟨by rfl, rfl⟩) ?_; go_frame) | (refine wpX_l undef (((Below.refl _ _).drew)) (Or.inr ⟨by rfl, rfl⟩) ?_; go_frame))
 refine wpX_e (by kernel_rfl) (fun K9 hK9 => ?_)
 go_simp
 refine (tPut_Sym ⟨k, t, n⟩ (HT0.out.below ((Below.refl _ _).drew)) HS.out (by omega)).mono ?_
 rintro e w1 ⟨rfl, hch⟩
 have HP1 := Lib.hid hch
 obtain ⟨_, _, _, hM1⟩ := hch
 have hng : ¬ SetMod T.bs (σ T.bs).sn (σ T.bs).A w.heap.size := (by
  rintro (h | ⟨_, a, ha, h⟩)
  · omega
  · have := HA0.out a ha; omega)
 have hX1 := HX.out.drew.fr hM1 hng
 have z0 := (hX1.cell 0).trans rfl
 have z1 := (hX1.cell 1).trans rfl
 have z2 := (hX1.cell 2).trans rfl
 have hxl1 := hX1.lt
 have hBk1 : TabBlk w1 T := TabBlk.kb HBk.out HP1.out.2.1
 have r2 := (hBk1.1.cell 2).trans rfl
 have hbl1 := hBk1.1.lt
 obtain ⟨σ1, hT1, hO1⟩ := HP1.out.1
 have HT1 := Lib.hid hT1
 have HO1 := Lib.hid hO1
 have HX1 := Lib.hid hX1
 have HBk1 := Lib.hid hBk1
 clear hM1 hng hX1 hBk1 hT1 hO1 y0 y1 y2 s1
 refine hK9 _ _ ?_
 clear hK9 K9
 refine wpX_nil ?_
 simp only [OnlyN_normal]
 refine hKK _ _ ?_
 clear hKK KK
 go_wp2_with fail
 refine wp_region_E (fun w9 => Below w1.heap.size w1 w9) [(0, 0), (1, 1), (2, 0), (3, 0), (4, 0), (5, 1), (6, 0), (7, 0), (8, 1), (9, 0), (10, 2), (11, 0), (12, 0)] (by kernel_rfl) (by kernel_rfl) (fun KK hKK => ?_)
 simp only [beside, List.filterMap_cons, List.filterMap_nil, List.getElem?_toArray, List.getElem?_cons_zero, List.getElem?_cons_succ, Option.map_some]
 repeat (first | (refine wpX_w ?_ (Or.inl ⟨by rfl, fun w9 => ?_⟩) ?_; rotate_left 1; go_simp; with_reducible rfl; go_frame) | (refine wpX_l ?_ (((Below.refl _ _).drew)) (Or.inl ⟨by rfl, fun w9 hw9 => ?_⟩) ?_; rotate_left 1; obtain ⟨hc9, hf9⟩ := bcell hw9; go_simp; with_reducible rfl; go_frame) | (refine wpX_w undef (Or.inr ⟨by rfl, rfl⟩) ?_; go_frame) | (refine wpX_l undef (((Below.refl _ _).drew)) (Or.inr ⟨by rfl, rfl⟩) ?_; go_frame))
 refine wpX_es (fun K9 hK9 => ?_)
 go_simp
 have HB2 := Lib.hid ((Below.refl w1.heap.size w1).drew)
 refine hK9 _ _ HB2.out ?_
 clear hK9 K9
 repeat (first | (refine wpX_w ?_ (Or.inl ⟨by rfl, fun w9 => ?_⟩) ?_; rotate_left 1; go_simp; with_reducible rfl; go_frame) | (refine wpX_l ?_ (HB2.out) (Or.inl ⟨by rfl, fun w9 hw9 => ?_⟩) ?_; rotate_left 1; obtain ⟨hc9, hf9⟩ := bcell hw9; go_simp; with_reducible rfl; go_frame) | (refine wpX_w undef (Or.inr ⟨by rfl, rfl⟩) ?_; go_frame) | (refine wpX_l undef (HB2.out) (Or.inr ⟨by rfl, rfl⟩) ?_; go_frame))
 refine wpX_nil ?_
 simp only [OnlyN_normal]
 refine hKK _ _ ?_
 clear hKK KK
 go_wp2_with fail
 go_end0
 have hz0 := HB0.out.size
 refine ⟨rfl, ⟨σ1, _, (HT1.out.below HB2.out).noop HP.out, fun k hk ho ho2 => ⟨HO1.out k (by simp; omega) ho, by rw [upd_id _ _ _ HP.out]; exact ho2⟩⟩, ((KB.of_below HB0.out).trans HP1.out.2.1).trans (KB.of_below HB2.out), (((Fr.of_new HB0.out).trans ((Fr.refl _ W).drew.trans HP1.out.2.2.1)).trans (Fr.of_new HB2.out))⟩
set_option maxRecDepth 100000 in
set_option maxHeartbeats 4000000 in
theorem tabput_low (T : TB) (l : List Sym) (m : List Page) (t : ByteArray) (n : Int) (hT : Tabs D w S σ S2 σ2) (hB : TabBlk w T) (hb : S T.bs = some l) (hb2 : S2 T.bp = some m) (ht : t.size = 1) (hc : ¬ nextB m (t[0]'(by omega)) ≤ n) (hl : (l.length : Int) ≤ 1000000) (hl2 : (m.length : Int) ≤ 1000000) :
 Calls Tryz.prog 80 #[.pointer (some ⟨T.b, 0, none⟩), .agg #[.int .i64 1, .string t, .int .i64 n]] w fun e w' => e = .returned (.tuple #[]) ∧ TabPut D w S σ S2 σ2 T (put cmpSym l ⟨1, t, n⟩) m w' := by
 have hA0 := (hT.syms.at_ T.bs l hb).row_lt
 have hbs := (hT.syms.at_ T.bs l hb).lt
 have HT := Lib.hid hT
 have HB := Lib.hid hB
 have HS := Lib.hid hb
 have HP := Lib.hid hb2
 have HA0 := Lib.hid hA0
 have h0 : 0 < t.size := by omega
 have t1 : decide (nextB m t[0] ≤ n) = false := by simpa using hc
 clear hc
 clear hT hB hb hb2 hA0
 go_enter Tryz.func80, Tryz.ntmps80
 go_wp2_with fail
 obtain ⟨W, hW⟩ : ∃ W, W = w.alloc (Obj.cells #[Value.int IntKind.i64 1, Value.string t, Value.int IntKind.i64 n] 23) := ⟨_, rfl⟩
 have hX : Blk W w.heap.size 23 #[.int .i64 1, .string t, .int .i64 n] := by rw [hW]; exact Blk.new _ _ _
 have hB0 : Below w.heap.size w W := by rw [hW]; exact (Below.refl _ _).alloc (Nat.le_refl _) _
 rw [← hW]
 clear hW
 have y0 := (hX.cell 0).trans rfl
 have y1 := (hX.cell 1).trans rfl
 have y2 := (hX.cell 2).trans rfl
 have hxl := hX.lt
 have hT0 := HT.out.below hB0
 have hBk := HB.out.below hB0
 have s1 := (hBk.1.cell 1).trans rfl
 have hbl := hBk.1.lt
 have HX := Lib.hid hX
 have HB0 := Lib.hid hB0
 have HT0 := Lib.hid hT0
 have HBk := Lib.hid hBk
 clear hX hB0 hT0 hBk
 refine wp_region_E (fun w9 => Below W.heap.size W w9) [(0, 0), (1, 0), (2, 0), (3, 1), (4, 1), (5, 2)] (by kernel_rfl) (by kernel_rfl) (fun KK hKK => ?_)
 simp only [beside, List.filterMap_cons, List.filterMap_nil, List.getElem?_toArray, List.getElem?_cons_zero, List.getElem?_cons_succ, Option.map_some]
 repeat (first | (refine wpX_w ?_ (Or.inl ⟨by rfl, fun w9 => ?_⟩) ?_; rotate_left 1; go_simp; with_reducible rfl; go_frame) | (refine wpX_l ?_ (((Below.refl _ _).drew)) (Or.inl ⟨by rfl, fun w9 hw9 => ?_⟩) ?_; rotate_left 1; obtain ⟨hc9, hf9⟩ := bcell hw9; go_simp; with_reducible rfl; go_frame) | (refine wpX_w undef (Or.inr ⟨by rfl, rfl⟩) ?_; go_frame) | (refine wpX_l undef (((Below.refl _ _).drew)) (Or.inr ⟨by rfl, rfl⟩) ?_; go_frame))
 refine wpX_e (by kernel_rfl) (fun K9 hK9 => ?_)
 go_simp
 refine (tPut_Sym ⟨1, t, n⟩ (HT0.out.below ((Below.refl _ _).drew)) HS.out (by omega)).mono ?_
 rintro e w1 ⟨rfl, hch⟩
 have HP1 := Lib.hid hch
 obtain ⟨_, _, _, hM1⟩ := hch
 have hng : ¬ SetMod T.bs (σ T.bs).sn (σ T.bs).A w.heap.size := (by
  rintro (h | ⟨_, a, ha, h⟩)
  · omega
  · have := HA0.out a ha; omega)
 have hX1 := HX.out.drew.fr hM1 hng
 have z0 := (hX1.cell 0).trans rfl
 have z1 := (hX1.cell 1).trans rfl
 have z2 := (hX1.cell 2).trans rfl
 have hxl1 := hX1.lt
 have hBk1 : TabBlk w1 T := TabBlk.kb HBk.out HP1.out.2.1
 have r2 := (hBk1.1.cell 2).trans rfl
 have hbl1 := hBk1.1.lt
 obtain ⟨σ1, hT1, hO1⟩ := HP1.out.1
 have HT1 := Lib.hid hT1
 have HO1 := Lib.hid hO1
 have HX1 := Lib.hid hX1
 have HBk1 := Lib.hid hBk1
 clear hM1 hng hX1 hBk1 hT1 hO1 y0 y1 y2 s1
 refine hK9 _ _ ?_
 clear hK9 K9
 refine wpX_nil ?_
 simp only [OnlyN_normal]
 refine hKK _ _ ?_
 clear hKK KK
 go_wp2_with fail
 refine wp_region_E (fun w9 => Below w1.heap.size w1 w9) [(0, 0), (1, 1), (2, 0), (3, 0), (4, 0), (5, 1), (6, 0), (7, 0), (8, 1), (9, 0), (10, 2), (11, 0), (12, 0)] (by kernel_rfl) (by kernel_rfl) (fun KK hKK => ?_)
 simp only [beside, List.filterMap_cons, List.filterMap_nil, List.getElem?_toArray, List.getElem?_cons_zero, List.getElem?_cons_succ, Option.map_some]
 repeat (first | (refine wpX_w ?_ (Or.inl ⟨by rfl, fun w9 => ?_⟩) ?_; rotate_left 1; go_simp; with_reducible rfl; go_frame) | (refine wpX_l ?_ (((Below.refl _ _).drew)) (Or.inl ⟨by rfl, fun w9 hw9 => ?_⟩) ?_; rotate_left 1; obtain ⟨hc9, hf9⟩ := bcell hw9; go_simp; with_reducible rfl; go_frame) | (refine wpX_w undef (Or.inr ⟨by rfl, rfl⟩) ?_; go_frame) | (refine wpX_l undef (((Below.refl _ _).drew)) (Or.inr ⟨by rfl, rfl⟩) ?_; go_frame))
 refine wpX_es (fun K9 hK9 => ?_)
 go_simp
 refine (next_is T m t[0] (HT1.out.below ((Below.refl _ _).drew)) (HBk1.out.below ((Below.refl _ _).drew)) HP.out hl2).mono ?_
 rintro e w2 ⟨rfl, hb2⟩
 have HB2 := Lib.hid ((Below.refl w1.heap.size w1).drew.trans (hb2.mono (by simp)))
 clear hb2
 refine hK9 _ _ HB2.out ?_
 clear hK9 K9
 repeat (first | (refine wpX_w ?_ (Or.inl ⟨by rfl, fun w9 => ?_⟩) ?_; rotate_left 1; go_simp; with_reducible rfl; go_frame) | (refine wpX_l ?_ (HB2.out) (Or.inl ⟨by rfl, fun w9 hw9 => ?_⟩) ?_; rotate_left 1; obtain ⟨hc9, hf9⟩ := bcell hw9; go_simp; with_reducible rfl; go_frame) | (refine wpX_w undef (Or.inr ⟨by rfl, rfl⟩) ?_; go_frame) | (refine wpX_l undef (HB2.out) (Or.inr ⟨by rfl, rfl⟩) ?_; go_frame))
 refine wpX_nil ?_
 simp only [OnlyN_normal]
 refine hKK _ _ ?_
 clear hKK KK
 go_wp2_with fail
 go_end0
 have hz0 := HB0.out.size
 refine ⟨rfl, ⟨σ1, _, (HT1.out.below HB2.out).noop HP.out, fun k hk ho ho2 => ⟨HO1.out k (by simp; omega) ho, by rw [upd_id _ _ _ HP.out]; exact ho2⟩⟩, ((KB.of_below HB0.out).trans HP1.out.2.1).trans (KB.of_below HB2.out), (((Fr.of_new HB0.out).trans ((Fr.refl _ W).drew.trans HP1.out.2.2.1)).trans (Fr.of_new HB2.out))⟩
set_option maxRecDepth 100000 in
set_option maxHeartbeats 4000000 in
theorem tabput_high (T : TB) (l : List Sym) (m : List Page) (t : ByteArray) (n : Int) (hT : Tabs D w S σ S2 σ2) (hB : TabBlk w T) (hb : S T.bs = some l) (hb2 : S2 T.bp = some m) (ht : t.size = 1) (hc : nextB m (t[0]'(by omega)) ≤ n) (hn1 : 1 ≤ n) (hn2 : n ≤ 1048576) (hl : (l.length : Int) ≤ 1000000) (hl2 : (m.length : Int) ≤ 1000000) :
 Calls Tryz.prog 80 #[.pointer (some ⟨T.b, 0, none⟩), .agg #[.int .i64 1, .string t, .int .i64 n]] w fun e w' => e = .returned (.tuple #[]) ∧ TabPut D w S σ S2 σ2 T (put cmpSym l ⟨1, t, n⟩) (mput m ⟨t[0]'(by omega), n + 1⟩) w' := by
 have hA0 := (hT.syms.at_ T.bs l hb).row_lt
 have hbs := (hT.syms.at_ T.bs l hb).lt
 have HT := Lib.hid hT
 have HB := Lib.hid hB
 have HS := Lib.hid hb
 have HP := Lib.hid hb2
 have HA0 := Lib.hid hA0
 have h0 : 0 < t.size := by omega
 have t1 : decide (nextB m t[0] ≤ n) = true := by simpa using hc
 have v1 : IntKind.i64.wrap (n + 1) = n + 1 := IntWalk.i64_in _ (by omega)
 clear hc
 clear hT hB hb hb2 hA0
 go_enter Tryz.func80, Tryz.ntmps80
 go_wp2_with fail
 obtain ⟨W, hW⟩ : ∃ W, W = w.alloc (Obj.cells #[Value.int IntKind.i64 1, Value.string t, Value.int IntKind.i64 n] 23) := ⟨_, rfl⟩
 have hX : Blk W w.heap.size 23 #[.int .i64 1, .string t, .int .i64 n] := by rw [hW]; exact Blk.new _ _ _
 have hB0 : Below w.heap.size w W := by rw [hW]; exact (Below.refl _ _).alloc (Nat.le_refl _) _
 rw [← hW]
 clear hW
 have y0 := (hX.cell 0).trans rfl
 have y1 := (hX.cell 1).trans rfl
 have y2 := (hX.cell 2).trans rfl
 have hxl := hX.lt
 have hT0 := HT.out.below hB0
 have hBk := HB.out.below hB0
 have s1 := (hBk.1.cell 1).trans rfl
 have hbl := hBk.1.lt
 have HX := Lib.hid hX
 have HB0 := Lib.hid hB0
 have HT0 := Lib.hid hT0
 have HBk := Lib.hid hBk
 clear hX hB0 hT0 hBk
 refine wp_region_E (fun w9 => Below W.heap.size W w9) [(0, 0), (1, 0), (2, 0), (3, 1), (4, 1), (5, 2)] (by kernel_rfl) (by kernel_rfl) (fun KK hKK => ?_)
 simp only [beside, List.filterMap_cons, List.filterMap_nil, List.getElem?_toArray, List.getElem?_cons_zero, List.getElem?_cons_succ, Option.map_some]
 repeat (first | (refine wpX_w ?_ (Or.inl ⟨by rfl, fun w9 => ?_⟩) ?_; rotate_left 1; go_simp; with_reducible rfl; go_frame) | (refine wpX_l ?_ (((Below.refl _ _).drew)) (Or.inl ⟨by rfl, fun w9 hw9 => ?_⟩) ?_; rotate_left 1; obtain ⟨hc9, hf9⟩ := bcell hw9; go_simp; with_reducible rfl; go_frame) | (refine wpX_w undef (Or.inr ⟨by rfl, rfl⟩) ?_; go_frame) | (refine wpX_l undef (((Below.refl _ _).drew)) (Or.inr ⟨by rfl, rfl⟩) ?_; go_frame))
 refine wpX_e (by kernel_rfl) (fun K9 hK9 => ?_)
 go_simp
 refine (tPut_Sym ⟨1, t, n⟩ (HT0.out.below ((Below.refl _ _).drew)) HS.out (by omega)).mono ?_
 rintro e w1 ⟨rfl, hch⟩
 have HP1 := Lib.hid hch
 obtain ⟨_, _, _, hM1⟩ := hch
 have hng : ¬ SetMod T.bs (σ T.bs).sn (σ T.bs).A w.heap.size := (by
  rintro (h | ⟨_, a, ha, h⟩)
  · omega
  · have := HA0.out a ha; omega)
 have hX1 := HX.out.drew.fr hM1 hng
 have z0 := (hX1.cell 0).trans rfl
 have z1 := (hX1.cell 1).trans rfl
 have z2 := (hX1.cell 2).trans rfl
 have hxl1 := hX1.lt
 have hBk1 : TabBlk w1 T := TabBlk.kb HBk.out HP1.out.2.1
 have r2 := (hBk1.1.cell 2).trans rfl
 have hbl1 := hBk1.1.lt
 obtain ⟨σ1, hT1, hO1⟩ := HP1.out.1
 have HT1 := Lib.hid hT1
 have HO1 := Lib.hid hO1
 have HX1 := Lib.hid hX1
 have HBk1 := Lib.hid hBk1
 clear hM1 hng hX1 hBk1 hT1 hO1 y0 y1 y2 s1
 refine hK9 _ _ ?_
 clear hK9 K9
 refine wpX_nil ?_
 simp only [OnlyN_normal]
 refine hKK _ _ ?_
 clear hKK KK
 go_wp2_with fail
 refine wp_region_E (fun w9 => Below w1.heap.size w1 w9) [(0, 0), (1, 1), (2, 0), (3, 0), (4, 0), (5, 1), (6, 0), (7, 0), (8, 1), (9, 0), (10, 2), (11, 0), (12, 0)] (by kernel_rfl) (by kernel_rfl) (fun KK hKK => ?_)
 simp only [beside, List.filterMap_cons, List.filterMap_nil, List.getElem?_toArray, List.getElem?_cons_zero, List.getElem?_cons_succ, Option.map_some]
 repeat (first | (refine wpX_w ?_ (Or.inl ⟨by rfl, fun w9 => ?_⟩) ?_; rotate_left 1; go_simp; with_reducible rfl; go_frame) | (refine wpX_l ?_ (((Below.refl _ _).drew)) (Or.inl ⟨by rfl, fun w9 hw9 => ?_⟩) ?_; rotate_left 1; obtain ⟨hc9, hf9⟩ := bcell hw9; go_simp; with_reducible rfl; go_frame) | (refine wpX_w undef (Or.inr ⟨by rfl, rfl⟩) ?_; go_frame) | (refine wpX_l undef (((Below.refl _ _).drew)) (Or.inr ⟨by rfl, rfl⟩) ?_; go_frame))
 refine wpX_es (fun K9 hK9 => ?_)
 go_simp
 refine (next_is T m t[0] (HT1.out.below ((Below.refl _ _).drew)) (HBk1.out.below ((Below.refl _ _).drew)) HP.out hl2).mono ?_
 rintro e w2 ⟨rfl, hb2⟩
 have HB2 := Lib.hid ((Below.refl w1.heap.size w1).drew.trans (hb2.mono (by simp)))
 clear hb2
 refine hK9 _ _ HB2.out ?_
 clear hK9 K9
 repeat (first | (refine wpX_w ?_ (Or.inl ⟨by rfl, fun w9 => ?_⟩) ?_; rotate_left 1; go_simp; with_reducible rfl; go_frame) | (refine wpX_l ?_ (HB2.out) (Or.inl ⟨by rfl, fun w9 hw9 => ?_⟩) ?_; rotate_left 1; obtain ⟨hc9, hf9⟩ := bcell hw9; go_simp; with_reducible rfl; go_frame) | (refine wpX_w undef (Or.inr ⟨by rfl, rfl⟩) ?_; go_frame) | (refine wpX_l undef (HB2.out) (Or.inr ⟨by rfl, rfl⟩) ?_; go_frame))
 refine wpX_nil ?_
 simp only [OnlyN_normal]
 refine hKK _ _ ?_
 clear hKK KK
 go_wp2_with fail
 have hX2 := HX1.out.new_ HB2.out
 have hT2 := HT1.out.below HB2.out
 have hBk2 := HBk1.out.below HB2.out
 have x0 := (hX2.cell 0).trans rfl
 have x1 := (hX2.cell 1).trans rfl
 have x2 := (hX2.cell 2).trans rfl
 have hxl2 := hX2.lt
 have q2 := (hBk2.1.cell 2).trans rfl
 have hbl2 := hBk2.1.lt
 have HT2 := Lib.hid hT2
 have HBk2 := Lib.hid hBk2
 clear hX2 hT2 hBk2 z0 z1 z2 r2
 refine wp_region_E (fun w9 => Below w2.heap.size w2 w9) [(0, 0), (1, 0), (2, 0), (3, 1), (4, 0), (5, 1), (6, 0), (7, 0), (8, 1), (9, 0), (10, 2)] (by kernel_rfl) (by kernel_rfl) (fun KK hKK => ?_)
 simp only [beside, List.filterMap_cons, List.filterMap_nil, List.getElem?_toArray, List.getElem?_cons_zero, List.getElem?_cons_succ, Option.map_some]
 repeat (first | (refine wpX_w ?_ (Or.inl ⟨by rfl, fun w9 => ?_⟩) ?_; rotate_left 1; go_simp; with_reducible rfl; go_frame) | (refine wpX_l ?_ (((Below.refl _ _).drew)) (Or.inl ⟨by rfl, fun w9 hw9 => ?_⟩) ?_; rotate_left 1; obtain ⟨hc9, hf9⟩ := bcell hw9; go_simp; with_reducible rfl; go_frame) | (refine wpX_w undef (Or.inr ⟨by rfl, rfl⟩) ?_; go_frame) | (refine wpX_l undef (((Below.refl _ _).drew)) (Or.inr ⟨by rfl, rfl⟩) ?_; go_frame))
 refine wpX_e (by kernel_rfl) (fun K9 hK9 => ?_)
 go_simp
 refine (mapput T.bm T.bp m t[0] (n + 1) (HT2.out.below ((Below.refl _ _).drew)) HP.out (HBk2.out.below ((Below.refl _ _).drew)).2 hl2).mono ?_
 rintro e w3 ⟨⟨r3, rfl⟩, h3⟩
 have H3 := Lib.hid h3
 clear h3
 refine hK9 _ _ ?_
 clear hK9 K9
 refine wpX_nil ?_
 simp only [OnlyN_normal]
 refine hKK _ _ ?_
 clear hKK KK
 go_wp2_with fail
 go_end0
 obtain ⟨⟨σ3, h3, h6⟩, h4, h5⟩ := H3.out
 have hz0 := HB0.out.size
 have hz1 := HP1.out.2.2.1.size
 have hz2 := HB2.out.size
 refine ⟨rfl, ⟨σ1, σ3, h3, fun k hk ho ho2 => ⟨HO1.out k (by simp; omega) ho, h6 k (by simp at hz1 ⊢; omega) ho2⟩⟩, (((KB.of_below HB0.out).trans HP1.out.2.1).trans (KB.of_below HB2.out)).trans h4, (((Fr.of_new HB0.out).trans ((Fr.refl _ W).drew.trans HP1.out.2.2.1)).trans (Fr.of_new HB2.out)).trans ((Fr.refl _ w2).drew.trans h5)⟩
theorem tabput (T : TB) (l : List Sym) (m : List Page) (s : Sym) (hT : Tabs D w S σ S2 σ2) (hB : TabBlk w T) (hb : S T.bs = some l) (hb2 : S2 T.bp = some m) (hv : validB s = true) (hl : (l.length : Int) ≤ 1000000) (hl2 : (m.length : Int) ≤ 1000000) :
 Calls Tryz.prog 80 #[.pointer (some ⟨T.b, 0, none⟩), .agg #[.int .i64 s.kind, .string s.text, .int .i64 s.n]] w fun e w' => e = .returned (.tuple #[]) ∧ TabPut D w S σ S2 σ2 T (put cmpSym l s) (tputM m s) w' := by
 obtain ⟨k, t, n⟩ := s
 by_cases hk : k = 1
 · subst hk
   obtain ⟨h1, _, h3, h4⟩ := validB_id hv
   have hi : idc t = t[0] := idc_eq (by omega)
   by_cases hc : nextB m t[0] ≤ n
   · have e : tputM m ⟨1, t, n⟩ = mput m ⟨t[0], n + 1⟩ := by unfold tputM; dsimp only; rw [hi, if_pos ⟨rfl, hc⟩]
     rw [e]
     exact tabput_high T l m t n hT hB hb hb2 h1 hc h3 h4 hl hl2
   · have e : tputM m ⟨1, t, n⟩ = m := by unfold tputM; dsimp only; rw [hi, if_neg (fun h => hc h.2)]
     rw [e]
     exact tabput_low T l m t n hT hB hb hb2 h1 hc hl hl2
 · have e : tputM m ⟨k, t, n⟩ = m := by unfold tputM; dsimp only; rw [if_neg (fun h => hk h.1)]
   rw [e]
   exact tabput_other T l m k t n hT hB hb hb2 hk hl hl2
end
end Go.Proofs.YtpndmjabjjbefaaGreat
