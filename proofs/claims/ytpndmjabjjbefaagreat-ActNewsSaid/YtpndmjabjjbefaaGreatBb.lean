/-
  Texts put together: SymWord, EagerT, SymValid, Scal, LeafName, ShapePlain, Sets, FindSym, OpsSym, PutSym, MiscSym, NewSym, IterBase, Seq, IterSym, ListSym, WorkSym, KitSyms, Act1, Act2, Act4P, RangeP.
-/
import Derived.Test.YtpndmjabjjbefaaGreatBa
import Derived.Deep.Cut
import Derived.Lib.SlBytesRow
import Derived.Test.YtpndmjabjjbefaaGreatRows
import Derived.Maps.RangeWalk
namespace Go.Proofs.YtpndmjabjjbefaaGreat
open Go.RowKit
def smallB (c : UInt8) : Bool := decide (97 ≤ c.toNat) && decide (c.toNat ≤ 122)
def greatB (c : UInt8) : Bool := decide (65 ≤ c.toNat) && decide (c.toNat ≤ 90)
def digitB (c : UInt8) : Bool := decide (48 ≤ c.toNat) && decide (c.toNat ≤ 57)
def partB (c : UInt8) : Bool := smallB c || digitB c || c.toNat == 45 || c.toNat == 95
def isWord (t : ByteArray) : Bool := decide (1 ≤ t.size) && decide (t.size ≤ 32) && t.data.toList.head?.any smallB && t.data.toList.all partB
theorem isWord_iff {t : ByteArray} : isWord t = true ↔ ∃ h : 0 < t.size, t.size ≤ 32 ∧ smallB t[0] = true ∧ ∀ k, (h : k < t.size) → partB t[k] = true := by
 unfold isWord
 rw [Bool.and_eq_true, Bool.and_eq_true, Bool.and_eq_true, decide_eq_true_iff, decide_eq_true_iff, List.all_eq_true]
 have hs : t.data.toList.length = t.size := Array.length_toList
 constructor
 · rintro ⟨⟨⟨h1, h2⟩, h3⟩, h4⟩
   refine ⟨h1, h2, ?_, fun k h => h4 _ ?_⟩
   · rw [List.head?_eq_getElem?, List.getElem?_eq_getElem (by omega)] at h3
     exact (by simpa only [Option.any_some, Array.getElem_toList] using h3 : smallB t.data[0] = true)
   · have : t[k] = t.data.toList[k]'(by omega) := by rw [Array.getElem_toList]; rfl
     rw [this]; exact List.getElem_mem _
 · rintro ⟨h1, h2, h3, h4⟩
   refine ⟨⟨⟨h1, h2⟩, ?_⟩, fun x hx => ?_⟩
   · rw [List.head?_eq_getElem?, List.getElem?_eq_getElem (by omega)]
     rw [Option.any_some, Array.getElem_toList]
     exact h3
   · obtain ⟨k, hk, rfl⟩ := List.getElem_of_mem hx
     have := h4 k (by omega)
     rw [Array.getElem_toList]
     exact this
theorem isWord_no {t : ByteArray} (h : ¬ ∃ h : 0 < t.size, t.size ≤ 32 ∧ smallB t[0] = true ∧ ∀ k, (h : k < t.size) → partB t[k] = true) : isWord t = false := by
 cases e : isWord t
 · rfl
 · exact absurd (isWord_iff.1 e) h
set_option maxHeartbeats 400000 in
theorem small_is (c : UInt8) (w : World) : Calls Tryz.prog 106 #[.int .u8 (c.toNat : Int)] w fun e w' => e = .returned (.bool (smallB c)) ∧ w = w' := by
 by_cases h1 : 97 ≤ c.toNat
 · have t1 : decide ((97 : Int) ≤ (c.toNat : Int)) = true := by simp; omega
   by_cases h2 : c.toNat ≤ 122
   · have t2 : decide ((c.toNat : Int) ≤ 122) = true := by simp; omega
     have HF : Hid (smallB c = true) := by simp [Hid, smallB, h1, h2]
     clear h1 h2
     go_enter Tryz.func106, Tryz.ntmps106
     go_wp2
     go_ret
     exact ⟨by rw [HF.out]; rfl, rfl⟩
   · have t2 : decide ((c.toNat : Int) ≤ 122) = false := by simp; omega
     have HF : Hid (smallB c = false) := by simp [Hid, smallB, h2]
     clear h1 h2
     go_enter Tryz.func106, Tryz.ntmps106
     go_wp2
     go_ret
     exact ⟨by rw [HF.out]; rfl, rfl⟩
 · have t1 : decide ((97 : Int) ≤ (c.toNat : Int)) = false := by simp; omega
   have HF : Hid (smallB c = false) := by simp [Hid, smallB, h1]
   clear h1
   go_enter Tryz.func106, Tryz.ntmps106
   go_wp2
   go_ret
   exact ⟨by rw [HF.out]; rfl, rfl⟩
set_option maxHeartbeats 400000 in
theorem great_is (c : UInt8) (w : World) : Calls Tryz.prog 77 #[.int .u8 (c.toNat : Int)] w fun e w' => e = .returned (.bool (greatB c)) ∧ w = w' := by
 by_cases h1 : 65 ≤ c.toNat
 · have t1 : decide ((65 : Int) ≤ (c.toNat : Int)) = true := by simp; omega
   by_cases h2 : c.toNat ≤ 90
   · have t2 : decide ((c.toNat : Int) ≤ 90) = true := by simp; omega
     have HF : Hid (greatB c = true) := by simp [Hid, greatB, h1, h2]
     clear h1 h2
     go_enter Tryz.func77, Tryz.ntmps77
     go_wp2
     go_ret
     exact ⟨by rw [HF.out]; rfl, rfl⟩
   · have t2 : decide ((c.toNat : Int) ≤ 90) = false := by simp; omega
     have HF : Hid (greatB c = false) := by simp [Hid, greatB, h2]
     clear h1 h2
     go_enter Tryz.func77, Tryz.ntmps77
     go_wp2
     go_ret
     exact ⟨by rw [HF.out]; rfl, rfl⟩
 · have t1 : decide ((65 : Int) ≤ (c.toNat : Int)) = false := by simp; omega
   have HF : Hid (greatB c = false) := by simp [Hid, greatB, h1]
   clear h1
   go_enter Tryz.func77, Tryz.ntmps77
   go_wp2
   go_ret
   exact ⟨by rw [HF.out]; rfl, rfl⟩
set_option maxHeartbeats 400000 in
theorem digit_is (c : UInt8) (w : World) : Calls Tryz.prog 107 #[.int .u8 (c.toNat : Int)] w fun e w' => e = .returned (.bool (digitB c)) ∧ w = w' := by
 by_cases h1 : 48 ≤ c.toNat
 · have t1 : decide ((48 : Int) ≤ (c.toNat : Int)) = true := by simp; omega
   by_cases h2 : c.toNat ≤ 57
   · have t2 : decide ((c.toNat : Int) ≤ 57) = true := by simp; omega
     have HF : Hid (digitB c = true) := by simp [Hid, digitB, h1, h2]
     clear h1 h2
     go_enter Tryz.func107, Tryz.ntmps107
     go_wp2
     go_ret
     exact ⟨by rw [HF.out]; rfl, rfl⟩
   · have t2 : decide ((c.toNat : Int) ≤ 57) = false := by simp; omega
     have HF : Hid (digitB c = false) := by simp [Hid, digitB, h2]
     clear h1 h2
     go_enter Tryz.func107, Tryz.ntmps107
     go_wp2
     go_ret
     exact ⟨by rw [HF.out]; rfl, rfl⟩
 · have t1 : decide ((48 : Int) ≤ (c.toNat : Int)) = false := by simp; omega
   have HF : Hid (digitB c = false) := by simp [Hid, digitB, h1]
   clear h1
   go_enter Tryz.func107, Tryz.ntmps107
   go_wp2
   go_ret
   exact ⟨by rw [HF.out]; rfl, rfl⟩
set_option maxHeartbeats 1000000 in
theorem part_is (c : UInt8) (w : World) : Calls Tryz.prog 91 #[.int .u8 (c.toNat : Int)] w fun e w' => e = .returned (.bool (partB c)) ∧ w = w' := by
 have HF : Hid (partB c = (((decide (97 ≤ c.toNat) && decide (c.toNat ≤ 122)) || (decide (48 ≤ c.toNat) && decide (c.toNat ≤ 57))) || decide (c.toNat = 45) || decide (c.toNat = 95))) := rfl
 have t1 : decide ((97 : Int) ≤ (c.toNat : Int)) = decide (97 ≤ c.toNat) := by apply decide_eq_decide.2; omega
 have t2 : decide ((c.toNat : Int) ≤ 122) = decide (c.toNat ≤ 122) := by apply decide_eq_decide.2; omega
 have t3 : decide ((48 : Int) ≤ (c.toNat : Int)) = decide (48 ≤ c.toNat) := by apply decide_eq_decide.2; omega
 have t4 : decide ((c.toNat : Int) ≤ 57) = decide (c.toNat ≤ 57) := by apply decide_eq_decide.2; omega
 have t5 : ((c.toNat : Int) == 45) = decide (c.toNat = 45) := by rw [Bool.eq_iff_iff]; simp; omega
 have t6 : ((c.toNat : Int) == 95) = decide (c.toNat = 95) := by rw [Bool.eq_iff_iff]; simp; omega
 cases h1 : decide (97 ≤ c.toNat) <;> cases h2 : decide (c.toNat ≤ 122) <;> cases h3 : decide (48 ≤ c.toNat) <;> cases h4 : decide (c.toNat ≤ 57) <;> cases h5 : decide (c.toNat = 45) <;> cases h6 : decide (c.toNat = 95)
 all_goals
  rw [h1] at t1; rw [h2] at t2; rw [h3] at t3; rw [h4] at t4; rw [h5] at t5; rw [h6] at t6
  have HF2 := HF.out
  rw [h1, h2, h3, h4, h5, h6] at HF2
  have HF3 := Lib.hid HF2
  clear h1 h2 h3 h4 h5 h6 HF HF2
  go_enter Tryz.func91, Tryz.ntmps91
  go_wp2
  go_ret
  exact ⟨by rw [HF3.out]; rfl, rfl⟩
set_option maxRecDepth 100000 in
set_option maxHeartbeats 2000000 in
theorem word_is (t : ByteArray) (w : World) : Calls Tryz.prog 81 #[.string t] w fun e w' => e = .returned (.bool (isWord t)) ∧ w = w' := by
 by_cases h1 : t.size < 1
 · have t1 : decide ((t.size : Int) < 1) = true := by simp; omega
   have HF := Lib.hid (isWord_no (t := t) (fun ⟨h, _⟩ => by omega))
   clear h1
   go_enter Tryz.func81, Tryz.ntmps81
   go_wp2
   go_ret
   exact ⟨by rw [HF.out]; rfl, rfl⟩
 have t1 : decide ((t.size : Int) < 1) = false := by simp; omega
 by_cases h2 : 32 < t.size
 · have t2 : decide ((32 : Int) < (t.size : Int)) = true := by simp; omega
   have HF := Lib.hid (isWord_no (t := t) (fun ⟨h, h3, _⟩ => by omega))
   clear h1 h2
   go_enter Tryz.func81, Tryz.ntmps81
   go_wp2
   go_ret
   exact ⟨by rw [HF.out]; rfl, rfl⟩
 have t2 : decide ((32 : Int) < (t.size : Int)) = false := by simp; omega
 have h0 : 0 < t.size := by omega
 have h32 : t.size ≤ 32 := by omega
 clear h1 h2
 cases h3 : smallB t[0]
 · have HF := Lib.hid (isWord_no (t := t) (fun ⟨h, _, h4, _⟩ => by rw [h3] at h4; cases h4))
   go_enter Tryz.func81, Tryz.ntmps81
   go_wp2_with (go_at_call 106; refine (small_is _ _).mono ?_; rintro e w' ⟨rfl, rfl⟩)
   go_ret
   exact ⟨by rw [HF.out]; rfl, rfl⟩
 go_enter Tryz.func81, Tryz.ntmps81
 go_wp2_with (go_at_call 106; refine (small_is _ _).mono ?_; rintro e w' ⟨rfl, rfl⟩)
 have H3 := Lib.hid h3
 clear h3 t1 t2
 go_loop [3] (fun s => ∃ i : Nat, s = .int .i64 i ∧ 1 ≤ i ∧ i ≤ t.size ∧ ∀ k, (h : k < t.size) → k < i → partB t[k] = true) (fun s => t.size - (intOf s).toNat)
 case atStart => exact ⟨1, rfl, Nat.le_refl _, h0, fun k h hk => by obtain rfl : k = 0 := by omega
                                                                    simp [partB, H3.out]⟩
 case round =>
  obtain ⟨i, rfl, hi1, hi, hall⟩ := hrel
  have HALL := Lib.hid hall
  clear hall
  by_cases hlt : i < t.size
  · have HP : Hid (partB t[i] = (smallB t[i] || digitB t[i] || decide (t[i].toNat = 45) || decide (t[i].toNat = 95))) := rfl
    have t5 : ((t[i].toNat : Int) != 45) = !decide (t[i].toNat = 45) := by rw [Bool.eq_iff_iff]; simp; omega
    have t6 : ((t[i].toNat : Int) != 95) = !decide (t[i].toNat = 95) := by rw [Bool.eq_iff_iff]; simp; omega
    cases hs : smallB t[i] <;> cases hd : digitB t[i] <;> cases h5 : decide (t[i].toNat = 45) <;> cases h6 : decide (t[i].toNat = 95)
    all_goals
     rw [h5] at t5; rw [h6] at t6
     simp only [Bool.not_true, Bool.not_false] at t5 t6
     have HF1 := HP.out
     rw [hs, hd, h5, h6] at HF1
     have HF2 := Lib.hid HF1
     clear h5 h6 HP HF1
     go_wp2_with (first | (go_at_call 106; refine (small_is _ _).mono ?_; rintro e w' ⟨rfl, rfl⟩) | (go_at_call 107; refine (digit_is _ _).mono ?_; rintro e w' ⟨rfl, rfl⟩))
     first
      | (go_ret
         refine ⟨?_, rfl⟩
         rw [isWord_no (t := t) (fun ⟨_, _, _, h⟩ => by have h2 := h i hlt; rw [HF2.out] at h2; exact absurd h2 (by decide))]; rfl)
      | (go_round
         case rel => exact ⟨i + 1, by go_num, by omega, by omega, fun k h hk => by
          rcases Nat.lt_or_ge k i with h3 | h3
          · exact HALL.out k h h3
          · obtain rfl : k = i := by omega
            rw [HF2.out]; rfl⟩
         case measure => simp [intOf] <;> omega)
  · have hie : i = t.size := by omega
    subst hie
    go_wp2
    go_ret
    exact ⟨by rw [isWord_iff.2 ⟨h0, h32, H3.out, fun k h => HALL.out k h h⟩]; rfl, rfl⟩
set_option maxRecDepth 100000 in
set_option maxHeartbeats 2000000 in
theorem rword_is (t : ByteArray) (w : World) : Calls Tryz.prog 67 #[.string t] w fun e w' => e = .returned (.bool (isWord t)) ∧ w = w' := by
 by_cases h1 : t.size < 1
 · have t1 : decide ((t.size : Int) < 1) = true := by simp; omega
   have HF := Lib.hid (isWord_no (t := t) (fun ⟨h, _⟩ => by omega))
   clear h1
   go_enter Tryz.func67, Tryz.ntmps67
   go_wp2
   go_ret
   exact ⟨by rw [HF.out]; rfl, rfl⟩
 have t1 : decide ((t.size : Int) < 1) = false := by simp; omega
 by_cases h2 : 32 < t.size
 · have t2 : decide ((32 : Int) < (t.size : Int)) = true := by simp; omega
   have HF := Lib.hid (isWord_no (t := t) (fun ⟨h, h3, _⟩ => by omega))
   clear h1 h2
   go_enter Tryz.func67, Tryz.ntmps67
   go_wp2
   go_ret
   exact ⟨by rw [HF.out]; rfl, rfl⟩
 have t2 : decide ((32 : Int) < (t.size : Int)) = false := by simp; omega
 have h0 : 0 < t.size := by omega
 have h32 : t.size ≤ 32 := by omega
 clear h1 h2
 by_cases h3 : t[0].toNat < 97
 · have t3 : decide ((t[0].toNat : Int) < 97) = true := by simp; omega
   have HF := Lib.hid (isWord_no (t := t) (fun ⟨h, _, h4, _⟩ => by simp [smallB] at h4; omega))
   clear h3
   go_enter Tryz.func67, Tryz.ntmps67
   go_wp2
   go_ret
   exact ⟨by rw [HF.out]; rfl, rfl⟩
 have t3 : decide ((t[0].toNat : Int) < 97) = false := by simp; omega
 by_cases h4 : 122 < t[0].toNat
 · have t4 : decide ((122 : Int) < (t[0].toNat : Int)) = true := by simp; omega
   have HF := Lib.hid (isWord_no (t := t) (fun ⟨h, _, h4, _⟩ => by simp [smallB] at h4; omega))
   clear h3 h4
   go_enter Tryz.func67, Tryz.ntmps67
   go_wp2
   go_ret
   exact ⟨by rw [HF.out]; rfl, rfl⟩
 have t4 : decide ((122 : Int) < (t[0].toNat : Int)) = false := by simp; omega
 have h5 : smallB t[0] = true := by simp [smallB]; omega
 have H5 := Lib.hid h5
 clear h3 h4 h5
 go_enter Tryz.func67, Tryz.ntmps67
 go_wp2
 clear t1 t2 t3 t4
 go_loop [3] (fun s => ∃ i : Nat, s = .int .i64 i ∧ i ≤ t.size ∧ ∀ k, (h : k < t.size) → k < i → partB t[k] = true) (fun s => t.size - (intOf s).toNat)
 case atStart => exact ⟨0, rfl, Nat.zero_le _, fun k h hk => by omega⟩
 case round =>
  obtain ⟨i, rfl, hi, hall⟩ := hrel
  have HALL := Lib.hid hall
  clear hall
  by_cases hlt : i < t.size
  · cases hp : partB t[i]
    · go_wp2_with (go_at_call 91; refine (part_is _ _).mono ?_; rintro e w' ⟨rfl, rfl⟩)
      go_ret
      refine ⟨?_, rfl⟩
      rw [isWord_no (t := t) (fun ⟨_, _, _, h⟩ => by have h2 := h i hlt; rw [hp] at h2; cases h2)]; rfl
    · have HP := Lib.hid hp
      go_wp2_with (go_at_call 91; refine (part_is _ _).mono ?_; rintro e w' ⟨rfl, rfl⟩)
      go_round
      case rel => exact ⟨i + 1, by go_num, by omega, fun k h hk => by
               rcases Nat.lt_or_ge k i with h3 | h3
               · exact HALL.out k h h3
               · obtain rfl : k = i := by omega
                 exact HP.out⟩
      case measure => simp [intOf] <;> omega
  · have hie : i = t.size := by omega
    subst hie
    go_wp2
    go_ret
    exact ⟨by rw [isWord_iff.2 ⟨h0, h32, H5.out, fun k h => HALL.out k h h⟩]; rfl, rfl⟩
end Go.Proofs.YtpndmjabjjbefaaGreat
namespace Go.Proofs.YtpndmjabjjbefaaGreat
section
variable {P : Program} {ops : Array Oper} {Q : Exit → Act → World → Prop} {S : World → Prop}
inductive Pl where
 | fin (l : List (Nat × Cls))
 | fork (l : List (Nat × Cls)) (i : Nat) (r : Pl) (j : Nat) (s : Pl)
def setL (listed : Array Bool) (l : List (Nat × Cls)) : Array Bool := l.foldl (fun g x => g.setIfInBounds x.1 true) listed
def okL (ops : Array Oper) : List (Nat × Cls) → Array Bool → Bool
 | [], _ => true
 | (k, c) :: rest, listed => (if c == 2 then Region.ready .any ops listed == [k] else (Region.ready .any ops listed).contains k && Region.free .any ops listed k) && okL ops rest (listed.setIfInBounds k true)
def chkL (qs ls : List Nat) (l : List (Nat × Cls)) : Bool := l.all fun (k, c) => (c != 2) == qs.contains k && (c != 1 || ls.contains k)
def okPl (ops : Array Oper) (qs ls : List Nat) : Pl → Nat → Array Bool → Bool
 | .fin l, n, listed => n == l.length && chkL qs ls l && okL ops l listed && (Region.ready .any ops (setL listed l)).isEmpty && l.all fun x => x.1 < ops.size
 | .fork l i r j s, n, listed => decide (l.length + 1 ≤ n) && chkL qs ls l && okL ops l listed && (l.all fun x => x.1 < ops.size) && Region.ready .any ops (setL listed l) == [i, j] && !qs.contains i && !qs.contains j &&
  okPl ops qs ls r (n - l.length - 1) ((setL listed l).setIfInBounds i true) && okPl ops qs ls s (n - l.length - 1) ((setL listed l).setIfInBounds j true)
def wpY (P : Program) (ops : Array Oper) (Q : Exit → Act → World → Prop) (S : World → Prop) (ns : Nat → Bool) (R : Act → World → Prop) : List (Nat × Cls × Oper) → Act → World → Prop
 | [], a, w => R a w
 | (i, c, o) :: rest, a, w =>
   if c = 2 then (if Region.wanted o (yielded ops a.tmps) = true then o.wp P a w (fun a' w' => (ns i = true → S w') ∧ wpY P ops Q S ns R rest a' w') Q else (ns i = true → S w) ∧ wpY P ops Q S ns R rest (a.put o.dst undef) w)
   else ∃ v, (if c = 1 then YieldsIf P ops S o v a ∧ S w else Yields P ops o v a) ∧ wpY P ops Q S ns R rest (a.put o.dst v) w
def wpPl (P : Program) (ops : Array Oper) (Q : Exit → Act → World → Prop) (S : World → Prop) (ns : Nat → Bool) : Pl → Act → World → Prop
 | .fin l, a, w => wpY P ops Q S ns (fun a w => Q .normal a w) (beside ops l) a w
 | .fork l i r j s, a, w => wpY P ops Q S ns (fun a w => wpOp P ops Q i (fun a' w' => (ns i = true → S w') ∧ wpPl P ops Q S ns r a' w') a w ∧ wpOp P ops Q j (fun a' w' => (ns j = true → S w') ∧ wpPl P ops Q S ns s a' w') a w) (beside ops l) a w
theorem closed_setL : ∀ (l : List (Nat × Cls)) (listed : Array Bool), Closed ops listed → okL ops l listed = true → Closed ops (setL listed l)
 | [], _, h, _ => h
 | (k, c) :: rest, listed, h, hB => by
   simp only [okL, Bool.and_eq_true] at hB
   refine closed_setL rest _ (closed_ready h ?_) hB.2
   by_cases hc : c = 2
   · subst hc
     have hB1 := hB.1
     simp only [beq_self_eq_true, if_true] at hB1
     have hr : Region.ready .any ops listed = [k] := by simpa using hB1
     rw [hr]; simp
   · have hB1 := hB.1
     rw [if_neg (by simpa using hc)] at hB1
     simp only [Bool.and_eq_true] at hB1
     simpa using hB1.1
theorem wpAnyE_list {qt ns : Nat → Bool} {R : Act → World → Prop} {n : Nat} (hsel : Region.noSelect ops = true) (hQ : ∀ c a a' w, Q (.panic c) a w → Q (.panic c) a' w) :
 ∀ (rest : List (Nat × Cls)) (listed : Array Bool) (a : Act) (w : World), Closed ops listed → okL ops rest listed = true → (∀ x ∈ rest, x.1 < ops.size) →
   (∀ k c, (k, c) ∈ rest → (qt k = true ↔ c ≠ 2)) → (∀ k, (k, 1) ∈ rest → ∀ j, waitsT ops ops.size j k = false → j ≠ k → j < ops.size → ns j = true) →
   (∀ a w, R a w → wpAnyE P ops Q S qt ns n (setL listed rest) a w) → wpY P ops Q S ns R (beside ops rest) a w → wpAnyE P ops Q S qt ns (rest.length + n) listed a w
 | [], listed, a, w, _, _, _, _, _, hR, h => by
   have := hR a w h
   simpa [setL] using this
 | (k, c) :: rest, listed, a, w, hcl, hB, hl, hqt, hns, hR, h => by
   simp only [okL, Bool.and_eq_true] at hB
   obtain ⟨hB1, hB2⟩ := hB
   have hi : k < ops.size := hl (k, c) (by simp)
   have ho : ops[k]? = some ops[k] := Array.getElem?_eq_getElem hi
   have hb : beside ops ((k, c) :: rest) = (k, c, ops[k]) :: beside ops rest := by simp [beside, ho]
   have ih := fun listed' a w hcl' hB' hR' h' => wpAnyE_list (R := R) (n := n) hsel hQ rest listed' a w hcl' hB' (fun x hx => hl x (by simp [hx])) (fun k c hk => hqt k c (by simp [hk])) (fun k hk => hns k (by simp [hk])) hR' h'
   rw [hb] at h
   simp only [wpY] at h
   have hlen : ((k, c) :: rest).length + n = (rest.length + n) + 1 := by simp; omega
   rw [hlen]
   by_cases hc : c = 2
   · subst hc
     simp only [beq_self_eq_true, if_true] at hB1
     have hr : Region.ready .any ops listed = [k] := by simpa using hB1
     simp only [if_true] at h
     have hcl2 := closed_ready hcl (i := k) (by rw [hr]; simp)
     refine ⟨fun h0 => (by rw [hr] at h0; cases h0), fun i hi' => ?_⟩
     rw [hr] at hi'
     obtain rfl : i = k := by simpa using hi'
     have hbh : ∀ w', (ns i = true → S w') → behind S qt ns i w w' := fun w' hs => by
      unfold behind
      rw [if_neg (fun hq => (hqt i 2 (by simp)).1 hq rfl)]
      exact hs
     unfold wpOp
     simp only [ho]
     split
     · rename_i hw
       rw [if_pos hw] at h
       exact .inl (Oper.wp_mono (fun a' w' h' => ⟨hbh w' h'.1, ih _ a' w' hcl2 hB2 hR h'.2⟩) h)
     · rename_i hw
       rw [if_neg hw] at h
       exact ⟨hbh w h.1, ih _ _ w hcl2 hB2 hR h.2⟩
   · rw [if_neg (by simpa using hc)] at hB1
     simp only [Bool.and_eq_true] at hB1
     rw [if_neg hc] at h
     obtain ⟨v, hy, hk⟩ := h
     have hrdy : k ∈ Region.ready .any ops listed := by simpa using hB1.1
     have hrest := ih _ _ w (closed_ready hcl hrdy) hB2 hR hk
     by_cases h1 : c = 1
     · subst h1
       rw [if_pos rfl] at hy
       exact wpAnyE_first ho (Region.noSelect_spec hsel) (fun c a w => hQ c _ _ w) true ((hqt k 1 (by simp)).2 hc) (fun _ => hns k (by simp)) (rest.length + n) listed a w hcl (Region.free_spec ho hB1.2) hrdy
        (hy.1.imp (fun ⟨p, q⟩ => ⟨p, fun w' hw' => q w' (hw' rfl)⟩) id) (fun _ => hy.2) hrest
     · rw [if_neg h1] at hy
       exact wpAnyE_first ho (Region.noSelect_spec hsel) (fun c a w => hQ c _ _ w) false ((hqt k c (by simp)).2 hc) (fun h => by cases h) (rest.length + n) listed a w hcl (Region.free_spec ho hB1.2) hrdy
        (hy.imp (fun ⟨p, q⟩ => ⟨p, fun w' _ => q w'⟩) id) (fun h => by cases h) hrest
theorem wpAnyE_pl {qs ls : List Nat} (hsel : Region.noSelect ops = true) (hQ : ∀ c a a' w, Q (.panic c) a w → Q (.panic c) a' w) (p : Pl) :
 ∀ (n : Nat) (listed : Array Bool) (a : Act) (w : World), Closed ops listed → okPl ops qs ls p n listed = true →
   wpPl P ops Q S (fun j => ls.any fun k => k != j && !waitsT ops ops.size j k) p a w → wpAnyE P ops Q S (fun k => qs.contains k) (fun j => ls.any fun k => k != j && !waitsT ops ops.size j k) n listed a w := by
 have hq : ∀ l, chkL qs ls l = true → ∀ k c, (k, c) ∈ l → (qs.contains k = true ↔ c ≠ 2) := fun l hl k c hk => by
  have := List.all_eq_true.1 hl (k, c) hk
  simp only [Bool.and_eq_true, beq_iff_eq] at this
  rw [← this.1]; simp
 have hn : ∀ l, chkL qs ls l = true → ∀ k, (k, 1) ∈ l → ∀ j, waitsT ops ops.size j k = false → j ≠ k → j < ops.size → (ls.any fun k => k != j && !waitsT ops ops.size j k) = true := fun l hl k hk j hw hjk _ => by
  have := List.all_eq_true.1 hl (k, 1) hk
  simp only [Bool.and_eq_true] at this
  have h2 : ls.contains k = true := by simpa using this.2
  rw [List.any_eq_true]
  exact ⟨k, by simpa using h2, by rw [hw]; simp [Ne.symm hjk]⟩
 induction p with
 | fin l =>
   intro n listed a w hcl hB h
   simp only [okPl, Bool.and_eq_true, beq_iff_eq] at hB
   obtain ⟨⟨⟨⟨rfl, hc⟩, hL⟩, he⟩, hlt⟩ := hB
   have := wpAnyE_list (P := P) (Q := Q) (S := S) (qt := fun k => qs.contains k) (ns := fun j => ls.any fun k => k != j && !waitsT ops ops.size j k) (R := fun a w => Q .normal a w) (n := 0) hsel hQ l listed a w hcl hL (by simpa [List.all_eq_true] using hlt) (hq l hc) (hn l hc)
    (fun a w h => ⟨by simpa using he, h⟩) h
   simpa using this
 | fork l i r j s ihr ihs =>
   intro n listed a w hcl hB h
   simp only [okPl, Bool.and_eq_true, beq_iff_eq, decide_eq_true_eq, Bool.not_eq_true'] at hB
   obtain ⟨⟨⟨⟨⟨⟨⟨⟨hlen, hc⟩, hL⟩, hlt⟩, hrd⟩, hqi⟩, hqj⟩, hr⟩, hs⟩ := hB
   obtain ⟨m, rfl⟩ : ∃ m, n = l.length + (m + 1) := ⟨n - l.length - 1, by omega⟩
   have em : l.length + (m + 1) - l.length - 1 = m := by omega
   rw [em] at hr hs
   have hcl2 := closed_setL l listed hcl hL
   refine wpAnyE_list (P := P) (Q := Q) (S := S) (qt := fun k => qs.contains k) (ns := fun j => ls.any fun k => k != j && !waitsT ops ops.size j k) (n := m + 1) hsel hQ l listed a w hcl hL (by simpa [List.all_eq_true] using hlt) (hq l hc) (hn l hc) (fun a w hR => ?_) h
   refine ⟨fun h0 => (by rw [hrd] at h0; cases h0), fun k hk => ?_⟩
   have hcl3 := closed_ready hcl2 hk
   rw [hrd] at hk
   simp only [List.mem_cons, List.not_mem_nil, or_false] at hk
   rcases hk with rfl | rfl
   · refine wpOp_mono (fun a' w' h' => ⟨?_, ihr m _ a' w' hcl3 hr h'.2⟩) hR.1
     unfold behind
     rw [if_neg (by simp only [hqi]; simp)]
     exact h'.1
   · refine wpOp_mono (fun a' w' h' => ⟨?_, ihs m _ a' w' hcl3 hs h'.2⟩) hR.2
     unfold behind
     rw [if_neg (by simp only [hqj]; simp)]
     exact h'.1
theorem wp_region_Pl {id : Nat} {l : List Oper} {a : Act} {w : World} (S : World → Prop) (qs ls : List Nat) (p : Pl) (hm : P.follows .mixedOrders = true) (hsel : Region.noSelect l.toArray = true)
 (hB : okPl l.toArray qs ls p l.toArray.size (Array.replicate l.toArray.size false) = true)
 (h : ∀ K : Act → World → Prop, (∀ a w, Q .normal a w → K a w) → wpPl P l.toArray (OnlyN K) S (fun j => ls.any fun k => k != j && !waitsT l.toArray l.toArray.size j k) p a w.drew) : (Code.region id l.toArray true).wp P Q a w := by
 refine Code.wp_mono (Q := OnlyN fun a w => Q .normal a w) (fun e a w hq => by cases e <;> first | exact hq | exact hq.elim) (wp_region_any hm ?_)
 have hcl : Closed l.toArray (Array.replicate l.toArray.size false) := fun m o hm => by rw [getD_replicate_false] at hm; cases hm
 exact wpAny_of_E _ _ _ _ (wpAnyE_pl (P := P) (Q := OnlyN fun a w => Q .normal a w) (S := S) hsel (fun c a a' w h => h) p _ _ a w.drew hcl hB (h _ (fun _ _ h => h)))
variable {ns : Nat → Bool} {R : Act → World → Prop} {rest : List (Nat × Cls × Oper)} {a : Act} {w : World} {i : Nat} {o : Oper}
theorem wpY_nil (h : R a w) : wpY P ops Q S ns R [] a w := h
theorem wpY_w (v : Value) (hy : Yields P ops o v a) (h : wpY P ops Q S ns R rest (a.put o.dst v) w) : wpY P ops Q S ns R ((i, 0, o) :: rest) a w := by
 simp only [wpY]
 exact ⟨v, by simpa using hy, h⟩
theorem wpY_l (v : Value) (hS : S w) (hy : YieldsIf P ops S o v a) (h : wpY P ops Q S ns R rest (a.put o.dst v) w) : wpY P ops Q S ns R ((i, 1, o) :: rest) a w := by
 simp only [wpY]
 exact ⟨v, by simpa using ⟨hy, hS⟩, h⟩
theorem wpY_es
 (h : ∀ K : Act → World → Prop, (∀ a w, S w → wpY P ops Q S ns R rest a w → K a w) → if Region.wanted o (yielded ops a.tmps) = true then Oper.wp P o a w K Q else K (a.put o.dst undef) w) : wpY P ops Q S ns R ((i, 2, o) :: rest) a w := by
 have := h (fun a' w' => (ns i = true → S w') ∧ wpY P ops Q S ns R rest a' w') (fun a w h1 h2 => ⟨fun _ => h1, h2⟩)
 simpa only [wpY, if_true] using this
theorem wpOp_cs {C : World → Prop} {H : Act → World → Prop} (ho : ops[i]? = some o)
 (h : ∀ K : Act → World → Prop, (∀ a w, C w → H a w → K a w) → if Region.wanted o (yielded ops a.tmps) = true then Oper.wp P o a w K Q else K (a.put o.dst undef) w) :
 wpOp P ops Q i (fun a' w' => C w' ∧ H a' w') a w := by
 have h2 := h (fun a' w' => C w' ∧ H a' w') (fun a w h1 h2 => ⟨h1, h2⟩)
 unfold wpOp
 simp only [ho]
 split
 · rename_i hw
   rw [if_pos hw] at h2
   exact .inl h2
 · rename_i hw
   rw [if_neg hw] at h2
   exact h2
end
end Go.Proofs.YtpndmjabjjbefaaGreat
namespace Go.Proofs.YtpndmjabjjbefaaGreat
open Go.RowKit
def headB (f : UInt8 → Bool) (t : ByteArray) : Bool := t.data.toList.head?.any f
theorem headB_eq {f : UInt8 → Bool} {t : ByteArray} (h : 0 < t.size) : headB f t = f t[0] := by
 have hs : t.data.toList.length = t.size := Array.length_toList
 unfold headB
 rw [List.head?_eq_getElem?, List.getElem?_eq_getElem (by omega), Option.any_some, Array.getElem_toList]
 rfl
def validB (s : Sym) : Bool :=
 if s.kind = 1 then decide (s.text.size = 1) && headB greatB s.text && decide (1 ≤ s.n) && decide (s.n ≤ 1048576)
 else if s.kind = 2 then decide (s.text.toList = []) && decide (-2147483647 ≤ s.n) && decide (s.n ≤ 2147483647)
 else if s.kind = 3 then decide (s.n = 0) && isWord s.text else false
theorem ret_bool {a b : Bool} (h : a = b) : Ending.returned (.bool a) = .returned (.bool b) := by rw [h]
theorem validB_id {t : ByteArray} {n : Int} (h : validB ⟨1, t, n⟩ = true) : t.size = 1 ∧ headB greatB t = true ∧ 1 ≤ n ∧ n ≤ 1048576 := by
 simp only [validB, if_true, Bool.and_eq_true, decide_eq_true_eq] at h
 exact ⟨h.1.1.1, h.1.1.2, h.1.2, h.2⟩
theorem validB_int {t : ByteArray} {n : Int} (h : validB ⟨2, t, n⟩ = true) : t.toList = [] ∧ -2147483647 ≤ n ∧ n ≤ 2147483647 := by
 simp [validB] at h
 exact ⟨h.1.1, h.1.2, h.2⟩
set_option maxRecDepth 100000 in
set_option maxHeartbeats 4000000 in
theorem valid_is (s : Sym) (w : World) : Calls Tryz.prog 58 #[.agg #[.int .i64 s.kind, .string s.text, .int .i64 s.n]] w fun e w' => e = .returned (.bool (validB s)) ∧ Below w.heap.size w w' := by
 obtain ⟨k, t, n⟩ := s
 dsimp only
 by_cases k1 : k = 1
 · subst k1
   by_cases a1 : t.size = 1
   · have h0 : 0 < t.size := by omega
     have t1 : ((t.size : Int) == 1) = true := by simp; omega
     have HV := Lib.hid (show validB ⟨1, t, n⟩ = (greatB t[0] && decide (1 ≤ n) && decide (n ≤ 1048576)) by simp [validB, a1, headB_eq h0])
     go_enter Tryz.func58, Tryz.ntmps58
     go_wp2_with (go_at_call 77; refine (great_is _ _).mono ?_; rintro e w' ⟨rfl, rfl⟩)
     all_goals
      go_ret
      refine ⟨?_, (Below.refl _ _).alloc (Nat.le_refl _) _⟩
      rw [HV.out]
      first | rfl | (refine ret_bool ?_; simp_all; done) | (refine ret_bool ?_; simp_all; omega) | (refine ret_bool ?_; simp_all [greatB]; done) | (refine ret_bool ?_; simp_all [greatB]; omega)
   · have t1 : ((t.size : Int) == 1) = false := by simp; omega
     have HV := Lib.hid (show validB ⟨1, t, n⟩ = false by simp [validB, a1])
     go_enter Tryz.func58, Tryz.ntmps58
     go_wp2_with fail
     all_goals
      go_ret
      refine ⟨?_, (Below.refl _ _).alloc (Nat.le_refl _) _⟩
      rw [HV.out]
      rfl
 · by_cases k2 : k = 2
   · subst k2
     have HV := Lib.hid (show validB ⟨2, t, n⟩ = (decide (t.toList = []) && decide (-2147483647 ≤ n) && decide (n ≤ 2147483647)) by simp [validB])
     clear k1
     go_enter Tryz.func58, Tryz.ntmps58
     go_wp2_with fail
     all_goals
      go_ret
      refine ⟨?_, (Below.refl _ _).alloc (Nat.le_refl _) _⟩
      rw [HV.out]
      first | rfl | (refine ret_bool ?_; simp_all; done) | (refine ret_bool ?_; simp_all; omega) | (refine ret_bool ?_; simp_all [greatB]; done) | (refine ret_bool ?_; simp_all [greatB]; omega)
   · by_cases k3 : k = 3
     · subst k3
       have HV := Lib.hid (show validB ⟨3, t, n⟩ = (decide (n = 0) && isWord t) by simp [validB])
       clear k1 k2
       go_enter Tryz.func58, Tryz.ntmps58
       go_wp2_with (go_at_call 81; refine (word_is _ _).mono ?_; rintro e w' ⟨rfl, rfl⟩)
       all_goals
        go_ret
        refine ⟨?_, (Below.refl _ _).alloc (Nat.le_refl _) _⟩
        rw [HV.out]
        first | rfl | (refine ret_bool ?_; simp_all; done) | (refine ret_bool ?_; simp_all; omega) | (refine ret_bool ?_; simp_all [greatB]; done) | (refine ret_bool ?_; simp_all [greatB]; omega)
     · have HV := Lib.hid (show validB ⟨k, t, n⟩ = false by simp [validB, k1, k2, k3])
       have t1 : (k == 1) = false := by simp [k1]
       have t2 : (k == 2) = false := by simp [k2]
       have t3 : (k == 3) = false := by simp [k3]
       clear k1 k2 k3
       go_enter Tryz.func58, Tryz.ntmps58
       go_wp2_with fail
       all_goals
        go_ret
        refine ⟨?_, (Below.refl _ _).alloc (Nat.le_refl _) _⟩
        rw [HV.out]
        rfl
set_option maxRecDepth 100000 in
set_option maxHeartbeats 4000000 in
theorem rvalid_is (s : Sym) (w : World) : Calls Tryz.prog 41 #[.agg #[.int .i64 s.kind, .string s.text, .int .i64 s.n]] w fun e w' => e = .returned (.bool (validB s)) ∧ Below w.heap.size w w' := by
 obtain ⟨k, t, n⟩ := s
 dsimp only
 by_cases k1 : k = 1
 · subst k1
   by_cases a1 : t.size = 1
   · have h0 : 0 < t.size := by omega
     have t1 : ((t.size : Int) == 1) = true := by simp; omega
     have HV := Lib.hid (show validB ⟨1, t, n⟩ = (greatB t[0] && decide (1 ≤ n) && decide (n ≤ 1048576)) by simp [validB, a1, headB_eq h0])
     go_enter Tryz.func41, Tryz.ntmps41
     go_wp2_with (fail)
     all_goals
      go_ret
      refine ⟨?_, (Below.refl _ _).alloc (Nat.le_refl _) _⟩
      rw [HV.out]
      first | rfl | (refine ret_bool ?_; simp_all; done) | (refine ret_bool ?_; simp_all; omega) | (refine ret_bool ?_; simp_all [greatB]; done) | (refine ret_bool ?_; simp_all [greatB]; omega)
   · have t1 : ((t.size : Int) == 1) = false := by simp; omega
     have HV := Lib.hid (show validB ⟨1, t, n⟩ = false by simp [validB, a1])
     go_enter Tryz.func41, Tryz.ntmps41
     go_wp2_with fail
     all_goals
      go_ret
      refine ⟨?_, (Below.refl _ _).alloc (Nat.le_refl _) _⟩
      rw [HV.out]
      rfl
 · by_cases k2 : k = 2
   · subst k2
     have HV := Lib.hid (show validB ⟨2, t, n⟩ = (decide (t.toList = []) && decide (-2147483647 ≤ n) && decide (n ≤ 2147483647)) by simp [validB])
     clear k1
     go_enter Tryz.func41, Tryz.ntmps41
     go_wp2_with fail
     all_goals
      go_ret
      refine ⟨?_, (Below.refl _ _).alloc (Nat.le_refl _) _⟩
      rw [HV.out]
      first | rfl | (refine ret_bool ?_; simp_all; done) | (refine ret_bool ?_; simp_all; omega) | (refine ret_bool ?_; simp_all [greatB]; done) | (refine ret_bool ?_; simp_all [greatB]; omega)
   · by_cases k3 : k = 3
     · subst k3
       have HV := Lib.hid (show validB ⟨3, t, n⟩ = (decide (n = 0) && isWord t) by simp [validB])
       clear k1 k2
       go_enter Tryz.func41, Tryz.ntmps41
       go_wp2_with (go_at_call 67; refine (rword_is _ _).mono ?_; rintro e w' ⟨rfl, rfl⟩)
       all_goals
        go_ret
        refine ⟨?_, (Below.refl _ _).alloc (Nat.le_refl _) _⟩
        rw [HV.out]
        first | rfl | (refine ret_bool ?_; simp_all; done) | (refine ret_bool ?_; simp_all; omega) | (refine ret_bool ?_; simp_all [greatB]; done) | (refine ret_bool ?_; simp_all [greatB]; omega)
     · have HV := Lib.hid (show validB ⟨k, t, n⟩ = false by simp [validB, k1, k2, k3])
       have t1 : (k == 1) = false := by simp [k1]
       have t2 : (k == 2) = false := by simp [k2]
       have t3 : (k == 3) = false := by simp [k3]
       clear k1 k2 k3
       go_enter Tryz.func41, Tryz.ntmps41
       go_wp2_with fail
       all_goals
        go_ret
        refine ⟨?_, (Below.refl _ _).alloc (Nat.le_refl _) _⟩
        rw [HV.out]
        rfl
end Go.Proofs.YtpndmjabjjbefaaGreat
namespace Go.Proofs.YtpndmjabjjbefaaGreat
open Go.RowKit
theorem flat_set1 {α : Type} {cells : α → List Value} (hsz : ∀ x, (cells x).length = 1) (_h0 : 0 < 1) (l : List α) (k : Nat) (hk : k < l.length) (y : α) :
 setAll (l.flatMap cells) k (cells y) = (l.set k y).flatMap cells := by
 have h := flat_set hsz (by omega) l k hk y
 rwa [Nat.mul_one] at h
end Go.Proofs.YtpndmjabjjbefaaGreat
namespace Go.Proofs.YtpndmjabjjbefaaGreat
open Go.RowKit
abbrev Name := ByteArray
def Name.cells (n : Name) : List Value := [.string n]
theorem Name.cells_length (n : Name) : (Name.cells n).length = 1 := rfl
def cmpName (a b : Name) : Int := cmpStr a b
theorem tc_name : TC cmpName := tc_str
set_option maxHeartbeats 400000 in
theorem cmp_name (a b : Name) (w : World) : Calls Tryz.prog 167 #[.string a, .string b] w fun e w' => e = .returned (.int .i64 (cmpName a b)) ∧ Below w.heap.size w w' := by
 go_enter Tryz.func167, Tryz.ntmps167
 go_wp2
 all_goals (go_ret; refine ⟨?_, Below.refl _ _⟩; unfold cmpName cmpStr; simp_all)
end Go.Proofs.YtpndmjabjjbefaaGreat
namespace Go.Proofs.YtpndmjabjjbefaaGreat
def zS : Sym := ⟨0, ⟨#[]⟩, 0⟩
def noneB (s : Sym) : Bool := decide (s = zS)
def emptyB (a : AtomT) : Bool := decide (a.var.toList = []) && noneB a.sym
def constB (s : Sym) : Bool := decide (s.kind ≠ 1) && validB s
def testB (t : TestT) : Bool :=
 if t.rel = 8 then decide (t.var.toList = []) && noneB t.sym && decide (1 ≤ t.list.length) && decide (t.list.length ≤ 8) && t.list.all constB
 else if t.rel < 1 ∨ 7 < t.rel ∨ 0 < t.list.length then false
 else if t.var.toList = [] then constB t.sym else isWord t.var && noneB t.sym
def atomB (a : AtomT) : Bool := if a.var.toList = [] then constB a.sym else isWord a.var && noneB a.sym
def condE (c : CondT) (deep : Nat) : Int :=
 if c.kind = 3 then (if c.goal = true ∨ c.id.toList ≠ [] ∨ 0 < c.attr.length ∨ 0 < c.value.length ∨ c.acc = true ∨ c.conds.length = 0 then 9 else if 3 ≤ deep then 8 else 0)
 else if c.kind = 1 ∨ c.kind = 2 then
  (if 0 < c.conds.length ∨ isWord c.id = false ∨ c.attr.length = 0 then 9 else if 4 < c.attr.length ∨ 4 < c.value.length then 7 else if (c.attr.all testB && c.value.all testB) = false then 9 else 0)
 else 9
def wordAB (a : AtomT) : Bool := decide (a.var.toList = []) && decide (a.sym.kind = 3)
def termB (t : TermT) : Bool :=
 if t.op < 0 ∨ 3 < t.op ∨ atomB t.a = false then false
 else if t.op = 0 then emptyB t.b else atomB t.b && !wordAB t.a && !wordAB t.b
def otherB (k : Int) : Bool := decide (k = 8) || decide (k = 9) || decide (k = 10)
def actB (a : ActT) : Bool :=
 if isWord a.id = false ∨ atomB a.attr = false ∨ termB a.value = false ∨ a.pref < 1 ∨ 10 < a.pref then false
 else if otherB a.pref = true then atomB a.other else emptyB a.other
def flatC : Nat → Nat → List CondT → List (Nat × CondT)
 | 0, _, _ => []
 | n + 1, d, l => l.flatMap fun c => (d, c) :: flatC n (d + 1) c.conds
def shapeP (n : Nat) (p : ProdT) : Int × Int :=
 if isWord p.name = false then (-1, 2)
 else if (flatC n 0 p.conds).length < 1 ∨ 16 < (flatC n 0 p.conds).length ∨ p.acts.length < 1 ∨ 16 < p.acts.length then (-1, 7)
 else match (flatC n 0 p.conds).findIdx? (fun c => decide (condE c.2 c.1 ≠ 0)) with
  | some k => (k, (((flatC n 0 p.conds)[k]?).map fun c => condE c.2 c.1).getD 0)
  | none => match p.acts.findIdx? (fun a => !actB a) with
    | some i => ((flatC n 0 p.conds).length + i, 9)
    | none => (-1, 0)
abbrev Kn := List ByteArray × List ByteArray
def metK (k : Kn) (v : ByteArray) : Kn := (put cmpName k.1 v, if has cmpName k.1 v = true then k.2 else k.2 ++ [v])
def hasK (k : Kn) (v : ByteArray) : Bool := has cmpName k.1 v
def fieldK : Kn → List TestT → Bool × Kn
 | k, [] => (true, k)
 | k, t :: l => if t.rel = 8 ∨ t.var.toList = [] then fieldK k l else if t.rel = 1 then fieldK (metK k t.var) l else if hasK k t.var = true then fieldK k l else (false, k)
def oneK (k : Kn) (c : CondT) : Bool × Kn :=
 let k1 := if c.goal = true then metK k c.id else k
 if hasK k1 c.id = true then (match fieldK k1 c.attr with | (true, k2) => fieldK k2 c.value | (false, k2) => (false, k2)) else (false, k1)
def condsK : Nat → Kn → List CondT → Int → Bool × Int × Kn
 | 0, k, _, at_ => (true, at_, k)
 | _ + 1, k, [], at_ => (true, at_, k)
 | n + 1, k, c :: l, at_ =>
   if c.kind = 3 then
    (match condsK n (k.1, []) c.conds (at_ + 1) with
     | (true, a2, _) => condsK (n + 1) k l a2
     | (false, a2, _) => (false, a2, k))
   else
    (match oneK (if c.kind = 1 then k else (k.1, [])) c with
     | (true, k2) => condsK (n + 1) (if c.kind = 1 then k2 else k) l (at_ + 1)
     | (false, _) => (false, at_, k))
termination_by n _ l _ => (n, l.length)
def lacksB (k : Kn) (a : AtomT) : Bool := decide (a.var.toList ≠ []) && !hasK k a.var
def actV (k : Kn) (a : ActT) : Bool := lacksB k a.attr || (decide (a.value.op ≠ 0) && (lacksB k a.value.a || lacksB k a.value.b))
def checkP (n : Nat) (p : ProdT) : Int × Int × List ByteArray :=
 if (shapeP n p).2 ≠ 0 then ((shapeP n p).1, (shapeP n p).2, [])
 else if (p.conds.head?.map CondT.kind).getD 0 ≠ 1 then (0, 9, [])
 else match condsK n ([], []) p.conds 0 with
  | (false, a, _) => (a, 6, [])
  | (true, a, k) => match p.acts.findIdx? (actV k) with
    | some i => (a + i, 6, [])
    | none => (-1, 0, k.2)
end Go.Proofs.YtpndmjabjjbefaaGreat
namespace Go.Proofs.YtpndmjabjjbefaaGreat
open Go.RowKit
structure St where
 sn : Bool
 A : Option Addr
 c : Nat
def upd {β : Type} (S : Nat → β) (b : Nat) (l : β) : Nat → β := fun k => if k = b then l else S k
theorem upd_same {β : Type} (S : Nat → β) (b : Nat) (l : β) : upd S b l b = l := by simp [upd]
theorem upd_ne {β : Type} (S : Nat → β) {b k : Nat} (l : β) (h : k ≠ b) : upd S b l k = S k := by simp [upd, h]
theorem upd_upd {β : Type} (S : Nat → β) (b : Nat) (l l' : β) : upd (upd S b l) b l' = upd S b l' := by funext k; simp only [upd]; split <;> rfl
theorem upd_id {β : Type} (S : Nat → β) (b : Nat) (l : β) (h : S b = l) : upd S b l = S := by funext k; simp only [upd]; split <;> simp_all
structure Sets {α : Type} (tSet tE size : Nat) (cells : α → List Value) (cmp : α → α → Int) (D : Nat → Prop) (w : World) (S : Nat → Option (List α)) (σ : Nat → St) : Prop where
 at_ : ∀ b l, S b = some l → SetAt tSet tE size cells w b (σ b).sn (σ b).A (σ b).c l
 srt : ∀ b l, S b = some l → Srt cmp l
 out : ∀ b l, S b = some l → ¬ D b ∧ ((σ b).sn = false → AIn (σ b).A (fun k => ¬ D k))
 apart : ∀ b l b' l', S b = some l → S b' = some l' → b ≠ b' → (σ b).sn = false → ∀ a a', (σ b).A = some a → (σ b').A = some a' → a.block ≠ a'.block
 low : ∀ k, D k → k < w.heap.size
section
variable {α : Type} {tSet tE size : Nat} {cells : α → List Value} {cmp : α → α → Int} {D D' : Nat → Prop} {w w' : World} {S : Nat → Option (List α)} {σ : Nat → St} {b b' : Nat} {l l' : List α}
theorem SetAt.far {sn : Bool} {A : Option Addr} {c : Nat} (h : SetAt tSet tE size cells w b sn A c l) {sn' : Bool} {A' : Option Addr} {c' : Nat} (h' : SetAt tSet tE size cells w b' sn' A' c' l') (hne : tE ≠ tSet) : AIn A (· ≠ b') := by
 intro a e hb
 have := own_blk_ne h.row h'.blk hne
 subst e
 exact this (by simp [Value.ownBlock, hb])
theorem Sets.start (tSet tE size : Nat) (cells : α → List Value) (cmp : α → α → Int) (w : World) : Sets tSet tE size cells cmp (· < w.heap.size) w (fun _ => none) (fun _ => ⟨false, none, 0⟩) :=
 ⟨fun _ _ h => by simp at h, fun _ _ h => by simp at h, fun _ _ h => by simp at h, fun _ _ _ _ h => by simp at h, fun _ h => h⟩
theorem Sets.lt (h : Sets tSet tE size cells cmp D w S σ) (hb : S b = some l) : b < w.heap.size := (h.at_ b l hb).lt
theorem Sets.below (h : Sets tSet tE size cells cmp D w S σ) (hw : Below w.heap.size w w') : Sets tSet tE size cells cmp D w' S σ :=
 ⟨fun b l hb => (h.at_ b l hb).new_ hw, h.srt, h.out, h.apart, fun k hk => Nat.lt_of_lt_of_le (h.low k hk) hw.size⟩
theorem Sets.weaken (h : Sets tSet tE size cells cmp D w S σ) (hD : ∀ k, D' k → D k) : Sets tSet tE size cells cmp D' w S σ :=
 ⟨h.at_, h.srt, fun b l hb => ⟨fun hk => (h.out b l hb).1 (hD _ hk), fun hs => ((h.out b l hb).2 hs).mono (fun _ hk hd => hk (hD _ hd))⟩, h.apart, fun k hk => h.low k (hD k hk)⟩
theorem Sets.widen (h : Sets tSet tE size cells cmp D w S σ) (n : Nat) (hn : ∀ b l, S b = some l → b < n ∧ ((σ b).sn = false → AIn (σ b).A (· < n))) : Sets tSet tE size cells cmp (fun k => D k ∨ (n ≤ k ∧ k < w.heap.size)) w S σ :=
 ⟨h.at_, h.srt, fun b l hb => ⟨fun hk => by
  rcases hk with hk | hk
  · exact (h.out b l hb).1 hk
  · have := (hn b l hb).1; omega, fun hs a ha hk => by
  rcases hk with hk | hk
  · exact (h.out b l hb).2 hs a ha hk
  · have := (hn b l hb).2 hs a ha; omega⟩, h.apart, fun k hk => by
  rcases hk with hk | hk
  · exact h.low k hk
  · exact hk.2⟩
theorem Sets.protect (h : Sets tSet tE size cells cmp D w S σ) (hw : Below w.heap.size w w') : Sets tSet tE size cells cmp (fun k => D k ∨ (w.heap.size ≤ k ∧ k < w'.heap.size)) w' S σ :=
 (h.below hw).widen w.heap.size (fun b l hb => ⟨h.lt hb, fun _ => (h.at_ b l hb).row_lt⟩)
theorem Sets.mod (h : Sets tSet tE size cells cmp D w S σ) (hb : S b = some l) (hF : Fr (SetMod b (σ b).sn (σ b).A) w w') : Fr (fun k => ¬ D k) w w' :=
 hF.mono (fun k _ hk => by
  rcases hk with rfl | ⟨hs, a, ha, rfl⟩
  · exact (h.out _ l hb).1
  · exact (h.out b l hb).2 hs a ha)
theorem Sets.moved (h : Sets tSet tE size cells cmp D w S σ) (hne : tE ≠ tSet) (hb : S b = some l) {sn' : Bool} {A' : Option Addr} {c' : Nat} (h1 : SetAt tSet tE size cells w' b sn' A' c' l') (hs : Srt cmp l')
 (hF : Fr (SetMod b (σ b).sn (σ b).A) w w') (hM : Moved w (σ b).sn (σ b).A sn' A') : Sets tSet tE size cells cmp D w' (upd S b (some l')) (upd σ b ⟨sn', A', c'⟩) := by
 have hB := h.at_ b l hb
 refine ⟨fun k m hk => ?_, fun k m hk => ?_, fun k m hk => ?_, fun k m k' m' hk hk' hkk hsk a a' ha ha' => ?_, fun k hk => Nat.lt_of_lt_of_le (h.low k hk) hF.size⟩
 · by_cases e : k = b
   · subst e; rw [upd_same] at hk ⊢; cases hk; exact h1
   · rw [upd_ne _ _ e] at hk ⊢
     have hK := h.at_ k m hk
     refine hK.fr hF ?_ ?_
     · rintro (hx | ⟨hx, a, ha, hx2⟩)
       · exact e hx
       · exact hB.far hK hne a ha hx2
     · intro a ha hx
       rcases hx with hx | ⟨hx, a2, ha2, hx2⟩
       · exact hK.far hB hne a ha hx
       · exact h.apart b l k m hb hk (Ne.symm e) hx a2 a ha2 ha hx2
 · by_cases e : k = b
   · subst e; rw [upd_same] at hk; cases hk; exact hs
   · rw [upd_ne _ _ e] at hk; exact h.srt k m hk
 · by_cases e : k = b
   · subst e; rw [upd_same] at hk ⊢; cases hk
     refine ⟨(h.out _ _ hb).1, fun hs2 => ?_⟩
     rcases hM with ⟨e1, e2⟩ | ⟨_, g, hg, e2⟩
     · simp only at hs2 ⊢; rw [e2]; exact (h.out _ _ hb).2 (by rw [← e1]; exact hs2)
     · simp only; rw [e2]; intro a ha hd; cases ha; have := h.low _ hd; simp at this; omega
   · rw [upd_ne _ _ e] at hk ⊢; exact h.out k m hk
 · by_cases e : k = b
   · subst e
     have e' : k' ≠ k := Ne.symm hkk
     rw [upd_ne _ _ e'] at hk' ha'
     rw [upd_same] at hsk ha
     simp only at hsk ha
     rcases hM with ⟨e1, e2⟩ | ⟨_, g, hg, e2⟩
     · exact h.apart k l k' m' hb hk' hkk (by rw [← e1]; exact hsk) a a' (by rw [← e2]; exact ha) ha'
     · rw [e2] at ha; cases ha
       have := (h.at_ k' m' hk').row_lt a' ha'
       simp only; omega
   · rw [upd_ne _ _ e] at hk hsk ha
     by_cases e2 : k' = b
     · subst e2
       rw [upd_same] at ha'
       simp only at ha'
       rcases hM with ⟨_, e3⟩ | ⟨_, g, hg, e3⟩
       · exact h.apart k m k' l hk hb hkk hsk a a' ha (by rw [← e3]; exact ha')
       · rw [e3] at ha'; cases ha'
         have := (h.at_ k m hk).row_lt a ha
         simp only; omega
     · rw [upd_ne _ _ e2] at hk' ha'
       exact h.apart k m k' m' hk hk' hkk hsk a a' ha ha'
theorem Sets.seen (h : Sets tSet tE size cells cmp D w S σ) (hne : tE ≠ tSet) (hb : S b = some l) (h1 : SetAt tSet tE size cells w' b true (σ b).A (σ b).c l) (hF : Fr (· = b) w w') :
 Sets tSet tE size cells cmp D w' S (upd σ b ⟨true, (σ b).A, (σ b).c⟩) := by
 have hB := h.at_ b l hb
 refine ⟨fun k m hk => ?_, h.srt, fun k m hk => ?_, fun k m k' m' hk hk' hkk hsk a a' ha ha' => ?_, fun k hk => Nat.lt_of_lt_of_le (h.low k hk) hF.size⟩
 · by_cases e : k = b
   · subst e; rw [upd_same]; rw [hb] at hk; cases hk; exact h1
   · rw [upd_ne _ _ e]
     exact (h.at_ k m hk).fr hF e (fun a ha hx => (h.at_ k m hk).far hB hne a ha hx)
 · refine ⟨(h.out k m hk).1, fun hs => ?_⟩
   by_cases e : k = b
   · subst e; rw [upd_same] at hs; cases hs
   · rw [upd_ne _ _ e] at hs ⊢; exact (h.out k m hk).2 hs
 · by_cases e : k = b
   · subst e; rw [upd_same] at hsk; cases hsk
   · rw [upd_ne _ _ e] at hsk ha
     by_cases e2 : k' = b
     · subst e2; rw [upd_same] at ha'; exact h.apart k m k' m' hk hk' hkk hsk a a' ha ha'
     · rw [upd_ne _ _ e2] at ha'; exact h.apart k m k' m' hk hk' hkk hsk a a' ha ha'
theorem Sets.add (h : Sets tSet tE size cells cmp D w S σ) {k : Nat} {sn' : Bool} {A' : Option Addr} {c' : Nat} (hk : w.heap.size ≤ k) (h1 : SetAt tSet tE size cells w' k sn' A' c' l') (hs : Srt cmp l')
 (hA : AIn A' (w.heap.size ≤ ·) ∨ (sn' = true ∧ ∃ b l, S b = some l ∧ (σ b).sn = true ∧ (σ b).A = A')) (hF : Below w.heap.size w w') : Sets tSet tE size cells cmp D w' (upd S k (some l')) (upd σ k ⟨sn', A', c'⟩) := by
 have hnk : ∀ b l, S b = some l → b ≠ k := fun b l hb e => by have := h.lt hb; omega
 refine ⟨fun b m hb => ?_, fun b m hb => ?_, fun b m hb => ?_, fun b m b' m' hb hb' hkk hsk a a' ha ha' => ?_, fun k hk => Nat.lt_of_lt_of_le (h.low k hk) hF.size⟩
 · by_cases e : b = k
   · subst e; rw [upd_same] at hb ⊢; cases hb; exact h1
   · rw [upd_ne _ _ e] at hb ⊢; exact (h.at_ b m hb).new_ hF
 · by_cases e : b = k
   · subst e; rw [upd_same] at hb; cases hb; exact hs
   · rw [upd_ne _ _ e] at hb; exact h.srt b m hb
 · by_cases e : b = k
   · subst e; rw [upd_same] at hb ⊢; cases hb
     refine ⟨fun hd => by have := h.low _ hd; omega, fun hs2 a ha hd => ?_⟩
     have h3 := h.low _ hd
     rcases hA with hA | ⟨hA, _⟩
     · have := hA a ha; omega
     · simp only at hs2; rw [hA] at hs2; cases hs2
   · rw [upd_ne _ _ e] at hb ⊢; exact h.out b m hb
 · by_cases e : b = k
   · subst e
     rw [upd_ne _ _ (Ne.symm hkk)] at hb' ha'
     rw [upd_same] at hsk ha
     simp only at hsk ha
     have h3 := (h.at_ b' m' hb').row_lt a' ha'
     rcases hA with hA | ⟨hA, _⟩
     · have := hA a ha; omega
     · rw [hA] at hsk; cases hsk
   · rw [upd_ne _ _ e] at hb hsk ha
     have h3 := (h.at_ b m hb).row_lt a ha
     by_cases e2 : b' = k
     · subst e2
       rw [upd_same] at ha'
       simp only at ha'
       rcases hA with hA | ⟨_, b2, l2, hb2, hs2, hA⟩
       · have := hA a' ha'; omega
       · by_cases e3 : b = b2
         · subst e3; rw [hsk] at hs2; cases hs2
         · exact h.apart b m b2 l2 hb hb2 e3 hsk a a' ha (hA.trans ha')
     · rw [upd_ne _ _ e2] at hb' ha'
       exact h.apart b m b' m' hb hb' hkk hsk a a' ha ha'
end
end Go.Proofs.YtpndmjabjjbefaaGreat
namespace Go.Proofs.YtpndmjabjjbefaaGreat
open Go.RowKit
abbrev SymSet := SetAt (α := Sym) 131 23 3 Sym.cells
theorem nilAhead_Sym (k0 : Int) (k1 : ByteArray) (k2 : Int) (w : World) : (nilAhead 310 23 (.agg #[.int .i64 k0, .string k1, .int .i64 k2]) "Compare").run Tryz.prog w = .ok (some false) w := by kernel_rfl
theorem method_Sym (k0 : Int) (k1 : ByteArray) (k2 : Int) (w : World) : (method 310 23 (.agg #[.int .i64 k0, .string k1, .int .i64 k2]) "Compare").run Tryz.prog w = .ok (152, .agg #[.int .i64 k0, .string k1, .int .i64 k2]) w := by kernel_rfl
def FoundSym (l : List Sym) (x : Sym) (w : World) (e : Ending) (w' : World) : Prop :=
 e = .returned (.tuple #[.int .i64 (rank cmpSym l x), .bool (has cmpSym l x)]) ∧ Below w.heap.size w w'
set_option maxRecDepth 100000 in
set_option maxHeartbeats 4000000 in
theorem find_Sym (b c : Nat) (sn : Bool) (A : Option Addr) (l : List Sym) (x : Sym) (w : World) (hS : SymSet w b sn A c l) (hs : Srt cmpSym l) (hl : (l.length : Int) ≤ 4611686018427387904) :
 Calls Tryz.prog 90 #[.pointer (some ⟨b, 0, none⟩), .agg #[.int .i64 x.kind, .string x.text, .int .i64 x.n]] w (FoundSym l x w) := by
 have hrd := hS.rd Sym.cells_length
 have h0 := hS.cell0
 have hb := hS.lt
 clear hS
 have HS := Lib.hid hs
 have HRD := Lib.hid hrd
 clear hs hrd
 go_enter Tryz.func90, Tryz.ntmps90
 go_wp2_with fail
 go_quiet (fail)
 go_wp2_with fail
 obtain ⟨W0, hW0⟩ : ∃ W0, W0 = ((w.alloc (Obj.cells #[Value.int IntKind.i64 x.kind, Value.string x.text, Value.int IntKind.i64 x.n] 23)).drewN nq) := ⟨_, rfl⟩
 have hB0 : Below w.heap.size w W0 := by rw [hW0]; exact Below.drewN' ((Below.refl _ _).alloc (Nat.le_refl _) _) _
 have hx0 : W0.cell? ⟨w.heap.size, 0, none⟩ = some (.int .i64 x.kind) := by rw [hW0]; go_simp
 have hx1 : W0.cell? ⟨w.heap.size, 1, none⟩ = some (.string x.text) := by rw [hW0]; go_simp
 have hx2 : W0.cell? ⟨w.heap.size, 2, none⟩ = some (.int .i64 x.n) := by rw [hW0]; go_simp
 rw [← hW0]
 clear hW0
 have HB0 := Lib.hid hB0
 clear hB0
 go_loopw [6, 7] (fun lo hi wr => ∃ i j : Nat, lo = .int .i64 i ∧ hi = .int .i64 j ∧ i ≤ j ∧ j ≤ l.length ∧ (∀ k, (h : k < l.length) → k < i → cmpSym l[k] x < 0) ∧ (∀ k, (h : k < l.length) → j ≤ k → 0 < cmpSym l[k] x) ∧ Below W0.heap.size W0 wr) (fun lo hi wr => (intOf hi).toNat - (intOf lo).toNat)
 case atStart => exact ⟨0, l.length, rfl, rfl, Nat.zero_le _, Nat.le_refl _, fun k _ h => absurd h (by omega), fun k h h' => absurd h (by omega), Below.refl _ _⟩
 case round =>
  obtain ⟨i, j, rfl, rfl, hij, hj, hlo, hhi, hB⟩ := hrel
  have HLO := Lib.hid hlo
  have HHI := Lib.hid hhi
  clear hlo hhi
  have hsz : w.heap.size < W0.heap.size := World.block_lt_of_cell? W0 _ hx0
  by_cases hlt : i < j
  · obtain ⟨m, hm⟩ : ∃ m, m = i + (j - i) / 2 := ⟨_, rfl⟩
    have hml : m < l.length := by omega
    have hmj : m < j := by omega
    have hmi : i ≤ m := by omega
    have e1 : ((i : Int) + ((j : Int) - (i : Int)) / 2) = (m : Int) := by omega
    have E1 := Lib.hid e1
    clear e1 hm
    obtain ⟨g, off, rfl, hgs, hcell⟩ := HRD.out.at_ hml
    have low : ∀ (p : Addr), p.block < w.heap.size → wr.cell? p = w.cell? p := fun p hp => (hB.cell (p := p) (by omega)).trans (HB0.out.cell (p := p) hp)
    have r0 := (low ⟨b, 0, none⟩ hb).trans h0
    have q0 := (low ⟨g, off + m * 3, none⟩ hgs).trans (hcell 0 _ rfl)
    have q1 := (low ⟨g, off + m * 3 + 1, none⟩ hgs).trans (hcell 1 _ rfl)
    have q2 := (low ⟨g, off + m * 3 + 2, none⟩ hgs).trans (hcell 2 _ rfl)
    have y0 := (hB.cell (p := ⟨w.heap.size, 0, none⟩) hsz).trans hx0
    have y1 := (hB.cell (p := ⟨w.heap.size, 1, none⟩) hsz).trans hx1
    have y2 := (hB.cell (p := ⟨w.heap.size, 2, none⟩) hsz).trans hx2
    have b1 : (0 : Int) ≤ (m : Int) := by omega
    have b2 : (m : Int) < (l.length : Int) := by omega
    have hsw : W0.heap.size ≤ wr.heap.size := hB.size
    have N := nilAhead_Sym
    have M := method_Sym
    clear low hcell hx0 hx1 hx2 h0
    have HB := Lib.hid hB
    clear hB
    obtain ⟨y, hy⟩ : ∃ y, y = l[m] := ⟨_, rfl⟩
    rw [← hy] at q0 q1 q2
    have HY := Lib.hid hy
    clear hy
    have hbw : b < wr.heap.size := by omega
    have hgw : g < wr.heap.size := by omega
    have hww : w.heap.size < wr.heap.size := by omega
    go_wp2_with fail
    rw [E1.out]
    go_region_held3 (fun w' => w'.cell? ⟨b, 0, none⟩ = some (.slice (some ⟨g, off, none⟩) l.length c) ∧ w'.cell? ⟨g, off + m * 3, none⟩ = some (.int .i64 y.kind) ∧ w'.cell? ⟨g, off + m * 3 + 1, none⟩ = some (.string y.text) ∧ w'.cell? ⟨g, off + m * 3 + 2, none⟩ = some (.int .i64 y.n) ∧ w'.cell? ⟨w.heap.size, 0, none⟩ = some (.int .i64 x.kind) ∧ w'.cell? ⟨w.heap.size, 1, none⟩ = some (.string x.text) ∧ w'.cell? ⟨w.heap.size, 2, none⟩ = some (.int .i64 x.n))
     (first | go_keep | (refine ⟨?_, ?_, ?_, ?_, ?_, ?_, ?_⟩ <;> exact (hb1.cell (by simpa using by assumption)).trans (by simp [*])))
     ((go_at_call 152; refine (cmp_sym y x _).mono ?_; rintro e w1 ⟨rfl, hb1⟩))
    have HB1 : Below W0.heap.size W0 w1 := HB.out.drew.trans (hb1.mono hsw)
    clear r0 q0 q1 q2 y0 y1 y2 N M
    by_cases hc : cmpSym y x = 0
    · have HC := Lib.hid hc
      have t1 : (cmpSym y x == 0) = true := by simp [hc]
      clear hc
      go_wp2_with fail
      go_ret2
      have e := HC.out
      rw [HY.out] at e
      refine ⟨?_, HB0.out.trans (HB1.mono (by omega))⟩
      rw [rank_some tc_sym HS.out hml e, (at_some tc_sym HS.out hml e).2.2.1]
      rfl
    · have t1 : (cmpSym y x == 0) = false := by simp [hc]
      by_cases hc2 : cmpSym y x < 0
      · have HC := Lib.hid hc2
        have t2 : decide (cmpSym y x < 0) = true := by simpa using hc2
        clear hc hc2
        go_wp2_with fail
        go_roundw
        case rel =>
         refine ⟨m + 1, j, by go_num, rfl, by omega, hj, fun k h1 h2 => ?_, HHI.out, HB1⟩
         have e := HC.out
         rw [HY.out] at e
         rcases Nat.lt_or_ge k m with h3 | h3
         · exact tc_sym.lt_of_lt_of_le (HS.out.lt h3 hml) (by omega)
         · obtain rfl : k = m := by omega
           exact e
        case measure => simp [intOf]; omega
      · have t2 : decide (cmpSym y x < 0) = false := by simpa using hc2
        have hc3 : 0 < cmpSym y x := by omega
        have HC := Lib.hid hc3
        clear hc hc2 hc3
        go_wp2_with fail
        go_roundw
        case rel =>
         refine ⟨i, m, rfl, rfl, by omega, by omega, HLO.out, fun k h1 h2 => ?_, HB1⟩
         have e := HC.out
         rw [HY.out] at e
         rcases Nat.lt_or_ge m k with h3 | h3
         · exact (tc_sym.symm _ _).1 (tc_sym.lt_trans ((tc_sym.symm _ _).2 e) (HS.out.lt h3 h1))
         · obtain rfl : k = m := by omega
           exact e
        case measure => simp [intOf]; omega
  · obtain rfl : i = j := by omega
    have HB := Lib.hid hB
    clear hB
    go_wp2_with fail
    go_ret2
    refine ⟨?_, HB0.out.trans (HB.out.mono (by omega))⟩
    rw [rank_none hj HLO.out HHI.out, (at_none HLO.out HHI.out).2.2]
    rfl
end Go.Proofs.YtpndmjabjjbefaaGreat
namespace Go.Proofs.YtpndmjabjjbefaaGreat
open Go.RowKit
theorem info_Sym : (Tryz.prog.info? 23).map (fun i => (i.zero, i.size, i.bytes)) = some (some (.agg #[.int .i64 0, .string ⟨#[]⟩, .int .i64 0]), 3, 32) := by kernel_rfl
theorem Sym.one (x : Sym) : ∀ u ∈ Sym.cells x, u.oneCell' = true := by intro u hu; simp [Sym.cells] at hu; rcases hu with rfl | rfl | rfl <;> rfl
theorem Sym.oneAll (l : List Sym) : ∀ u ∈ l.flatMap Sym.cells, u.oneCell' = true := by intro u hu; obtain ⟨x, _, hx⟩ := List.mem_flatMap.1 hu; exact Sym.one x u hx
def OwnPostSym (w : World) (b : Nat) (sn : Bool) (A : Option Addr) (l : List Sym) (e : Ending) (w' : World) : Prop :=
 e = .returned (.tuple #[]) ∧ ∃ A' c', SymSet w' b false A' c' l ∧ Fr (· = b) w w' ∧ Moved w sn A false A'
set_option maxRecDepth 100000 in
set_option maxHeartbeats 1000000 in
theorem own_no_Sym (b c : Nat) (A : Option Addr) (l : List Sym) (w : World) (hS : SymSet w b false A c l) :
 Calls Tryz.prog 101 #[.pointer (some ⟨b, 0, none⟩)] w (OwnPostSym w b false A l) := by
 have h1 := hS.cell1
 have HS := Lib.hid hS
 clear hS
 go_enter Tryz.func101, Tryz.ntmps101
 go_wp2
 go_end0
 exact ⟨rfl, A, c, HS.out, Fr.refl _ _, .inl ⟨rfl, rfl⟩⟩
set_option maxRecDepth 100000 in
set_option maxHeartbeats 1000000 in
theorem own_yes_Sym (b c : Nat) (A : Option Addr) (l : List Sym) (w : World) (hS : SymSet w b true A c l) (hl : (l.length : Int) ≤ 1000000000) :
 Calls Tryz.prog 101 #[.pointer (some ⟨b, 0, none⟩)] w (OwnPostSym w b true A l) := by
 obtain ⟨i0, hi, hz0, hz1, hz2⟩ := info_parts info_Sym
 have h0 := hS.cell0
 have h1 := hS.cell1
 have hb := hS.lt
 have f0 := hS.blk.frozen 0
 have f1 := hS.blk.frozen 1
 have hrd := hS.rd Sym.cells_length
 have HB := Lib.hid hS.blk
 have HRD := Lib.hid hrd
 clear hS hrd
 have e1 : IntKind.i64.wrap ((l.length : Int) + 1) = (l.length : Int) + 1 := IntWalk.i64_in _ (by omega)
 have hmk : ∀ W : World, (Instr.makeSlice 57 (.int .i64 0) (.int .i64 ((l.length : Int) + 1))).run Tryz.prog W = .ok (.slice (some ⟨W.heap.size, 0, none⟩) 0 (l.length + 1)) (W.alloc (.cells (madeCells (Value.cells (.agg #[.int .i64 0, .string ⟨#[]⟩, .int .i64 0])) ((l.length + 1) * 3)) 23)) := fun W => by
  have h := run_make (P := Tryz.prog) W 57 23 i0 _ Tryz.underlying57 hi hz0 .i64 .i64 0 ((l.length : Int) + 1) (by omega) (by omega) (by rw [hz2]; omega) (by omega)
  rw [hz1] at h
  simpa [show ((l.length : Int) + 1).toNat = l.length + 1 by omega] using h
 go_enter Tryz.func101, Tryz.ntmps101
 go_wp2_with fail
 refine wp_region_E (fun w9 => Below w.heap.size w w9) [(0, 0), (1, 0), (2, 0), (3, 0), (4, 1), (5, 0), (6, 0), (8, 0), (9, 0), (10, 0), (11, 1), (7, 2), (12, 2), (13, 0), (14, 0), (15, 2)] (by kernel_rfl) (by kernel_rfl) (fun KK hKK => ?_)
 simp only [beside, List.filterMap_cons, List.filterMap_nil, List.getElem?_toArray, List.getElem?_cons_zero, List.getElem?_cons_succ, Option.map_some]
 repeat ((first | (refine wpX_w ?_ (Or.inl ⟨by rfl, fun w9 => ?_⟩) ?_; rotate_left 1; go_simp; with_reducible rfl) | (refine wpX_l ?_ (((Below.refl _ _).drew)) (Or.inl ⟨by rfl, fun w9 hw9 => ?_⟩) ?_; rotate_left 1; obtain ⟨hc9, hf9⟩ := bcell hw9; go_simp; with_reducible rfl) | refine wpX_w undef (Or.inr ⟨by rfl, rfl⟩) ?_ | refine wpX_l undef (((Below.refl _ _).drew)) (Or.inr ⟨by rfl, rfl⟩) ?_); go_frame)
 refine wpX_es (fun K9 hK9 => ?_)
 go_simp
 refine hK9 _ _ (((Below.refl _ _).drew).alloc (Nat.le_refl _) _) ?_
 clear hK9 K9
 refine wpX_e (by kernel_rfl) (fun K9 hK9 => ?_)
 refine step_append_src _ (by rfl) _ _ _ (by rfl) 23 i0 _ 3 32 Tryz.underlying57 hi hz0 hz1 hz2 rfl (by omega) _ 0 [] (by rfl) (World.ownsRow_made _ _ _ (Nat.zero_le _) (by unfold maxLen; omega) (by simp [madeCells])) A l.length c (l.flatMap Sym.cells) (by rfl) (flat_length Sym.cells_length l)
  ((HRD.out.drew.alloc _).news Sym.cells_length (by omega)) (Sym.oneAll l) (by unfold maxLen; omega) (by omega) ?_
 intro v2 w2 hown hgr hnil hat
 refine hK9 _ _ ?_
 clear hK9 K9
 rw [Nat.zero_add, List.nil_append] at hown
 obtain ⟨A', c', rfl, _, _, hz⟩ := own_form2 hown
 have HB1 := (HB.out.drew.alloc (.cells (madeCells (Value.cells (.agg #[.int .i64 0, .string ⟨#[]⟩, .int .i64 0])) ((l.length + 1) * 3)) 23)).grown hgr (by simp [Value.ownBlock]; omega)
 have c0 := (HB1.cell 0).trans rfl
 have c1 := (HB1.cell 1).trans rfl
 have z0 := HB1.frozen 0
 have z1 := HB1.frozen 1
 have HB2 := Lib.hid HB1
 clear HB1
 repeat ((first | (refine wpX_w ?_ (Or.inl ⟨by rfl, fun w9 => ?_⟩) ?_; rotate_left 1; go_simp; with_reducible rfl) | (refine wpX_l ?_ (((Below.refl _ _).drew).alloc (Nat.le_refl _) _) (Or.inl ⟨by rfl, fun w9 hw9 => ?_⟩) ?_; rotate_left 1; obtain ⟨hc9, hf9⟩ := bcell hw9; go_simp; with_reducible rfl) | refine wpX_w undef (Or.inr ⟨by rfl, rfl⟩) ?_ | refine wpX_l undef (((Below.refl _ _).drew).alloc (Nat.le_refl _) _) (Or.inr ⟨by rfl, rfl⟩) ?_); go_frame)
 refine wpX_e (by kernel_rfl) (fun K9 hK9 => ?_)
 go_simp
 refine hK9 _ _ ?_
 clear hK9 K9
 refine wpX_nil ?_
 simp only [OnlyN_normal]
 refine hKK _ _ ?_
 clear hKK KK
 go_wp2
 go_end0
 have hb2 : (Value.slice A' l.length c').ownBlock = some w.heap.size ∨ (Value.slice A' l.length c').ownBlock = some (w.heap.size + 1) := by
  rcases hat with h | h
  · left; rw [h]; rfl
  · right; rw [h]; simp
 have hA : ∃ g, w.heap.size ≤ g ∧ A' = some ⟨g, 0, none⟩ := by
  rcases A' with _ | a
  · exfalso; simp [Value.ownBlock] at hb2
  · obtain ⟨g, rfl⟩ := hz a rfl
    refine ⟨g, ?_, rfl⟩
    simp [Value.ownBlock] at hb2
    omega
 obtain ⟨g, hg, rfl⟩ := hA
 have HB1 := HB2.out
 have HF : Fr (· = b) w w2 := ((Fr.refl (· = b) w).drew.alloc _).grown hgr (fun k e => by simp [Value.ownBlock] at e; right; omega)
 refine ⟨rfl, some ⟨g, 0, none⟩, c', ⟨(HB1.set_ 0 _).set_ 1 _, ?_⟩, (HF.setCell (p := ⟨b, 0, none⟩) (.inl rfl) _).setCell (p := ⟨b, 1, none⟩) (.inl rfl) _, .inr ⟨rfl, g, hg, rfl⟩⟩
 have hne : (Value.slice (some ⟨g, 0, none⟩) l.length c').ownBlock ≠ some b := by simp [Value.ownBlock]; omega
 exact ownsRow_setCell_other (a := ⟨b, 1, none⟩) (ownsRow_setCell_other (a := ⟨b, 0, none⟩) hown hne _) hne _
theorem own_Sym (b c : Nat) (sn : Bool) (A : Option Addr) (l : List Sym) (w : World) (hS : SymSet w b sn A c l) (hl : (l.length : Int) ≤ 1000000000) :
 Calls Tryz.prog 101 #[.pointer (some ⟨b, 0, none⟩)] w (OwnPostSym w b sn A l) := by
 cases sn
 · exact own_no_Sym b c A l w hS
 · exact own_yes_Sym b c A l w hS hl
end Go.Proofs.YtpndmjabjjbefaaGreat
namespace Go.Proofs.YtpndmjabjjbefaaGreat
open Go.RowKit
def PutPostSym (w : World) (b : Nat) (sn : Bool) (A : Option Addr) (l : List Sym) (x : Sym) (e : Ending) (w' : World) : Prop :=
 e = .returned (.bool (!has cmpSym l x)) ∧ ∃ sn' A' c', SymSet w' b sn' A' c' (put cmpSym l x) ∧ Fr (SetMod b sn A) w w' ∧ Moved w sn A sn' A'
set_option maxRecDepth 100000 in
set_option maxHeartbeats 1000000 in
theorem put_there_Sym (b c : Nat) (sn : Bool) (A : Option Addr) (l : List Sym) (x : Sym) (w : World) (hS : SymSet w b sn A c l) (hs : Srt cmpSym l) (hl : (l.length : Int) ≤ 100000000) (hh : has cmpSym l x = true) :
 Calls Tryz.prog 73 #[.pointer (some ⟨b, 0, none⟩), .agg #[.int .i64 x.kind, .string x.text, .int .i64 x.n]] w (PutPostSym w b sn A l x) := by
 have HS := Lib.hid hS
 have HO := Lib.hid hs
 clear hS hs
 go_enter Tryz.func73, Tryz.ntmps73
 go_wp2_with fail
 refine (find_Sym b c sn A l x _ (HS.out.new_ ((Below.refl _ _).alloc (Nat.le_refl _) _)) HO.out (by omega)).mono ?_
 rintro e w1 ⟨rfl, hb1⟩
 go_wp2_with fail
 go_ret
 refine ⟨by rw [hh]; rfl, sn, A, c, ?_, Fr.of_new (((Below.refl _ _).alloc (Nat.le_refl _) _).trans (hb1.mono (by simp))), .inl ⟨rfl, rfl⟩⟩
 rw [put_has hh]
 exact HS.out.new_ (((Below.refl _ _).alloc (Nat.le_refl _) _).trans (hb1.mono (by simp)))
set_option maxRecDepth 100000 in
set_option maxHeartbeats 4000000 in
theorem put_new_Sym (b c : Nat) (sn : Bool) (A : Option Addr) (l : List Sym) (x : Sym) (w : World) (hS : SymSet w b sn A c l) (hs : Srt cmpSym l) (hl : (l.length : Int) ≤ 100000000) (hh : has cmpSym l x = false) :
 Calls Tryz.prog 73 #[.pointer (some ⟨b, 0, none⟩), .agg #[.int .i64 x.kind, .string x.text, .int .i64 x.n]] w (PutPostSym w b sn A l x) := by
 obtain ⟨i0, hi, hz0, hz1, hz2⟩ := info_parts info_Sym
 have HS := Lib.hid hS
 have HO := Lib.hid hs
 have hb := hS.lt
 clear hS hs
 have hrk := rank_le (cmp := cmpSym) l x
 go_enter Tryz.func73, Tryz.ntmps73
 go_wp2_with fail
 have hSa := HS.out.new_ ((Below.refl w.heap.size w).alloc (Nat.le_refl _) (.cells #[Value.int IntKind.i64 x.kind, Value.string x.text, Value.int IntKind.i64 x.n] 23))
 have HSa := Lib.hid hSa
 clear hSa
 refine (find_Sym b c sn A l x _ HSa.out HO.out (by omega)).mono ?_
 rintro e w1 ⟨rfl, hb1⟩
 have HS1 := Lib.hid (HSa.out.new_ hb1)
 have hsz1 : w.heap.size + 1 ≤ w1.heap.size := by have := hb1.size; (try simp at this); omega
 have y0 := (hb1.cell (p := ⟨w.heap.size, 0, none⟩) (by simp)).trans ((Blk.new w 23 #[Value.int IntKind.i64 x.kind, Value.string x.text, Value.int IntKind.i64 x.n]).cell 0)
 have y1 := (hb1.cell (p := ⟨w.heap.size, 1, none⟩) (by simp)).trans ((Blk.new w 23 #[Value.int IntKind.i64 x.kind, Value.string x.text, Value.int IntKind.i64 x.n]).cell 1)
 have y2 := (hb1.cell (p := ⟨w.heap.size, 2, none⟩) (by simp)).trans ((Blk.new w 23 #[Value.int IntKind.i64 x.kind, Value.string x.text, Value.int IntKind.i64 x.n]).cell 2)
 have HB1 := Lib.hid hb1
 clear hb1
 go_wp2_with fail
 refine (own_Sym b c sn A l _ HS1.out (by omega)).mono ?_
 rintro e w2 ⟨rfl, A1, c1, hS2, hF2, hM2⟩
 have hsz2 : w1.heap.size ≤ w2.heap.size := hF2.size
 have x0 : w2.cell? ⟨w.heap.size, 0, none⟩ = some (.int .i64 x.kind) := (hF2.cell (p := ⟨w.heap.size, 0, none⟩) (by dsimp only; omega) (by dsimp only; omega)).trans y0
 have x1 : w2.cell? ⟨w.heap.size, 1, none⟩ = some (.string x.text) := (hF2.cell (p := ⟨w.heap.size, 1, none⟩) (by dsimp only; omega) (by dsimp only; omega)).trans y1
 have x2 : w2.cell? ⟨w.heap.size, 2, none⟩ = some (.int .i64 x.n) := (hF2.cell (p := ⟨w.heap.size, 2, none⟩) (by dsimp only; omega) (by dsimp only; omega)).trans y2
 have s0 := hS2.cell0
 have f0 := hS2.blk.frozen 0
 have hb2 : b < w2.heap.size := by omega
 have hk2 : w.heap.size < w2.heap.size := by omega
 have HS2 := Lib.hid hS2
 have HF2 := Lib.hid hF2
 have HM2 := Lib.hid hM2
 clear hS2 hF2 hM2 y0 y1 y2
 go_wp2_with fail
 refine wp_region_E (fun w9 => Below w2.heap.size w2 w9) [(0, 0), (1, 0), (2, 0), (3, 0), (4, 1), (5, 1), (6, 2), (7, 2), (8, 0), (9, 0), (10, 2)] (by kernel_rfl) (by kernel_rfl) (fun KK hKK => ?_)
 simp only [beside, List.filterMap_cons, List.filterMap_nil, List.getElem?_toArray, List.getElem?_cons_zero, List.getElem?_cons_succ, Option.map_some]
 repeat ((first | (refine wpX_w ?_ (Or.inl ⟨by rfl, fun w9 => ?_⟩) ?_; rotate_left 1; go_simp; with_reducible rfl) | (refine wpX_l ?_ (((Below.refl _ _).drew)) (Or.inl ⟨by rfl, fun w9 hw9 => ?_⟩) ?_; rotate_left 1; obtain ⟨hc9, hf9⟩ := bcell hw9; go_simp; with_reducible rfl) | refine wpX_w undef (Or.inr ⟨by rfl, rfl⟩) ?_ | refine wpX_l undef (((Below.refl _ _).drew)) (Or.inr ⟨by rfl, rfl⟩) ?_); go_frame)
 refine wpX_es (fun K9 hK9 => ?_)
 go_simp
 refine hK9 _ _ (((Below.refl _ _).drew).alloc (Nat.le_refl _) _) ?_
 clear hK9 K9
 refine wpX_e (by kernel_rfl) (fun K9 hK9 => ?_)
 refine step_append_src _ (by rfl) _ _ _ (by rfl) 23 i0 _ 3 32 Tryz.underlying57 hi hz0 hz1 hz2 rfl (by omega) _ l.length (l.flatMap Sym.cells) (by rfl) (ownsRow_new HS2.out.row (((Below.refl _ _).drew).alloc (Nat.le_refl _) _)) (some ⟨w2.heap.size, 0, none⟩) 1 1 (Sym.cells x) (by rfl) (by rfl)
  (fun _ => ⟨_, rfl, World.news_of_block (heap_alloc_new _ _)⟩) (Sym.one x) (by unfold maxLen; omega) (by omega) ?_
 intro v2 w3 hown hgr hnil hat
 refine hK9 _ _ ?_
 clear hK9 K9
 obtain ⟨g, c2, rfl⟩ : ∃ g c2, v2 = .slice (some ⟨g, 0, none⟩) (l.length + 1) c2 := by
  rcases ownsRow_form hown with ⟨_, h0, _⟩ | ⟨g, c2, h, _⟩
  · omega
  · exact ⟨g, c2, h⟩
 have HXN : (Value.slice A1 l.length c1).ownBlock ≠ some w.heap.size := by
  intro h
  rcases HM2.out with ⟨hsn, hA⟩ | ⟨_, g2, hg2, hA⟩
  · rcases A1 with _ | a1
    · cases h
    · have h1 := HS.out.row_lt _ hA.symm
      simp only [Value.ownBlock, Option.some.injEq] at h
      omega
  · subst hA
    simp only [Value.ownBlock, Option.some.injEq] at h
    omega
 have HB3' := (HS2.out.blk.drew.alloc (.cells #[Value.int IntKind.i64 x.kind, Value.string x.text, Value.int IntKind.i64 x.n] 23)).grown hgr (own_blk_ne HS2.out.row HS2.out.blk (by decide))
 have c0 := (HB3'.cell 0).trans rfl
 have z0 := HB3'.frozen 0
 have HB3 := Lib.hid HB3'
 have HOWN := Lib.hid hown
 have HGR := Lib.hid hgr
 clear HB3' hown hgr
 repeat ((first | (refine wpX_w ?_ (Or.inl ⟨by rfl, fun w9 => ?_⟩) ?_; rotate_left 1; go_simp; with_reducible rfl) | (refine wpX_l ?_ (((Below.refl _ _).drew).alloc (Nat.le_refl _) _) (Or.inl ⟨by rfl, fun w9 hw9 => ?_⟩) ?_; rotate_left 1; obtain ⟨hc9, hf9⟩ := bcell hw9; go_simp; with_reducible rfl) | refine wpX_w undef (Or.inr ⟨by rfl, rfl⟩) ?_ | refine wpX_l undef (((Below.refl _ _).drew).alloc (Nat.le_refl _) _) (Or.inr ⟨by rfl, rfl⟩) ?_); go_frame)
 refine wpX_e (by kernel_rfl) (fun K9 hK9 => ?_)
 go_simp
 refine hK9 _ _ ?_
 clear hK9 K9
 refine wpX_nil ?_
 simp only [OnlyN_normal]
 refine hKK _ _ ?_
 clear hKK KK
 have hlg : ((l.length + 1 : Nat) : Int) = (l.length : Int) + 1 := by omega
 have hG : (SetMod b sn A g ∨ w.heap.size ≤ g) ∧ Moved w sn A false (some ⟨g, 0, none⟩) ∧ g ≠ w.heap.size ∧ g ≠ b := by
  rcases hat with h | h
  · rcases A1 with _ | a1
    · simp [Value.ownBlock] at h
    · obtain ⟨A', c', hv, _, _, hz⟩ := own_form2 HS2.out.row
      injection hv with hv _ _
      obtain ⟨g', rfl⟩ := hz a1 hv.symm
      have hgg : g' = g := by simpa [Value.ownBlock] using h.symm
      subst hgg
      have hne : g' ≠ b := HS2.out.row_ne (by decide) _ rfl
      rcases HM2.out with ⟨hsn, hA⟩ | ⟨_, g2, hg2, hA⟩
      · have h1 := HS.out.row_lt _ hA.symm
        exact ⟨.inl (.inr ⟨hsn.symm, _, hA.symm, rfl⟩), .inl ⟨hsn, hA⟩, by dsimp only at h1; omega, hne⟩
      · injection hA with hA
        injection hA with hA
        subst hA
        exact ⟨.inr (by omega), .inr ⟨rfl, _, by omega, rfl⟩, by omega, hne⟩
  · have hgg : g = w2.heap.size + 1 := by simpa [Value.ownBlock] using h
    subst hgg
    exact ⟨.inr (by omega), .inr ⟨rfl, _, by omega, rfl⟩, by omega, by omega⟩
 obtain ⟨hgM, hgMv, hgk1, hgb⟩ := hG
 obtain ⟨w4, hw4⟩ : ∃ w4, w4 = w3.setCell ⟨b, 0, none⟩ (.slice (some ⟨g, 0, none⟩) (l.length + 1) c2) := ⟨_, rfl⟩
 have hB4 : Blk w4 b 131 #[.slice (some ⟨g, 0, none⟩) (l.length + 1) c2, .bool false] := by rw [hw4]; exact HB3.out.set_ 0 _
 have hR4 : w4.ownsRow 0 23 3 (.slice (some ⟨g, 0, none⟩) (l.length + 1) c2) (l.length + 1) ((shiftAt l x l.length).flatMap Sym.cells) := by
  rw [hw4, shiftAt_start]
  refine ownsRow_setCell_other (a := ⟨b, 0, none⟩) ?_ (by simpa [Value.ownBlock] using hgb) _
  rw [List.flatMap_append, List.flatMap_singleton]
  exact HOWN.out
 have hF4 : Fr (SetMod b sn A) w w4 := by
  rw [hw4]
  have h1 : Fr (SetMod b sn A) w w1 := Fr.of_new (((Below.refl _ _).alloc (Nat.le_refl _) _).trans (HB1.out.mono (by simp)))
  have h2 : Fr (SetMod b sn A) w w2 := h1.trans (HF2.out.mono (fun k _ h => .inl h))
  refine ((h2.drew.alloc _).grown HGR.out (fun k hk => ?_)).setCell (p := ⟨b, 0, none⟩) (.inl (.inl rfl)) _
  rcases A1 with _ | a1
  · cases hk
  · simp only [Value.ownBlock, Option.some.injEq] at hk
    subst hk
    rcases HM2.out with ⟨hsn, hA⟩ | ⟨_, g', hg', hA⟩
    · left; right; exact ⟨hsn.symm, a1, hA.symm, rfl⟩
    · injection hA with hA
      subst hA
      right; dsimp only; omega
 have z0 : w4.cell? ⟨w.heap.size, 0, none⟩ = some (.int .i64 x.kind) := by
  rw [hw4, World.cell?_setCell_other _ _ _ _ (by intro h; injection h; omega)]
  refine HGR.out.cell ((World.cell?_alloc_lt w2.drew _ ⟨w.heap.size, 0, none⟩ hk2).trans x0) ?_
  intro h
  exact HXN (by simpa using h.symm)
 have z1 : w4.cell? ⟨w.heap.size, 1, none⟩ = some (.string x.text) := by
  rw [hw4, World.cell?_setCell_other _ _ _ _ (by intro h; injection h; omega)]
  refine HGR.out.cell ((World.cell?_alloc_lt w2.drew _ ⟨w.heap.size, 1, none⟩ hk2).trans x1) ?_
  intro h
  exact HXN (by simpa using h.symm)
 have z2 : w4.cell? ⟨w.heap.size, 2, none⟩ = some (.int .i64 x.n) := by
  rw [hw4, World.cell?_setCell_other _ _ _ _ (by intro h; injection h; omega)]
  refine HGR.out.cell ((World.cell?_alloc_lt w2.drew _ ⟨w.heap.size, 2, none⟩ hk2).trans x2) ?_
  intro h
  exact HXN (by simpa using h.symm)
 have hk4 : w.heap.size < w4.heap.size := by rw [hw4]; have := HGR.out.size; simp at this ⊢; omega
 rw [← hw4]
 have HgM := Lib.hid hgM
 have HgMv := Lib.hid hgMv
 have HB4 := Lib.hid hB4
 have HR4 := Lib.hid hR4
 have HF4 := Lib.hid hF4
 have s4 := hB4.cell 0
 have s4' : w4.cell? ⟨b, 0, none⟩ = some (.slice (some ⟨g, 0, none⟩) (l.length + 1) c2) := s4
 clear s4 hw4 hB4 hR4 hF4 hat hgM hgMv hnil x0 x1 x2 s0 f0
 go_wp2_with fail
 go_loopw [7] (fun s wr => ∃ i : Nat, s = .int .i64 i ∧ rank cmpSym l x ≤ i ∧ i ≤ l.length ∧ wr.ownsRow 0 23 3 (.slice (some ⟨g, 0, none⟩) (l.length + 1) c2) (l.length + 1) ((shiftAt l x i).flatMap Sym.cells) ∧ Fr (· = g) w4 wr) (fun s wr => (intOf s).toNat)
 case atStart => exact ⟨l.length, by go_num, hrk, Nat.le_refl _, HR4.out, Fr.refl _ _⟩
 case round =>
  obtain ⟨i, rfl, hi1, hi2, hown, hfr⟩ := hrel
  have hgw : g < wr.heap.size := (hown.lt g rfl).2
  have r0 : wr.cell? ⟨b, 0, none⟩ = some (.slice (some ⟨g, 0, none⟩) (l.length + 1) c2) := (hfr.cell (p := ⟨b, 0, none⟩) HB4.out.lt (fun h => hgb h.symm)).trans s4'
  have fz : ∀ o, wr.frozen? ⟨g, o, none⟩ = false := fun o => hown.frozenAt o
  have HOW := Lib.hid hown
  have HFR := Lib.hid hfr
  clear hown hfr
  by_cases hlt : rank cmpSym l x < i
  · obtain ⟨j, rfl⟩ : ∃ j, i = j + 1 := ⟨i - 1, by omega⟩
    have hj : j < l.length := by omega
    have hrd := ownsRow_rd (A := some ⟨g, 0, none⟩) (c := c2) (l := shiftAt l x (j + 1)) Sym.cells_length (by rw [shiftAt_length l x hi2]; exact HOW.out)
    obtain ⟨g', o', hgo, _, hcell⟩ := hrd.at_ (k := j) (by rw [shiftAt_length l x hi2]; omega)
    injection hgo with hgo
    injection hgo with hg1 hg2
    subst hg1; subst hg2
    rw [shiftAt_read l x hj] at hcell
    have q0 : wr.cell? ⟨g, j * 3, none⟩ = some (.int .i64 l[j].kind) := by simpa using hcell 0 _ rfl
    have q1 : wr.cell? ⟨g, j * 3 + 1, none⟩ = some (.string l[j].text) := by simpa using hcell 1 _ rfl
    have q2 : wr.cell? ⟨g, j * 3 + 2, none⟩ = some (.int .i64 l[j].n) := by simpa using hcell 2 _ rfl
    have rmj : Room wr g 23 (c2 * 3) ∧ l.length + 1 ≤ c2 := by
     rcases ownsRow_form HOW.out with ⟨hv, _⟩ | ⟨g', cap, hv, hn, _, hr, _⟩
     · cases hv
     · injection hv with hA _ hc
       injection hA with hA
       injection hA with hA
       subst hA; subst hc
       exact ⟨hr, hn⟩
    obtain ⟨hrm, hcap⟩ := rmj
    obtain ⟨u0, t0⟩ := hrm.cell (i := (j + 1) * 3) (by omega)
    obtain ⟨u1, t1⟩ := hrm.cell (i := (j + 1) * 3 + 1) (by omega)
    obtain ⟨u2, t2⟩ := hrm.cell (i := (j + 1) * 3 + 2) (by omega)
    have b0 : (0 : Int) ≤ (j : Int) + 1 := by omega
    have b1 : (0 : Int) ≤ (j : Int) := by omega
    have b4 : (j : Int) < (l.length : Int) := by omega
    have b2 : (j : Int) < (l.length : Int) + 1 := by omega
    have b3 : (j : Int) + 1 < (l.length : Int) + 1 := by omega
    have w1 : IntKind.i64.wrap ((j : Int)) = (j : Int) := IntWalk.i64_in _ (by omega)
    have w2 : IntKind.i64.wrap ((j : Int) + 1 - 1) = (j : Int) := by rw [IntWalk.i64_in _ (by omega)]; omega
    clear hcell hrd hrm
    obtain ⟨y, hy⟩ : ∃ y, y = l[j] := ⟨_, rfl⟩
    rw [← hy] at q0 q1 q2
    have HY := Lib.hid hy
    have hbw : b < wr.heap.size := World.block_lt_of_cell? wr _ r0
    clear hy
    go_wp2_with fail
    refine wp_region_E (fun w9 => Below wr.heap.size wr w9) [(0, 0), (1, 0), (2, 0), (3, 1), (4, 0), (5, 0), (6, 0), (7, 0), (8, 1), (9, 0), (10, 0), (11, 0), (12, 1), (13, 0), (14, 2)] (by kernel_rfl) (by kernel_rfl) (fun KK hKK => ?_)
    simp only [beside, List.filterMap_cons, List.filterMap_nil, List.getElem?_toArray, List.getElem?_cons_zero, List.getElem?_cons_succ, Option.map_some]
    repeat ((first | (refine wpX_w ?_ (Or.inl ⟨by rfl, fun w9 => ?_⟩) ?_; rotate_left 1; go_simp; with_reducible rfl) | (refine wpX_l ?_ (((Below.refl _ _).drew)) (Or.inl ⟨by rfl, fun w9 hw9 => ?_⟩) ?_; rotate_left 1; obtain ⟨hc9, hf9⟩ := bcell hw9; go_simp; with_reducible rfl) | refine wpX_w undef (Or.inr ⟨by rfl, rfl⟩) ?_ | refine wpX_l undef (((Below.refl _ _).drew)) (Or.inr ⟨by rfl, rfl⟩) ?_); go_frame)
    refine wpX_e (by kernel_rfl) (fun K9 hK9 => ?_)
    go_simp
    refine hK9 _ _ ?_
    clear hK9 K9
    refine wpX_nil ?_
    simp only [OnlyN_normal]
    refine hKK _ _ ?_
    clear hKK KK
    go_wp2_with fail
    go_roundw
    case rel =>
     refine ⟨j, by go_num, by omega, by omega, ?_, Fr.drew ((((HFR.out).setCell (p := ⟨g, (j + 1) * 3, none⟩) (.inl rfl) (_)).setCell (p := ⟨g, (j + 1) * 3 + 1, none⟩) (.inl rfl) (_)).setCell (p := ⟨g, (j + 1) * 3 + 2, none⟩) (.inl rfl) (_))⟩
     have hst := ((((((HOW.out).stored ((j + 1) * 3) (.int .i64 y.kind)).1).stored ((j + 1) * 3 + 1) (.string y.text)).1).stored ((j + 1) * 3 + 2) (.int .i64 y.n)).1
     have he : setAll ((shiftAt l x (j + 1)).flatMap Sym.cells) ((j + 1) * 3) (Sym.cells y) = (shiftAt l x j).flatMap Sym.cells := by
      rw [flat_set Sym.cells_length (by omega) _ (j + 1) (by rw [shiftAt_length l x hi2]; omega), HY.out, shiftAt_step l x hj]
     rw [← he]
     exact hst
    case measure => simp [intOf] <;> omega
  · obtain rfl : i = rank cmpSym l x := by omega
    have rmj : Room wr g 23 (c2 * 3) ∧ l.length + 1 ≤ c2 := by
     rcases ownsRow_form HOW.out with ⟨hv, _⟩ | ⟨g', cap, hv, hn, _, hr, _⟩
     · cases hv
     · injection hv with hA _ hc
       injection hA with hA
       injection hA with hA
       subst hA; subst hc
       exact ⟨hr, hn⟩
    obtain ⟨hrm, hcap⟩ := rmj
    obtain ⟨k, hk⟩ : ∃ k, k = rank cmpSym l x := ⟨_, rfl⟩
    rw [← hk] at hi2 hlt ⊢
    obtain ⟨u0, t0⟩ := hrm.cell (i := k * 3) (by omega)
    obtain ⟨u1, t1⟩ := hrm.cell (i := k * 3 + 1) (by omega)
    obtain ⟨u2, t2⟩ := hrm.cell (i := k * 3 + 2) (by omega)
    have x0 := (HFR.out.cell (p := ⟨w.heap.size, 0, none⟩) hk4 (fun h => hgk1 h.symm)).trans z0
    have x1 := (HFR.out.cell (p := ⟨w.heap.size, 1, none⟩) hk4 (fun h => hgk1 h.symm)).trans z1
    have x2 := (HFR.out.cell (p := ⟨w.heap.size, 2, none⟩) hk4 (fun h => hgk1 h.symm)).trans z2
    have b1 : (0 : Int) ≤ (k : Int) := by omega
    have b2 : (k : Int) < (l.length : Int) + 1 := by omega
    have HK := Lib.hid hk
    have hkw : w.heap.size < wr.heap.size := by have := HFR.out.size; omega
    have hbw : b < wr.heap.size := World.block_lt_of_cell? wr _ r0
    clear hrm hk z0 z1 z2
    go_wp2_with fail
    refine wp_region_E (fun w9 => Below wr.heap.size wr w9) [(0, 0), (1, 0), (2, 0), (3, 1), (4, 0), (5, 1), (6, 0), (7, 2)] (by kernel_rfl) (by kernel_rfl) (fun KK hKK => ?_)
    simp only [beside, List.filterMap_cons, List.filterMap_nil, List.getElem?_toArray, List.getElem?_cons_zero, List.getElem?_cons_succ, Option.map_some]
    repeat ((first | (refine wpX_w ?_ (Or.inl ⟨by rfl, fun w9 => ?_⟩) ?_; rotate_left 1; go_simp; with_reducible rfl) | (refine wpX_l ?_ (((Below.refl _ _).drew)) (Or.inl ⟨by rfl, fun w9 hw9 => ?_⟩) ?_; rotate_left 1; obtain ⟨hc9, hf9⟩ := bcell hw9; go_simp; with_reducible rfl) | refine wpX_w undef (Or.inr ⟨by rfl, rfl⟩) ?_ | refine wpX_l undef (((Below.refl _ _).drew)) (Or.inr ⟨by rfl, rfl⟩) ?_); go_frame)
    refine wpX_e (by kernel_rfl) (fun K9 hK9 => ?_)
    go_simp
    refine hK9 _ _ ?_
    clear hK9 K9
    refine wpX_nil ?_
    simp only [OnlyN_normal]
    refine hKK _ _ ?_
    clear hKK KK
    go_wp2_with fail
    go_ret
    have HOWk := HOW.out
    rw [← HK.out] at HOWk
    have hst := ((((((HOWk).stored (k * 3) (.int .i64 x.kind)).1).stored (k * 3 + 1) (.string x.text)).1).stored (k * 3 + 2) (.int .i64 x.n)).1
    have he : setAll ((shiftAt l x k).flatMap Sym.cells) (k * 3) (Sym.cells x) = (put cmpSym l x).flatMap Sym.cells := by
     rw [flat_set Sym.cells_length (by omega) _ k (by rw [shiftAt_length l x hi2]; omega), shiftAt_end l x hi2, put_eq tc_sym HO.out hh, HK.out]
    have hln := length_put tc_sym HO.out hh
    refine ⟨by rw [hh]; rfl, false, some ⟨g, 0, none⟩, c2, ⟨?_, ?_⟩, ?_, ?_⟩
    · rw [hln]
      exact (((HB4.out.fr HFR.out (fun h => hgb h.symm)).far (p := ⟨g, k * 3, none⟩) (fun h => hgb h.symm) _).far (p := ⟨g, k * 3 + 1, none⟩) (fun h => hgb h.symm) _).far (p := ⟨g, k * 3 + 2, none⟩) (fun h => hgb h.symm) _
    · rw [hln, ← he]
      exact hst
    · exact HF4.out.into (Fr.drew ((((HFR.out).setCell (p := ⟨g, k * 3, none⟩) (.inl rfl) (_)).setCell (p := ⟨g, k * 3 + 1, none⟩) (.inl rfl) (_)).setCell (p := ⟨g, k * 3 + 2, none⟩) (.inl rfl) (_))) (fun k hk => by subst hk; exact HgM.out)
    · exact HgMv.out
theorem put_Sym (b c : Nat) (sn : Bool) (A : Option Addr) (l : List Sym) (x : Sym) (w : World) (hS : SymSet w b sn A c l) (hs : Srt cmpSym l) (hl : (l.length : Int) ≤ 100000000) :
 Calls Tryz.prog 73 #[.pointer (some ⟨b, 0, none⟩), .agg #[.int .i64 x.kind, .string x.text, .int .i64 x.n]] w (PutPostSym w b sn A l x) := by
 cases hh : has cmpSym l x
 · exact put_new_Sym b c sn A l x w hS hs hl hh
 · exact put_there_Sym b c sn A l x w hS hs hl hh
end Go.Proofs.YtpndmjabjjbefaaGreat
namespace Go.Proofs.YtpndmjabjjbefaaGreat
open Go.RowKit
set_option maxHeartbeats 400000 in
theorem len_Sym (b c : Nat) (sn : Bool) (A : Option Addr) (l : List Sym) (w : World) (hS : SymSet w b sn A c l) :
 Calls Tryz.prog 79 #[.pointer (some ⟨b, 0, none⟩)] w fun e w' => e = .returned (.int .i64 l.length) ∧ w = w' := by
 have s0 := hS.cell0
 clear hS
 go_enter Tryz.func79, Tryz.ntmps79
 go_wp2
 go_ret
 exact ⟨rfl, rfl⟩
set_option maxRecDepth 100000 in
set_option maxHeartbeats 400000 in
theorem place_Sym (b c : Nat) (sn : Bool) (A : Option Addr) (l : List Sym) (x : Sym) (w : World) (hS : SymSet w b sn A c l) (hs : Srt cmpSym l) (hl : (l.length : Int) ≤ 1000000000) :
 Calls Tryz.prog 66 #[.pointer (some ⟨b, 0, none⟩), .agg #[.int .i64 x.kind, .string x.text, .int .i64 x.n]] w (FoundSym l x w) := by
 have HS := Lib.hid hS
 have HO := Lib.hid hs
 clear hS hs
 go_enter Tryz.func66, Tryz.ntmps66
 go_wp2_with fail
 refine (find_Sym b c sn A l x _ (HS.out.new_ ((Below.refl _ _).alloc (Nat.le_refl _) _)) HO.out (by omega)).mono ?_
 rintro e w1 ⟨rfl, hb1⟩
 go_wp2_with fail
 go_ret2
 exact ⟨rfl, ((Below.refl _ _).alloc (Nat.le_refl _) _).trans (hb1.mono (by simp))⟩
def ClonePostSym (w : World) (b : Nat) (A : Option Addr) (c : Nat) (l : List Sym) (e : Ending) (w' : World) : Prop :=
 ∃ k, e = .returned (.pointer (some ⟨k, 0, none⟩)) ∧ w.heap.size ≤ k ∧ SymSet w' b true A c l ∧ SymSet w' k true A c l ∧ Fr (· = b) w w'
set_option maxRecDepth 100000 in
set_option maxHeartbeats 1000000 in
theorem clone_Sym (b c : Nat) (sn : Bool) (A : Option Addr) (l : List Sym) (w : World) (hS : SymSet w b sn A c l) :
 Calls Tryz.prog 75 #[.pointer (some ⟨b, 0, none⟩)] w (ClonePostSym w b A c l) := by
 have s0 := hS.cell0
 have s1 := hS.cell1
 have f1 := hS.blk.frozen 1
 have hb := hS.lt
 have HS := Lib.hid hS
 clear hS
 go_enter Tryz.func75, Tryz.ntmps75
 go_wp2
 go_ret
 have h1 : SymSet (w.setCell ⟨b, 1, none⟩ (.bool true)) b true A c l := ⟨HS.out.blk.set_ 1 _, ownsRow_setCell_other HS.out.row (own_blk_ne HS.out.row HS.out.blk (by decide)) _⟩
 refine ⟨w.heap.size, by simp, Nat.le_refl _, h1.new_ ((Below.refl _ _).alloc (Nat.le_refl _) _), ⟨?_, ownsRow_new h1.row ((Below.refl _ _).alloc (Nat.le_refl _) _)⟩, ((Fr.refl (· = b) w).setCell (p := ⟨b, 1, none⟩) (.inl rfl) _).alloc _⟩
 have h2 := Blk.new (w.setCell ⟨b, 1, none⟩ (.bool true)) 131 #[.slice A l.length c, .bool true]
 simpa using h2
end Go.Proofs.YtpndmjabjjbefaaGreat
namespace Go.Proofs.YtpndmjabjjbefaaGreat
open Go.RowKit
def NewPostSym (w : World) (xs : List Sym) (e : Ending) (w' : World) : Prop :=
 ∃ k, e = .returned (.pointer (some ⟨k, 0, none⟩)) ∧ w.heap.size ≤ k ∧ ∃ sn A c, SymSet w' k sn A c (puts cmpSym [] xs) ∧ AIn A (w.heap.size ≤ ·) ∧ Below w.heap.size w w'
set_option maxRecDepth 100000 in
set_option maxHeartbeats 2000000 in
theorem new_Sym (A : Option Addr) (c : Nat) (xs : List Sym) (w : World) (hrd : RowRd w 3 Sym.cells A c xs) (hl : (xs.length : Int) ≤ 10000000) :
 Calls Tryz.prog 52 #[.slice A xs.length c] w (NewPostSym w xs) := by
 have HRD := Lib.hid hrd
 clear hrd
 go_enter Tryz.func52, Tryz.ntmps52
 go_wp2_with fail
 obtain ⟨W0, hW0⟩ : ∃ W0, W0 = w.alloc (.cells #[.slice none 0 0, .bool false] 131) := ⟨_, rfl⟩
 have hb0 : Below w.heap.size w W0 := by rw [hW0]; exact (Below.refl _ _).alloc (Nat.le_refl _) _
 have hS0 : SymSet W0 w.heap.size false none 0 [] := ⟨by rw [hW0]; exact Blk.new _ _ _, ⟨by simp, .inl ⟨rfl, rfl⟩⟩⟩
 rw [← hW0]
 clear hW0
 have HB0 := Lib.hid hb0
 have HS0 := Lib.hid hS0
 clear hb0 hS0
 go_loopw [10] (fun s wr => ∃ i : Nat, s = .int .i64 i ∧ i ≤ xs.length ∧ ∃ sn A' c', SymSet wr w.heap.size sn A' c' (puts cmpSym [] (xs.take i)) ∧ AIn A' (w.heap.size ≤ ·) ∧ Below w.heap.size w wr) (fun s wr => xs.length - (intOf s).toNat)
 case atStart => exact ⟨0, rfl, Nat.zero_le _, false, none, 0, HS0.out, AIn.none_ _, HB0.out⟩
 case round =>
  obtain ⟨i, rfl, hi, sn, A', c', hS, hA', hB⟩ := hrel
  have HS := Lib.hid hS
  have HA := Lib.hid hA'
  have HB := Lib.hid hB
  clear hS hA' hB
  by_cases hlt : i < xs.length
  · obtain ⟨x, hx⟩ : ∃ x, x = xs[i] := ⟨_, rfl⟩
    obtain ⟨g, off, rfl, hgs, hcell⟩ := (HRD.out.fr (Fr.of_new (M := fun _ => False) HB.out) (fun _ _ h => h)).at_ hlt
    rw [← hx] at hcell
    have q0 : wr.cell? ⟨g, off + i * 3, none⟩ = some (.int .i64 x.kind) := by simpa using hcell 0 _ rfl
    have q1 : wr.cell? ⟨g, off + i * 3 + 1, none⟩ = some (.string x.text) := by simpa using hcell 1 _ rfl
    have q2 : wr.cell? ⟨g, off + i * 3 + 2, none⟩ = some (.int .i64 x.n) := by simpa using hcell 2 _ rfl
    have b1 : (0 : Int) ≤ (i : Int) := by omega
    have b2 : (i : Int) < (xs.length : Int) := by omega
    have HX := Lib.hid hx
    clear hcell hx
    go_wp2_with fail
    have hsr := Srt.puts tc_sym (xs.take i) (Srt.nil (cmp := cmpSym))
    have hlen : (((puts cmpSym [] (xs.take i)).length : Nat) : Int) ≤ 100000000 := by
     have := length_puts_le tc_sym (xs.take i) (Srt.nil (cmp := cmpSym))
     simp at this
     omega
    refine (put_Sym w.heap.size c' sn A' _ x _ (HS.out.new_ ((Below.refl _ _).alloc (Nat.le_refl _) _)) hsr hlen).mono ?_
    rintro e w1 ⟨rfl, sn2, A2, c2, hS2, hF2, hM2⟩
    have hB1 : Below w.heap.size w w1 := (HB.out.alloc HB.out.size _).trans (hF2.below (by have := HB.out.size; (try simp); omega) (fun k hk hm => by
     rcases hm with hm | ⟨_, a, ha, hm⟩
     · omega
     · have := HA.out a ha; omega))
    have hA2 : AIn A2 (w.heap.size ≤ ·) := by
     rcases hM2 with ⟨_, rfl⟩ | ⟨_, g2, hg2, rfl⟩
     · exact HA.out
     · intro a ha; cases ha; have := HB.out.size; (try simp at hg2 ⊢); omega
    have HS2 := Lib.hid hS2
    have HB1 := Lib.hid hB1
    have HA2 := Lib.hid hA2
    clear hS2 hB1 hA2 hF2 hM2 hsr hlen q0 q1 q2
    go_wp2_with fail
    go_roundw
    case rel =>
     refine ⟨i + 1, by go_num, by omega, sn2, A2, c2, ?_, HA2.out, HB1.out⟩
     rw [List.take_add_one, List.getElem?_eq_getElem hlt, ← HX.out]
     simp only [Option.toList_some, puts_snoc]
     exact HS2.out
    case measure => simp [intOf] <;> omega
  · have hie : i = xs.length := by omega
    subst hie
    go_wp2_with fail
    go_ret
    refine ⟨w.heap.size, rfl, Nat.le_refl _, sn, A', c', ?_, HA.out, HB.out⟩
    have := HS.out
    rwa [List.take_length] at this
end Go.Proofs.YtpndmjabjjbefaaGreat
namespace Go.Proofs.YtpndmjabjjbefaaGreat
open Go.RowKit Go.Shelf
def RowKeep (A : Option Addr) (W W' : World) : Prop := W.heap.size ≤ W'.heap.size ∧ ∀ a, A = some a → a.block < W.heap.size → W'.heap[a.block]? = W.heap[a.block]?
theorem RowKeep.trans {A : Option Addr} {X Y Z : World} (h : RowKeep A X Y) (k : RowKeep A Y Z) : RowKeep A X Z := ⟨Nat.le_trans h.1 k.1, fun a e hl => (k.2 a e (Nat.lt_of_lt_of_le hl h.1)).trans (h.2 a e hl)⟩
theorem RowKeep.of_priv {A : Option Addr} {B : Nat} {X Y : World} (hA : AIn A (· < B)) (h : Priv B X Y) : RowKeep A X Y := ⟨h.size, fun a e hl => h.block _ hl (.inl (hA a e))⟩
theorem RowKeep.of_below {A : Option Addr} {B : Nat} {X Y : World} (hA : AIn A (· < B)) (h : Below B X Y) : RowKeep A X Y := ⟨h.size, fun a e _ => h.block _ (hA a e)⟩
theorem RowKeep.rd {α : Type} {size c : Nat} {cells : α → List Value} {A : Option Addr} {l : List α} {W W' : World} (hk : RowKeep A W W') (h : RowRd W size cells A c l) : RowRd W' size cells A c l :=
 h.keep hk.1 (fun p hp ⟨a, ha, hb⟩ => World.cell?_of_block (by rw [← hb]; exact hk.2 a ha (by rw [hb]; exact hp)))
def SeenStart (b : Nat) (X Y : World) : Prop := ∃ X1, Below X.heap.size X X1 ∧ Y = X1.setCell ⟨b, 1, none⟩ (.bool true)
theorem SeenStart.set_ {α : Type} {tSet tE size : Nat} {cells : α → List Value} {W W1 : World} {b : Nat} {sn : Bool} {A : Option Addr} {c : Nat} {l : List α} (h : SeenStart b W W1) (hS : SetAt tSet tE size cells W b sn A c l) (hne : tE ≠ tSet) : SetAt tSet tE size cells W1 b true A c l := by
 obtain ⟨X1, hb, rfl⟩ := h
 refine ⟨(hS.new_ hb).blk.set_ 1 _, ownsRow_setCell_other (hS.new_ hb).row ?_ _⟩
 exact own_blk_ne hS.row hS.blk hne
theorem SeenStart.fr {b : Nat} {W W1 : World} (h : SeenStart b W W1) : Fr (· = b) W W1 := by
 obtain ⟨X1, hb, rfl⟩ := h
 exact (Fr.of_new (M := (· = b)) hb).setCell (p := ⟨b, 1, none⟩) (.inl rfl) _
abbrev Rounds {α : Type} (lo : Nat) (encs : α → Array Value) (xs : List α) (Kp : World → World → Prop) (J Jx : List α → World → Prop) : Prop :=
 ∀ pre x post W1, xs = pre ++ x :: post → J pre W1 → YieldAt Fence.wide 0 Tryz.prog lo (encs x) W1 fun e W' =>
  (e = .returned (.bool true) ∧ J (pre ++ [x]) W' ∧ Kp W1 W') ∨ (e = .returned (.bool false) ∧ Jx (pre ++ [x]) W')
abbrev Told {α : Type} (xs : List α) (J Jx : List α → World → Prop) (e : Ending) (W' : World) : Prop := (∃ v, e = .returned v) ∧ (J xs W' ∨ ∃ pre post, xs = pre ++ post ∧ Jx pre W')
end Go.Proofs.YtpndmjabjjbefaaGreat
namespace Go.Proofs.YtpndmjabjjbefaaGreat
open Go.RowKit Go.Shelf
attribute [local go_sem] Oper.semAt_some
structure Seq {α : Type} (gf : Nat) (lb : Array Value) (encs : α → Array Value) (xs : List α) (w : World) (start Kp : World → World → Prop) : Prop where
 enter : ∀ args w, (callFunc gf args).run Tryz.prog w = .ok (.enter gf args) w
 iter : ∀ W, Below w.heap.size w W → Iter Tryz.prog gf lb encs xs W start (fun X Y => Kp X Y ∧ KeepsFrom W.heap.size X Y)
 trans : ∀ A B C, Kp A B → Kp B C → Kp A C
 keep : ∀ A B, Priv w.heap.size A B → Kp A B
 below : ∀ A B, Below w.heap.size A B → Kp A B
 mods : ∀ W W1, start W W1 → Fr (· < w.heap.size) W W1
theorem keepsFrom_of_fr {B : Nat} {X Y : World} (h : Fr (· < B) X Y) : KeepsFrom B X Y := ⟨h.size, fun k _ hB hk _ => (h.block k (Array.getElem?_eq_some_iff.1 hk).1 (by omega)).trans hk⟩
theorem owns_cells {W : World} {base : Nat} {e : TypeId} {size : Nat} {v : Value} {n : Nat} {xs : List Value} (h : W.ownsRow base e size v n xs) : ∀ k, v.ownBlock = some k → cellsAt W k := by
 rcases h.2 with ⟨rfl, rfl⟩ | ⟨g, cap, cur, rfl, h0, hg, _⟩
 · intro k hk; cases hk
 · intro k hk; cases hk; exact ⟨_, _, _, hg⟩
theorem owns_nil (W : World) (base : Nat) (e : TypeId) (size : Nat) : W.ownsRow base e size (.slice none 0 0) 0 [] := ⟨by simp, .inl ⟨rfl, rfl⟩⟩
theorem Seq.new_ {α : Type} {gf : Nat} {lb : Array Value} {encs : α → Array Value} {xs : List α} {w w' : World} {start Kp : World → World → Prop} (h : Seq gf lb encs xs w start Kp) (hb : Below w.heap.size w w') : Seq gf lb encs xs w' start Kp :=
 ⟨h.enter, fun W hW => h.iter W (hb.trans (hW.mono hb.size)), h.trans, fun A B hp => h.keep A B (hp.mono hb.size), fun A B hp => h.below A B (hp.mono hb.size), fun W W1 hs => (h.mods W W1 hs).mono (fun _ _ hk => Nat.lt_of_lt_of_le hk hb.size)⟩
end Go.Proofs.YtpndmjabjjbefaaGreat
namespace Go.Proofs.YtpndmjabjjbefaaGreat
open Go.RowKit Go.Shelf
attribute [local go_sem] Oper.semAt_some
def encSym (x : Sym) : Array Value := #[.agg #[.int .i64 x.kind, .string x.text, .int .i64 x.n]]
set_option maxRecDepth 100000 in
set_option maxHeartbeats 2000000 in
theorem from_Sym (lo b c k : Nat) (sn : Bool) (A : Option Addr) (l : List Sym) (W : World) (hS : SymSet W b sn A c l) (hk : k ≤ l.length) (J Jx : List Sym → World → Prop)
 (h0 : J [] (W.setCell ⟨b, 1, none⟩ (.bool true))) (hY : Rounds lo encSym (l.drop k) (RowKeep A) J Jx) :
 CallsIn Fence.wide 0 Tryz.prog 89 #[.pointer (some ⟨b, 0, none⟩), .int .i64 k, .func (.yield lo) #[] #[]] W (Told (l.drop k) J Jx) := by
 have s0 := hS.cell0
 have s1 := hS.cell1
 have f1 := hS.blk.frozen 1
 have hne := own_blk_ne hS.row hS.blk (by decide)
 have hrd : RowRd (W.setCell ⟨b, 1, none⟩ (.bool true)) 3 Sym.cells A c l := ownsRow_rd Sym.cells_length (ownsRow_setCell_other hS.row hne _)
 have hlm : (l.length : Int) ≤ 9223372036854775807 := by have := hrd.cap; omega
 have HRD := Lib.hid hrd
 have H0 := Lib.hid h0
 have HY := Lib.hid hY
 clear hS hrd h0 hY hne
 refine callsIn_of_wp Tryz.func89 rfl trivial ?_
 simp only [Tryz.ntmps89, List.size_toArray, List.length_cons, List.length_nil, Nat.reduceAdd, Nat.reduceSub, Array.replicate_succ, Array.replicate_zero, List.push_toArray, List.append_toArray, List.nil_append, List.cons_append]
 gi_wp2
 gi_loopw [7] (fun s wr => ∃ pre post, s = .int .i64 ((k + pre.length : Nat) : Int) ∧ l.drop k = pre ++ post ∧ J pre wr ∧ RowRd wr 3 Sym.cells A c l) (fun s wr => l.length - (intOf s).toNat)
 case atStart => exact ⟨[], l.drop k, by simp, by simp, H0.out, HRD.out⟩
 case round =>
  obtain ⟨pre, post, rfl, hx, hJ, hrd⟩ := hrel
  have hlen : k + pre.length + post.length = l.length := by have := congrArg List.length hx; simp at this; omega
  have HX := Lib.hid hx
  have HJ := Lib.hid hJ
  have HR := Lib.hid hrd
  clear hx hJ hrd
  cases post with
  | nil =>
    have e1 : ((k + pre.length : Nat) : Int) = (l.length : Int) := by simp at hlen; omega
    rw [e1]
    clear hlen e1
    gi_wp2
    go_end0
    exact ⟨⟨_, rfl⟩, .inl (by have := HX.out; rw [List.append_nil] at this; rw [this]; exact HJ.out)⟩
  | cons x post =>
    obtain ⟨m, hm⟩ : ∃ m, m = k + pre.length := ⟨_, rfl⟩
    have hml : m < l.length := by simp at hlen; omega
    have hget : l[m] = x := by
     apply Option.some.inj
     rw [← List.getElem?_eq_getElem, hm, ← List.getElem?_drop, HX.out]
     simp
    obtain ⟨g, off, rfl, hgs, hcell⟩ := HR.out.at_ hml
    rw [hget] at hcell
    have q0 : wr.cell? ⟨g, off + m * 3, none⟩ = some (.int .i64 x.kind) := by simpa using hcell 0 _ rfl
    have q1 : wr.cell? ⟨g, off + m * 3 + 1, none⟩ = some (.string x.text) := by simpa using hcell 1 _ rfl
    have q2 : wr.cell? ⟨g, off + m * 3 + 2, none⟩ = some (.int .i64 x.n) := by simpa using hcell 2 _ rfl
    have b1 : (0 : Int) ≤ (m : Int) := by omega
    have b2 : (m : Int) < (l.length : Int) := by omega
    rw [← hm]
    have HM := Lib.hid hm
    clear hcell hget hlen hm
    obtain ⟨fn, tmps, assign, body, hy, hR⟩ := HY.out pre x post wr HX.out HJ.out
    dsimp only [encSym] at hy
    have HRR := Lib.hid hR
    clear hR
    gi_wp2_with fail
    refine ⟨rfl, HRR.out.mono ?_⟩
    rintro e W3 (⟨rfl, hJ3, hk3⟩ | ⟨rfl, hJx3⟩)
    · have HJ3 := Lib.hid hJ3
      have HK3 := Lib.hid hk3
      clear hJ3 hk3 hy q0 q1 q2
      gi_wp2
      go_roundw
      case rel => exact ⟨pre ++ [x], post, by rw [HM.out, List.length_append, List.length_singleton]; go_num, by rw [HX.out]; simp, HJ3.out, HK3.out.rd HR.out⟩
      case measure => simp [intOf] <;> omega
    · have HJ3 := Lib.hid hJx3
      clear hJx3 hy q0 q1 q2
      gi_wp2
      refine bodyPost_ret (results_none rfl _ _ _) rfl ?_
      exact ⟨⟨_, rfl⟩, .inr ⟨pre ++ [x], post, by rw [HX.out]; simp, HJ3.out⟩⟩
set_option maxRecDepth 100000 in
set_option maxHeartbeats 2000000 in
theorem all_Sym (kb b c : Nat) (sn : Bool) (A : Option Addr) (l : List Sym) (W : World) (hbox : W.cell? ⟨kb, 0, none⟩ = some (.pointer (some ⟨b, 0, none⟩))) (hS : SymSet W b sn A c l) :
 Iter Tryz.prog 88 #[.pointer (some ⟨kb, 0, none⟩)] encSym l W (SeenStart b) (RowKeep A) := by
 intro lo J Jx _ _ h0 hY
 have H0 := Lib.hid (h0 (W.setCell ⟨b, 1, none⟩ (.bool true)) ⟨W, Below.refl _ _, rfl⟩)
 have HY := Lib.hid hY
 have HS := Lib.hid hS
 clear h0 hY hS
 refine callsIn_of_wp Tryz.func88 rfl trivial ?_
 simp only [Tryz.ntmps88, List.size_toArray, List.length_cons, List.length_nil, Nat.reduceAdd, Nat.reduceSub, Array.replicate_succ, Array.replicate_zero, List.push_toArray, List.append_toArray, List.nil_append, List.cons_append]
 gi_wp2_with fail
 have hz : ((0 : Nat) : Int) = 0 := rfl
 refine ⟨trivial, rfl, ?_⟩
 refine (from_Sym lo b c 0 sn A l W HS.out (Nat.zero_le _) J Jx H0.out (by rw [List.drop_zero]; exact HY.out)).mono ?_
 rintro e W3 ⟨⟨v, rfl⟩, h⟩
 rw [List.drop_zero] at h
 have H := Lib.hid h
 clear h
 gi_wp2
 go_end0
 exact ⟨⟨_, rfl⟩, H.out⟩
end Go.Proofs.YtpndmjabjjbefaaGreat
namespace Go.Proofs.YtpndmjabjjbefaaGreat
open Go.RowKit Go.Shelf
attribute [local go_sem] Oper.semAt_some
set_option maxHeartbeats 400000 in
theorem mkall_Sym (b : Nat) (w : World) :
 Calls Tryz.prog 65 #[.pointer (some ⟨b, 0, none⟩)] w fun e w' => e = .returned (.func (.func 88) #[] #[.pointer (some ⟨w.heap.size, 0, none⟩)]) ∧ Below w.heap.size w w' ∧ w'.cell? ⟨w.heap.size, 0, none⟩ = some (.pointer (some ⟨b, 0, none⟩)) := by
 go_enter Tryz.func65, Tryz.ntmps65
 go_wp2
 go_ret
 exact ⟨rfl, (Below.refl _ _).alloc (Nat.le_refl _) _, by go_simp⟩
theorem seq_all_Sym (kb b c : Nat) (sn : Bool) (A : Option Addr) (l : List Sym) (w : World) (hbox : w.cell? ⟨kb, 0, none⟩ = some (.pointer (some ⟨b, 0, none⟩))) (hS : SymSet w b sn A c l) :
 Seq 88 #[.pointer (some ⟨kb, 0, none⟩)] encSym l w (SeenStart b) (RowKeep A) :=
 ⟨by intro args w; kernel_rfl, fun W hW => (all_Sym kb b c sn A l W ((hW.cell (World.block_lt_of_cell? _ _ hbox)).trans hbox) (hS.new_ hW)).weak (fun _ _ h => h.1), fun _ _ _ => RowKeep.trans, fun _ _ => RowKeep.of_priv hS.row_lt, fun _ _ => RowKeep.of_below hS.row_lt, fun _ _ h => h.fr.mono (fun k _ hk => by subst hk; exact hS.lt)⟩
end Go.Proofs.YtpndmjabjjbefaaGreat
namespace Go.Proofs.YtpndmjabjjbefaaGreat
open Go.RowKit
abbrev SymSets := Sets (α := Sym) 131 23 3 Sym.cells cmpSym
section
variable {D : Nat → Prop} {w : World} {S : Nat → Option (List Sym)} {σ : Nat → St} {b : Nat} {l : List Sym}
theorem sClone_Sym (h : SymSets D w S σ) (hb : S b = some l) :
 Calls Tryz.prog 75 #[.pointer (some ⟨b, 0, none⟩)] w fun e w' => ∃ k, e = .returned (.pointer (some ⟨k, 0, none⟩)) ∧ w.heap.size ≤ k ∧ (∀ b l, S b = some l → b ≠ k) ∧
  ∃ σ', SymSets D w' (upd S k (some l)) σ' ∧ (∀ j, j ≠ k → j ≠ b → σ' j = σ j) ∧ (σ' b).sn = true ∧ (σ' b).A = (σ b).A ∧ (σ' k).sn = true ∧ (σ' k).A = (σ b).A ∧ Fr (fun k => ¬ D k) w w' ∧ Fr (· = b) w w' := by
 refine (clone_Sym b _ _ _ l w (h.at_ b l hb)).mono ?_
 rintro e w' ⟨k, he, hk, h1, h2, hF⟩
 have hnb : b ≠ k := fun e => by have := h.lt hb; omega
 have hD : Fr (fun k => ¬ D k) w w' := hF.mono (fun k _ hk => by rw [hk]; exact (h.out b l hb).1)
 have hs := h.seen (by decide) hb h1 hF
 have hrow := (h.at_ b l hb).row_lt
 refine ⟨k, he, hk, fun b l hb e => by have := h.lt hb; omega, upd (upd σ b ⟨true, (σ b).A, (σ b).c⟩) k ⟨true, (σ b).A, (σ b).c⟩, ⟨fun j m hj => ?_, fun j m hj => ?_, fun j m hj => ?_, fun j m j' m' hj hj' hjj hsj a a' ha ha' => ?_, hs.low⟩, fun j h1 h2 => by rw [upd_ne _ _ h1, upd_ne _ _ h2], by rw [upd_ne _ _ hnb, upd_same], by rw [upd_ne _ _ hnb, upd_same], by rw [upd_same], by rw [upd_same], hD, hF⟩
 · by_cases e : j = k
   · subst e; rw [upd_same] at hj ⊢; cases hj; exact h2
   · rw [upd_ne _ _ e] at hj ⊢; exact hs.at_ j m hj
 · by_cases e : j = k
   · subst e; rw [upd_same] at hj; cases hj; exact h.srt b l hb
   · rw [upd_ne _ _ e] at hj; exact h.srt j m hj
 · by_cases e : j = k
   · subst e; rw [upd_same] at hj ⊢; cases hj
     exact ⟨fun hd => by have := h.low _ hd; omega, fun hs2 => by cases hs2⟩
   · rw [upd_ne _ _ e] at hj ⊢; exact hs.out j m hj
 · by_cases e : j = k
   · subst e; rw [upd_same] at hsj; cases hsj
   · rw [upd_ne _ _ e] at hj hsj ha
     by_cases e2 : j' = k
     · subst e2
       rw [upd_same] at ha'
       by_cases e3 : j = b
       · subst e3; rw [upd_same] at hsj; cases hsj
       · exact hs.apart j m b l hj hb e3 hsj a a' ha (by rw [upd_same]; exact ha')
     · rw [upd_ne _ _ e2] at hj' ha'
       exact hs.apart j m j' m' hj hj' hjj hsj a a' ha ha'
end
end Go.Proofs.YtpndmjabjjbefaaGreat
namespace Go.Proofs.YtpndmjabjjbefaaGreat
open Go.RowKit
theorem eql_sym (x y : Sym) (W : World) : (binOp .eql 23 (.agg #[.int .i64 x.kind, .string x.text, .int .i64 x.n]) (.agg #[.int .i64 y.kind, .string y.text, .int .i64 y.n])).run Tryz.prog W = .ok (.bool (decide (x = y))) W := by
 rw [run_eql_struct]
 go_simp
 by_cases h : x = y
 · subst h; simp
 · have h2 : ¬ (x.kind = y.kind ∧ x.text.toList = y.text.toList ∧ x.n = y.n) := fun ⟨h1, h2, h3⟩ => h (Sym.ext' h1 (toList_inj h2) h3)
   rw [decide_eq_false h]
   split
   · split
     · split
       · exact absurd ⟨by assumption, by assumption, by assumption⟩ h2
       · rfl
     · rfl
   · rfl
theorem neq_sym (x y : Sym) (W : World) : (binOp .neq 23 (.agg #[.int .i64 x.kind, .string x.text, .int .i64 x.n]) (.agg #[.int .i64 y.kind, .string y.text, .int .i64 y.n])).run Tryz.prog W = .ok (.bool (!decide (x = y))) W := by
 rw [run_neq_struct]
 go_simp
 by_cases h : x = y
 · subst h; simp
 · have h2 : ¬ (x.kind = y.kind ∧ x.text.toList = y.text.toList ∧ x.n = y.n) := fun ⟨h1, h2, h3⟩ => h (Sym.ext' h1 (toList_inj h2) h3)
   rw [decide_eq_false h]
   split
   · split
     · split
       · exact absurd ⟨by assumption, by assumption, by assumption⟩ h2
       · rfl
     · rfl
   · rfl
attribute [local go_sem] eql_sym neq_sym
def within (v n : Int) : Int := if n < 1 then 0 else v % n
theorem sym_at {w : World} {A : Option Addr} {c k : Nat} {l : List Sym} (h : RowRd w 3 Sym.cells A c l) (hk : k < l.length) : ∃ g off, A = some ⟨g, off, none⟩ ∧ g < w.heap.size ∧
 w.cell? ⟨g, off + k * 3, none⟩ = some (.int .i64 l[k].kind) ∧ w.cell? ⟨g, off + k * 3 + 1, none⟩ = some (.string l[k].text) ∧ w.cell? ⟨g, off + k * 3 + 2, none⟩ = some (.int .i64 l[k].n) := by
 obtain ⟨g, off, hA, hg, hc⟩ := h.at_ hk
 exact ⟨g, off, hA, hg, by simpa using hc 0 _ rfl, by simpa using hc 1 _ rfl, by simpa using hc 2 _ rfl⟩
theorem within_nat (v : Int) {n : Nat} (h : 0 < n) : ∃ j : Nat, within v n = j ∧ j < n := by
 have h1 : ¬ (n : Int) < 1 := by omega
 have h2 := Int.emod_nonneg v (show (n : Int) ≠ 0 by omega)
 have h3 := Int.emod_lt_of_pos v (show (0 : Int) < n by omega)
 refine ⟨(v % (n : Int)).toNat, ?_, by omega⟩
 simp only [within, if_neg h1]
 omega
set_option maxHeartbeats 1000000 in
theorem within_is (v n : Int) (w : World) (hn : n ≤ 9223372036854775807) :
 Calls Tryz.prog 13 #[.int .i64 v, .int .i64 n] w fun e w' => e = .returned (.int .i64 (within v n)) ∧ w = w' := by
 by_cases h : n < 1
 · have hw : within v n = 0 := by simp [within, h]
   rw [hw]
   go_enter Tryz.func13, Tryz.ntmps13
   go_wp2_with fail
   go_ret
   exact ⟨rfl, rfl⟩
 · have hw : within v n = v % n := by simp [within, h]
   rw [hw]
   have e0 : n ≠ 0 := by omega
   have h1 : v.tmod n < n := Int.tmod_lt_of_pos v (by omega)
   have h2 : -n < v.tmod n := by
    have := Int.lt_tmod_of_pos v (show 0 < n by omega)
    omega
   have e1 : IntKind.i64.wrap (v.tmod n) = v.tmod n := IntWalk.i64_in _ (by omega)
   have e2 : v.tmod n < 0 → v % n = v.tmod n + n := fun h3 => by
    have h4 := Int.emod_emod_of_dvd v (Int.dvd_refl n)
    have h5 : (v.tmod n) % n = v % n := by
     have := Int.mul_tdiv_add_tmod v n
     have h6 : v % n = (v.tmod n + n * v.tdiv n) % n := by congr 1; omega
     rw [h6, Int.add_mul_emod_self_left]
    have h7 : (v.tmod n + n) % n = v.tmod n % n := by simp
    rw [← h5, ← h7, Int.emod_eq_of_lt (by omega) (by omega)]
   have e3 : ¬ v.tmod n < 0 → v % n = v.tmod n := fun h3 => by
    have h5 : (v.tmod n) % n = v % n := by
     have := Int.mul_tdiv_add_tmod v n
     have h6 : v % n = (v.tmod n + n * v.tdiv n) % n := by congr 1; omega
     rw [h6, Int.add_mul_emod_self_left]
    rw [← h5, Int.emod_eq_of_lt (by omega) (by omega)]
   have E2 := Lib.hid e2
   have E3 := Lib.hid e3
   clear e2 e3
   go_enter Tryz.func13, Tryz.ntmps13
   by_cases h3 : v.tmod n < 0
   · have E := Lib.hid (E2.out h3)
     have e4 : IntKind.i64.wrap (v.tmod n + n) = v.tmod n + n := IntWalk.i64_in _ (by omega)
     clear E2 E3
     go_wp2_with fail
     go_ret
     exact ⟨by rw [E.out]; rfl, rfl⟩
   · have E := Lib.hid (E3.out h3)
     clear E2 E3
     go_wp2_with fail
     go_ret
     exact ⟨by rw [E.out]; rfl, rfl⟩
end Go.Proofs.YtpndmjabjjbefaaGreat
namespace Go.Proofs.YtpndmjabjjbefaaGreat
open Go.RowKit Go.Shelf
def getB : List BindT → ByteArray → Sym × Bool
 | [], _ => (zS, false)
 | b :: l, v => if b.var.toList = v.toList then (b.sym, true) else getB l v
theorem getB_cons (b : BindT) (l : List BindT) (v : ByteArray) : getB (b :: l) v = if b.var.toList = v.toList then (b.sym, true) else getB l v := rfl
def atomV (a : AtomT) (l : List BindT) : Sym × Bool := if a.var.toList = [] then (a.sym, true) else getB l a.var
def SymTo (W : World) (r : Sym × Bool) (e : Ending) (W' : World) : Prop := e = .returned (.tuple #[.agg #[.int .i64 r.1.kind, .string r.1.text, .int .i64 r.1.n], .bool r.2]) ∧ Below W.heap.size W W'
theorem Blk.z3 {w : World} {g : Nat} {t : TypeId} (h : Blk w g t #[.int .i64 0, .string ⟨#[]⟩, .int .i64 0]) : w.cell? ⟨g, 0, none⟩ = some (.int .i64 0) ∧ w.cell? ⟨g, 1, none⟩ = some (.string ⟨#[]⟩) ∧ w.cell? ⟨g, 2, none⟩ = some (.int .i64 0) ∧ w.frozen? ⟨g, 0, none⟩ = false ∧ w.frozen? ⟨g, 1, none⟩ = false ∧ w.frozen? ⟨g, 2, none⟩ = false ∧ g < w.heap.size :=
 ⟨(h.cell 0).trans rfl, (h.cell 1).trans rfl, (h.cell 2).trans rfl, h.frozen 0, h.frozen 1, h.frozen 2, h.lt⟩
theorem Blk.s3 {w : World} {g : Nat} {t : TypeId} {s : Sym} (h : Blk w g t #[.int .i64 s.kind, .string s.text, .int .i64 s.n]) : w.cell? ⟨g, 0, none⟩ = some (.int .i64 s.kind) ∧ w.cell? ⟨g, 1, none⟩ = some (.string s.text) ∧ w.cell? ⟨g, 2, none⟩ = some (.int .i64 s.n) ∧ w.frozen? ⟨g, 0, none⟩ = false ∧ w.frozen? ⟨g, 1, none⟩ = false ∧ w.frozen? ⟨g, 2, none⟩ = false ∧ g < w.heap.size :=
 ⟨(h.cell 0).trans rfl, (h.cell 1).trans rfl, (h.cell 2).trans rfl, h.frozen 0, h.frozen 1, h.frozen 2, h.lt⟩
set_option maxRecDepth 100000 in
set_option maxHeartbeats 4000000 in
theorem get_is {D : Nat → Prop} {A : Option Addr} {c : Nat} (l : List BindT) (v : ByteArray) (w : World) (h : RowR repBindT D w A c l) :
 Calls Tryz.prog 49 #[.slice A l.length c, .string v] w (SymTo w (getB l v)) := by
 have H0 := Lib.hid h
 have hlc := h.cap
 clear h
 go_enter Tryz.func49, Tryz.ntmps49
 go_upto_region 1 with fail
 obtain ⟨W1, hW1⟩ : ∃ W1, W1 = w.alloc (.cells #[.int .i64 0, .string ⟨#[]⟩, .int .i64 0] 23) := ⟨_, rfl⟩
 rw [← hW1]
 have HB1 := Lib.hid (show Below w.heap.size w W1 by rw [hW1]; exact (Below.refl _ _).alloc (Nat.le_refl _) _)
 have HK1 := Lib.hid (show Blk W1 w.heap.size 23 #[.int .i64 0, .string ⟨#[]⟩, .int .i64 0] by rw [hW1]; exact Blk.new _ _ _)
 clear hW1
 go_wp2_with fail
 go_loopw [10] (fun s wr => ∃ i : Nat, s = .int .i64 i ∧ i ≤ l.length ∧ getB l v = getB (l.drop i) v ∧ Below W1.heap.size W1 wr) (fun s wr => l.length - (intOf s).toNat)
 case atStart => exact ⟨0, rfl, Nat.zero_le _, rfl, Below.refl _ _⟩
 case round =>
  obtain ⟨i, rfl, hi, hG, hBr⟩ := hrel
  have HG := Lib.hid hG
  have HBr := Lib.hid (HB1.out.trans (hBr.mono HB1.out.size))
  have HBw := Lib.hid hBr
  obtain ⟨u0, u1, u2, f0, f1, f2, hu⟩ := (HK1.out.new_ hBr).z3
  have hszw := hBr.size
  have hszw2 := HBr.out.size
  clear hG hBr
  by_cases hlt : i < l.length
  · obtain ⟨y, hy⟩ : ∃ y, y = l[i] := ⟨_, rfl⟩
    have hdr : l.drop i = l[i] :: l.drop (i + 1) := List.drop_eq_getElem_cons hlt
    rw [← hy] at hdr
    obtain ⟨g, off, rfl, _, hg, q0, q1, q2, q3⟩ := at_BindT (H0.out.new_ HBr.out) hlt
    rw [← hy] at q0 q1 q2 q3
    have HDR := Lib.hid hdr
    have b1 : (0 : Int) ≤ (i : Int) := by omega
    have b2 : (i : Int) < (l.length : Int) := by omega
    clear hy hdr
    by_cases hv : y.var.toList = v.toList
    · have HR := Lib.hid (show getB l v = (y.sym, true) by rw [HG.out, HDR.out, getB_cons, if_pos hv])
      have v1 : (y.var.toList == v.toList) = true := by simp [hv]
      have v2 : decide (y.var.toList = v.toList) = true := by simp [hv]
      clear hv
      go_wp2_with fail
      unfold SymTo
      rw [HR.out]
      exact bodyPost_ret (v := .tuple #[.agg #[.int .i64 y.sym.kind, .string y.sym.text, .int .i64 y.sym.n], .bool true]) (by simp [results, Tryz.results49, go_sem, *]) rfl ⟨rfl, by (repeat (first | exact Below.refl _ _ | exact HB1.out | exact (HBr.out) | refine Below.drew ?_ | refine Below.al ?_ _ | refine Below.sc ?_ _))⟩
    · have HR := Lib.hid (show getB l v = getB (l.drop (i + 1)) v by rw [HG.out, HDR.out, getB_cons, if_neg hv])
      have v1 : (y.var.toList == v.toList) = false := by simp [hv]
      have v2 : decide (y.var.toList = v.toList) = false := by simp [hv]
      clear hv
      go_wp2_with fail
      go_roundw
      case rel => exact ⟨i + 1, by go_num, by omega, HR.out, by (repeat (first | exact Below.refl _ _ | exact HBw.out | refine Below.drew ?_ | refine Below.al ?_ _ | refine Below.sc ?_ _))⟩
      case measure => simp [intOf] <;> omega
  · have hie : i = l.length := by omega
    subst hie
    have HR := Lib.hid (show getB l v = (zS, false) by rw [HG.out, List.drop_length]; rfl)
    go_wp2_with fail
    unfold SymTo
    rw [HR.out]
    exact bodyPost_ret (v := .tuple #[.agg #[.int .i64 0, .string ⟨#[]⟩, .int .i64 0], .bool false]) (by simp [results, Tryz.results49, go_sem, *]) rfl ⟨rfl, by (repeat (first | exact Below.refl _ _ | exact HB1.out | exact (HBr.out) | refine Below.drew ?_ | refine Below.al ?_ _ | refine Below.sc ?_ _))⟩
set_option maxRecDepth 100000 in
set_option maxHeartbeats 4000000 in
theorem rget_is {D : Nat → Prop} {A : Option Addr} {c : Nat} (l : List BindT) (v : ByteArray) (w : World) (h : RowR repBindT D w A c l) :
 Calls Tryz.prog 46 #[.slice A l.length c, .string v] w (SymTo w (getB l v)) := by
 have H0 := Lib.hid h
 have hlc := h.cap
 clear h
 go_enter Tryz.func46, Tryz.ntmps46
 go_upto_region 1 with fail
 obtain ⟨W1, hW1⟩ : ∃ W1, W1 = w.alloc (.cells #[.int .i64 0, .string ⟨#[]⟩, .int .i64 0] 23) := ⟨_, rfl⟩
 rw [← hW1]
 have HB1 := Lib.hid (show Below w.heap.size w W1 by rw [hW1]; exact (Below.refl _ _).alloc (Nat.le_refl _) _)
 have HK1 := Lib.hid (show Blk W1 w.heap.size 23 #[.int .i64 0, .string ⟨#[]⟩, .int .i64 0] by rw [hW1]; exact Blk.new _ _ _)
 clear hW1
 go_wp2_with fail
 go_loopw [6] (fun s wr => ∃ i : Nat, s = .int .i64 i ∧ i ≤ l.length ∧ getB l v = getB (l.drop i) v ∧ Below W1.heap.size W1 wr) (fun s wr => l.length - (intOf s).toNat)
 case atStart => exact ⟨0, rfl, Nat.zero_le _, rfl, Below.refl _ _⟩
 case round =>
  obtain ⟨i, rfl, hi, hG, hBr⟩ := hrel
  have HG := Lib.hid hG
  have HBr := Lib.hid (HB1.out.trans (hBr.mono HB1.out.size))
  have HBw := Lib.hid hBr
  obtain ⟨u0, u1, u2, f0, f1, f2, hu⟩ := (HK1.out.new_ hBr).z3
  have hszw := hBr.size
  have hszw2 := HBr.out.size
  clear hG hBr
  by_cases hlt : i < l.length
  · obtain ⟨y, hy⟩ : ∃ y, y = l[i] := ⟨_, rfl⟩
    have hdr : l.drop i = l[i] :: l.drop (i + 1) := List.drop_eq_getElem_cons hlt
    rw [← hy] at hdr
    obtain ⟨g, off, rfl, _, hg, q0, q1, q2, q3⟩ := at_BindT (H0.out.new_ HBr.out) hlt
    rw [← hy] at q0 q1 q2 q3
    have HDR := Lib.hid hdr
    have b1 : (0 : Int) ≤ (i : Int) := by omega
    have b2 : (i : Int) < (l.length : Int) := by omega
    clear hy hdr
    by_cases hv : y.var.toList = v.toList
    · have HR := Lib.hid (show getB l v = (y.sym, true) by rw [HG.out, HDR.out, getB_cons, if_pos hv])
      have v1 : (y.var.toList == v.toList) = true := by simp [hv]
      have v2 : decide (y.var.toList = v.toList) = true := by simp [hv]
      clear hv
      go_wp2_with fail
      unfold SymTo
      rw [HR.out]
      exact bodyPost_ret (v := .tuple #[.agg #[.int .i64 y.sym.kind, .string y.sym.text, .int .i64 y.sym.n], .bool true]) (by simp [results, Tryz.results46, go_sem, *]) rfl ⟨rfl, by (repeat (first | exact Below.refl _ _ | exact HB1.out | exact (HBr.out) | refine Below.drew ?_ | refine Below.al ?_ _ | refine Below.sc ?_ _))⟩
    · have HR := Lib.hid (show getB l v = getB (l.drop (i + 1)) v by rw [HG.out, HDR.out, getB_cons, if_neg hv])
      have v1 : (y.var.toList == v.toList) = false := by simp [hv]
      have v2 : decide (y.var.toList = v.toList) = false := by simp [hv]
      clear hv
      go_wp2_with fail
      go_roundw
      case rel => exact ⟨i + 1, by go_num, by omega, HR.out, by (repeat (first | exact Below.refl _ _ | exact HBw.out | refine Below.drew ?_ | refine Below.al ?_ _ | refine Below.sc ?_ _))⟩
      case measure => simp [intOf] <;> omega
  · have hie : i = l.length := by omega
    subst hie
    have HR := Lib.hid (show getB l v = (zS, false) by rw [HG.out, List.drop_length]; rfl)
    go_wp2_with fail
    unfold SymTo
    rw [HR.out]
    exact bodyPost_ret (v := .tuple #[.agg #[.int .i64 0, .string ⟨#[]⟩, .int .i64 0], .bool false]) (by simp [results, Tryz.results46, go_sem, *]) rfl ⟨rfl, by (repeat (first | exact Below.refl _ _ | exact HB1.out | exact (HBr.out) | refine Below.drew ?_ | refine Below.al ?_ _ | refine Below.sc ?_ _))⟩
set_option maxRecDepth 100000 in
set_option maxHeartbeats 4000000 in
theorem atomV_is {D : Nat → Prop} {A : Option Addr} {c : Nat} (a : AtomT) (l : List BindT) (w : World) (h : RowR repBindT D w A c l) :
 Calls Tryz.prog 37 #[.agg #[.string a.var, .int .i64 a.sym.kind, .string a.sym.text, .int .i64 a.sym.n], .slice A l.length c] w (SymTo w (atomV a l)) := by
 have H0 := Lib.hid h
 clear h
 by_cases hv : a.var.toList = []
 · have v1 : (a.var.toList == []) = true := by simp [hv]
   have v2 : a.var.toList.isEmpty = true := by simp [hv]
   have v3 : decide (a.var.toList = []) = true := by simp [hv]
   have HR := Lib.hid (show atomV a l = (a.sym, true) by simp [atomV, hv])
   clear hv
   go_enter Tryz.func37, Tryz.ntmps37
   go_wp2_with fail
   unfold SymTo
   rw [HR.out]
   exact bodyPost_ret (v := .tuple #[.agg #[.int .i64 a.sym.kind, .string a.sym.text, .int .i64 a.sym.n], .bool true]) (by simp [results, Tryz.results37, go_sem]) rfl ⟨rfl, by (repeat (first | exact Below.refl _ _ | refine Below.drew ?_ | refine Below.al ?_ _ | refine Below.sc ?_ _))⟩
 · have v1 : (a.var.toList == []) = false := by simp [hv]
   have v2 : a.var.toList.isEmpty = false := by simp [hv]
   have v3 : decide (a.var.toList = []) = false := by simp [hv]
   have HR := Lib.hid (show atomV a l = getB l a.var by simp [atomV, hv])
   clear hv
   go_enter Tryz.func37, Tryz.ntmps37
   go_upto_region 1 with fail
   obtain ⟨W1, hW1⟩ : ∃ W1, W1 = (w.alloc (.cells #[.string a.var, .int .i64 a.sym.kind, .string a.sym.text, .int .i64 a.sym.n] 25)).alloc (.cells #[.int .i64 0, .string ⟨#[]⟩, .int .i64 0] 23) := ⟨_, rfl⟩
   rw [← hW1]
   have HB1 := Lib.hid (show Below w.heap.size w W1 by rw [hW1]; exact ((Below.refl _ _).alloc (Nat.le_refl _) _).alloc (by simp) _)
   have HK1 := Lib.hid (show Blk W1 (w.heap.size + 1) 23 #[.int .i64 0, .string ⟨#[]⟩, .int .i64 0] by
    rw [hW1]; have := Blk.new (w.alloc (.cells #[.string a.var, .int .i64 a.sym.kind, .string a.sym.text, .int .i64 a.sym.n] 25)) 23 #[.int .i64 0, .string ⟨#[]⟩, .int .i64 0]; rwa [World.size_alloc] at this)
   have hA1 : Blk W1 w.heap.size 25 #[.string a.var, .int .i64 a.sym.kind, .string a.sym.text, .int .i64 a.sym.n] := by rw [hW1]; exact (Blk.new _ _ _).alloc _
   have q0 : W1.cell? ⟨w.heap.size, 0, none⟩ = some (.string a.var) := (hA1.cell 0).trans rfl
   have hq := hA1.lt
   clear hW1 hA1
   go_wp2_with fail
   refine (get_is l a.var W1 (H0.out.new_ HB1.out)).mono ?_
   rintro e w2 ⟨rfl, hb2⟩
   obtain ⟨u0, u1, u2, f0, f1, f2, hu⟩ := (HK1.out.new_ hb2).z3
   have HB2 := Lib.hid (HB1.out.trans (hb2.mono HB1.out.size))
   have hsz := HB2.out.size
   clear hb2
   go_wp2_with fail
   unfold SymTo
   rw [HR.out]
   exact bodyPost_ret (v := .tuple #[.agg #[.int .i64 (getB l a.var).1.kind, .string (getB l a.var).1.text, .int .i64 (getB l a.var).1.n], .bool (getB l a.var).2]) (by simp [results, Tryz.results37, go_sem, *]) rfl ⟨rfl, by (repeat (first | exact Below.refl _ _ | exact HB2.out | refine Below.drew ?_ | refine Below.al ?_ _ | refine Below.sc ?_ _))⟩
set_option maxRecDepth 100000 in
set_option maxHeartbeats 4000000 in
theorem ratomV_is {D : Nat → Prop} {A : Option Addr} {c : Nat} (a : AtomT) (l : List BindT) (w : World) (h : RowR repBindT D w A c l) :
 Calls Tryz.prog 39 #[.agg #[.string a.var, .int .i64 a.sym.kind, .string a.sym.text, .int .i64 a.sym.n], .slice A l.length c] w (SymTo w (atomV a l)) := by
 have H0 := Lib.hid h
 clear h
 by_cases hv : a.var.toList = []
 · have v1 : (a.var.toList == []) = true := by simp [hv]
   have v2 : a.var.toList.isEmpty = true := by simp [hv]
   have v3 : decide (a.var.toList = []) = true := by simp [hv]
   have HR := Lib.hid (show atomV a l = (a.sym, true) by simp [atomV, hv])
   clear hv
   go_enter Tryz.func39, Tryz.ntmps39
   go_wp2_with fail
   unfold SymTo
   rw [HR.out]
   exact bodyPost_ret (v := .tuple #[.agg #[.int .i64 a.sym.kind, .string a.sym.text, .int .i64 a.sym.n], .bool true]) (by simp [results, Tryz.results39, go_sem]) rfl ⟨rfl, by (repeat (first | exact Below.refl _ _ | refine Below.drew ?_ | refine Below.al ?_ _ | refine Below.sc ?_ _))⟩
 · have v1 : (a.var.toList == []) = false := by simp [hv]
   have v2 : a.var.toList.isEmpty = false := by simp [hv]
   have v3 : decide (a.var.toList = []) = false := by simp [hv]
   have HR := Lib.hid (show atomV a l = getB l a.var by simp [atomV, hv])
   clear hv
   go_enter Tryz.func39, Tryz.ntmps39
   go_upto_region 1 with fail
   obtain ⟨W1, hW1⟩ : ∃ W1, W1 = (w.alloc (.cells #[.string a.var, .int .i64 a.sym.kind, .string a.sym.text, .int .i64 a.sym.n] 25)).alloc (.cells #[.int .i64 0, .string ⟨#[]⟩, .int .i64 0] 23) := ⟨_, rfl⟩
   rw [← hW1]
   have HB1 := Lib.hid (show Below w.heap.size w W1 by rw [hW1]; exact ((Below.refl _ _).alloc (Nat.le_refl _) _).alloc (by simp) _)
   have HK1 := Lib.hid (show Blk W1 (w.heap.size + 1) 23 #[.int .i64 0, .string ⟨#[]⟩, .int .i64 0] by
    rw [hW1]; have := Blk.new (w.alloc (.cells #[.string a.var, .int .i64 a.sym.kind, .string a.sym.text, .int .i64 a.sym.n] 25)) 23 #[.int .i64 0, .string ⟨#[]⟩, .int .i64 0]; rwa [World.size_alloc] at this)
   have hA1 : Blk W1 w.heap.size 25 #[.string a.var, .int .i64 a.sym.kind, .string a.sym.text, .int .i64 a.sym.n] := by rw [hW1]; exact (Blk.new _ _ _).alloc _
   have q0 : W1.cell? ⟨w.heap.size, 0, none⟩ = some (.string a.var) := (hA1.cell 0).trans rfl
   have hq := hA1.lt
   clear hW1 hA1
   go_wp2_with fail
   refine (rget_is l a.var W1 (H0.out.new_ HB1.out)).mono ?_
   rintro e w2 ⟨rfl, hb2⟩
   obtain ⟨u0, u1, u2, f0, f1, f2, hu⟩ := (HK1.out.new_ hb2).z3
   have HB2 := Lib.hid (HB1.out.trans (hb2.mono HB1.out.size))
   have hsz := HB2.out.size
   clear hb2
   go_wp2_with fail
   unfold SymTo
   rw [HR.out]
   exact bodyPost_ret (v := .tuple #[.agg #[.int .i64 (getB l a.var).1.kind, .string (getB l a.var).1.text, .int .i64 (getB l a.var).1.n], .bool (getB l a.var).2]) (by simp [results, Tryz.results39, go_sem, *]) rfl ⟨rfl, by (repeat (first | exact Below.refl _ _ | exact HB2.out | refine Below.drew ?_ | refine Below.al ?_ _ | refine Below.sc ?_ _))⟩
end Go.Proofs.YtpndmjabjjbefaaGreat
namespace Go.Proofs.YtpndmjabjjbefaaGreat
open Go.RowKit Go.Shelf
def numB2 (s : Sym) : Bool := decide (s.kind = 2) && validB s
def numR (n : Int) : Sym × Bool := if n < -2147483647 ∨ 2147483647 < n then (zS, false) else (⟨2, ⟨#[]⟩, n⟩, true)
theorem numR_no {n : Int} (h : n < -2147483647 ∨ 2147483647 < n) : numR n = (zS, false) := if_pos h
theorem numR_yes {n : Int} (h : ¬ (n < -2147483647 ∨ 2147483647 < n)) : numR n = (⟨2, ⟨#[]⟩, n⟩, true) := if_neg h
def valueV (t : TermT) (l : List BindT) : Sym × Bool :=
 if (atomV t.a l).2 = false then (zS, false)
 else if t.op = 0 then ((atomV t.a l).1, true)
 else if (atomV t.b l).2 = false ∨ numB2 (atomV t.a l).1 = false ∨ numB2 (atomV t.b l).1 = false then (zS, false)
 else if t.op = 1 then numR ((atomV t.a l).1.n + (atomV t.b l).1.n)
 else if t.op = 2 then numR ((atomV t.a l).1.n - (atomV t.b l).1.n)
 else if t.op = 3 then numR ((atomV t.a l).1.n * (atomV t.b l).1.n)
 else (zS, false)
theorem numB2_le {s : Sym} (h : numB2 s = true) : -2147483647 ≤ s.n ∧ s.n ≤ 2147483647 := by
 obtain ⟨k, t, n⟩ := s
 simp only [numB2, Bool.and_eq_true, decide_eq_true_eq] at h
 obtain ⟨rfl, h⟩ := h
 exact (validB_int h).2
theorem mul_le62 {a b : Int} (h1 : -2147483647 ≤ a) (h2 : a ≤ 2147483647) (h3 : -2147483647 ≤ b) (h4 : b ≤ 2147483647) : -4611686014132420609 ≤ a * b ∧ a * b ≤ 4611686014132420609 := by
 have e : (a * b).natAbs ≤ 2147483647 * 2147483647 := by
  rw [Int.natAbs_mul]; exact Nat.mul_le_mul (by omega) (by omega)
 omega
theorem wrap62 {a : Int} (h1 : -4611686014132420609 ≤ a) (h2 : a ≤ 4611686014132420609) : IntKind.i64.wrap a = a := IntWalk.i64_in _ (by omega)
set_option maxRecDepth 100000 in
set_option maxHeartbeats 4000000 in
theorem number_is (s : Sym) (w : World) : Calls Tryz.prog 38 #[.agg #[.int .i64 s.kind, .string s.text, .int .i64 s.n]] w fun e w' => e = .returned (.bool (numB2 s)) ∧ Below w.heap.size w w' := by
 by_cases hk : s.kind = 2
 · have a1 : (s.kind == 2) = true := by simp [hk]
   have a2 : decide (s.kind = 2) = true := by simp [hk]
   have HR := Lib.hid (show numB2 s = validB s by simp [numB2, hk])
   have HB := Lib.hid ((Below.refl w.heap.size w).alloc (Nat.le_refl _) (.cells #[.int .i64 s.kind, .string s.text, .int .i64 s.n] 23))
   clear hk
   go_enter Tryz.func38, Tryz.ntmps38
   go_wp2_with fail
   refine (valid_is s _).mono ?_
   rintro e w2 ⟨rfl, hb⟩
   have HB2 := Lib.hid (HB.out.trans (hb.mono HB.out.size))
   clear hb
   go_wp2_with fail
   go_ret
   exact ⟨by rw [HR.out] <;> rfl, HB2.out⟩
 · have a1 : (s.kind == 2) = false := by simp [hk]
   have a2 : decide (s.kind = 2) = false := by simp [hk]
   have HR := Lib.hid (show numB2 s = false by simp [numB2, hk])
   clear hk
   go_enter Tryz.func38, Tryz.ntmps38
   go_wp2_with fail
   go_ret
   exact ⟨by rw [HR.out] <;> rfl, (Below.refl _ _).alloc (Nat.le_refl _) _⟩
set_option maxRecDepth 100000 in
set_option maxHeartbeats 8000000 in
theorem value_is {D : Nat → Prop} {A : Option Addr} {c : Nat} (t : TermT) (l : List BindT) (w : World) (h : RowR repBindT D w A c l) :
 Calls Tryz.prog 11 #[.agg #[.int .i64 t.op, .string t.a.var, .int .i64 t.a.sym.kind, .string t.a.sym.text, .int .i64 t.a.sym.n, .string t.b.var, .int .i64 t.b.sym.kind, .string t.b.sym.text, .int .i64 t.b.sym.n], .slice A l.length c] w (SymTo w (valueV t l)) := by
 have H0 := Lib.hid h
 clear h
 obtain ⟨⟨a, oa⟩, ha⟩ : ∃ r, r = atomV t.a l := ⟨_, rfl⟩
 obtain ⟨⟨b, ob⟩, hb0⟩ : ∃ r, r = atomV t.b l := ⟨_, rfl⟩
 obtain ⟨R, hR⟩ : ∃ R, R = valueV t l := ⟨_, rfl⟩
 rw [← hR]
 have HR := Lib.hid hR
 unfold valueV at hR
 rw [← ha, ← hb0] at hR
 dsimp only at hR
 have HV := Lib.hid hR
 have HA := Lib.hid ha
 have HBB := Lib.hid hb0
 clear ha hb0 hR HR
 go_enter Tryz.func11, Tryz.ntmps11
 go_upto_region 1 with fail
 obtain ⟨w1, hw1⟩ : ∃ w1, w1 = ((w.alloc (.cells #[.int .i64 t.op, .string t.a.var, .int .i64 t.a.sym.kind, .string t.a.sym.text, .int .i64 t.a.sym.n, .string t.b.var, .int .i64 t.b.sym.kind, .string t.b.sym.text, .int .i64 t.b.sym.n] 27)).alloc (.cells #[.int .i64 0, .string ⟨#[]⟩, .int .i64 0] 23)) := ⟨_, rfl⟩
 rw [← hw1]
 have HB := Lib.hid (show Below w.heap.size w w1 by rw [hw1]; exact (by repeat (first | exact Below.refl _ _ | refine Below.drew ?_ | refine Below.al ?_ _ | refine Below.sc ?_ _)))
 have Kt := Lib.hid (show Blk w1 (w.heap.size) 27 #[.int .i64 t.op, .string t.a.var, .int .i64 t.a.sym.kind, .string t.a.sym.text, .int .i64 t.a.sym.n, .string t.b.var, .int .i64 t.b.sym.kind, .string t.b.sym.text, .int .i64 t.b.sym.n] by rw [hw1]; exact ((Blk.new w 27 #[.int .i64 t.op, .string t.a.var, .int .i64 t.a.sym.kind, .string t.a.sym.text, .int .i64 t.a.sym.n, .string t.b.var, .int .i64 t.b.sym.kind, .string t.b.sym.text, .int .i64 t.b.sym.n]).alloc (.cells #[.int .i64 0, .string ⟨#[]⟩, .int .i64 0] 23)))
 have Kr := Lib.hid (show Blk w1 (w.heap.size + 1) 23 #[.int .i64 0, .string ⟨#[]⟩, .int .i64 0] by rw [hw1]; have hh := (Blk.new (w.alloc (.cells #[.int .i64 t.op, .string t.a.var, .int .i64 t.a.sym.kind, .string t.a.sym.text, .int .i64 t.a.sym.n, .string t.b.var, .int .i64 t.b.sym.kind, .string t.b.sym.text, .int .i64 t.b.sym.n] 27)) 23 #[.int .i64 0, .string ⟨#[]⟩, .int .i64 0]); simp only [World.size_alloc] at hh; exact hh)
 clear hw1
 obtain ⟨t0, t1, t2, t3, t4, t5, t6, t7, t8⟩ := Kt.out.c9
 have tz := Kt.out.lt
 obtain ⟨r0, r1, r2⟩ := Kr.out.c3
 have rf0 := Kr.out.frozen 0
 have rf1 := Kr.out.frozen 1
 have rf2 := Kr.out.frozen 2
 have rz := Kr.out.lt
 go_wp2_with fail
 have hc := atomV_is t.a l w1 (H0.out.new_ HB.out)
 rw [← HA.out] at hc
 with_reducible refine (hc).mono ?_
 rintro e w2 ⟨rfl, hb⟩
 have hbs := Below.trans (show Below w1.heap.size w1 _ from (by (repeat (first | exact Below.refl _ _ | refine Below.drew ?_ | refine Below.al ?_ _ | refine Below.sc ?_ _)))) (hb.mono (by simp <;> omega))
 have Kt := Lib.hid (Kt.out.new_ hbs)
 have Kr := Lib.hid (Kr.out.new_ hbs)
 have HB := Lib.hid (HB.out.trans (hbs.mono HB.out.size))
 have hsz2 := hbs.size
 clear t0 t1 t2 t3 t4 t5 t6 t7 t8 tz r0 r1 r2 rf0 rf1 rf2 rz hb hbs
 obtain ⟨t0, t1, t2, t3, t4, t5, t6, t7, t8⟩ := Kt.out.c9
 have tz := Kt.out.lt
 obtain ⟨r0, r1, r2⟩ := Kr.out.c3
 have rf0 := Kr.out.frozen 0
 have rf1 := Kr.out.frozen 1
 have rf2 := Kr.out.frozen 2
 have rz := Kr.out.lt
 cases oa
 · skip
   have HF := Lib.hid (show R = (zS, false) by rw [HV.out]; simp)
   go_wp2_with fail
   unfold SymTo
   rw [HF.out]
   exact bodyPost_ret (v := .tuple #[.agg #[.int .i64 0, .string ⟨#[]⟩, .int .i64 0], .bool false]) (by simp [results, Tryz.results11, go_sem, *]) rfl ⟨rfl, by (repeat (first | exact Below.refl _ _ | exact HB.out | refine Below.drew ?_ | refine Below.al ?_ _ | refine Below.sc ?_ _))⟩
 · skip
   by_cases hop : t.op = 0
   · skip
     have qoa : (t.op == 0) = true := by simp [hop]
     have qob : decide (t.op = 0) = true := by simp [hop]
     have HF := Lib.hid (show R = (a, true) by rw [HV.out]; simp [hop])
     clear hop
     go_wp2_with fail
     unfold SymTo
     rw [HF.out]
     exact bodyPost_ret (v := .tuple #[.agg #[.int .i64 a.kind, .string a.text, .int .i64 a.n], .bool true]) (by simp [results, Tryz.results11, go_sem, *]) rfl ⟨rfl, by (repeat (first | exact Below.refl _ _ | exact HB.out | refine Below.drew ?_ | refine Below.al ?_ _ | refine Below.sc ?_ _))⟩
   · skip
     have qoa : (t.op == 0) = false := by simp [hop]
     have qob : decide (t.op = 0) = false := by simp [hop]
     have hc := fun W (hb : Below w.heap.size w W) => atomV_is t.b l W (H0.out.new_ hb)
     simp only [← HBB.out] at hc
     have HC := Lib.hid hc
     clear hc
     go_wp2_with fail
     with_reducible refine (HC.out _ (by (repeat (first | exact Below.refl _ _ | exact HB.out | refine Below.drew ?_ | refine Below.al ?_ _ | refine Below.sc ?_ _)))).mono ?_
     rintro e w3 ⟨rfl, hb⟩
     have hbs := Below.trans (show Below w2.heap.size w2 _ from (by (repeat (first | exact Below.refl _ _ | refine Below.drew ?_ | refine Below.al ?_ _ | refine Below.sc ?_ _)))) (hb.mono (by simp <;> omega))
     have Kt := Lib.hid (Kt.out.new_ hbs)
     have Kr := Lib.hid (Kr.out.new_ hbs)
     have Ka := Lib.hid (show Blk w3 (w2.heap.size) 23 #[.int .i64 a.kind, .string a.text, .int .i64 a.n] from (Blk.new _ _ _).new_ hb)
     have HB := Lib.hid (HB.out.trans (hbs.mono HB.out.size))
     have hsz3 := hbs.size
     clear t0 t1 t2 t3 t4 t5 t6 t7 t8 tz r0 r1 r2 rf0 rf1 rf2 rz hb hbs
     obtain ⟨t0, t1, t2, t3, t4, t5, t6, t7, t8⟩ := Kt.out.c9
     have tz := Kt.out.lt
     obtain ⟨r0, r1, r2⟩ := Kr.out.c3
     have rf0 := Kr.out.frozen 0
     have rf1 := Kr.out.frozen 1
     have rf2 := Kr.out.frozen 2
     have rz := Kr.out.lt
     obtain ⟨a0, a1, a2⟩ := Ka.out.c3
     have az := Ka.out.lt
     cases ob
     · skip
       have HF := Lib.hid (show R = (zS, false) by rw [HV.out]; simp [hop])
       go_wp2_with fail
       unfold SymTo
       rw [HF.out]
       exact bodyPost_ret (v := .tuple #[.agg #[.int .i64 0, .string ⟨#[]⟩, .int .i64 0], .bool false]) (by simp [results, Tryz.results11, go_sem, *]) rfl ⟨rfl, by (repeat (first | exact Below.refl _ _ | exact HB.out | refine Below.drew ?_ | refine Below.al ?_ _ | refine Below.sc ?_ _))⟩
     · skip
       cases hna : numB2 a
       · skip
         have hc := fun W => number_is a W
         simp only [hna] at hc
         have HC := Lib.hid hc
         clear hc
         go_wp2_with fail
         with_reducible refine (HC.out _).mono ?_
         rintro e w4 ⟨rfl, hb⟩
         have hbs := Below.trans (show Below w3.heap.size w3 _ from (by (repeat (first | exact Below.refl _ _ | refine Below.drew ?_ | refine Below.al ?_ _ | refine Below.sc ?_ _)))) (hb.mono (by simp <;> omega))
         have Kt := Lib.hid (Kt.out.new_ hbs)
         have Kr := Lib.hid (Kr.out.new_ hbs)
         have Ka := Lib.hid (Ka.out.new_ hbs)
         have Kb := Lib.hid (show Blk w4 (w3.heap.size) 23 #[.int .i64 b.kind, .string b.text, .int .i64 b.n] from (Blk.new _ _ _).new_ hb)
         have HB := Lib.hid (HB.out.trans (hbs.mono HB.out.size))
         have hsz4 := hbs.size
         clear t0 t1 t2 t3 t4 t5 t6 t7 t8 tz r0 r1 r2 rf0 rf1 rf2 rz a0 a1 a2 az hb hbs
         obtain ⟨t0, t1, t2, t3, t4, t5, t6, t7, t8⟩ := Kt.out.c9
         have tz := Kt.out.lt
         obtain ⟨r0, r1, r2⟩ := Kr.out.c3
         have rf0 := Kr.out.frozen 0
         have rf1 := Kr.out.frozen 1
         have rf2 := Kr.out.frozen 2
         have rz := Kr.out.lt
         obtain ⟨a0, a1, a2⟩ := Ka.out.c3
         have az := Ka.out.lt
         obtain ⟨b0, b1, b2⟩ := Kb.out.c3
         have bz := Kb.out.lt
         have HF := Lib.hid (show R = (zS, false) by rw [HV.out]; simp [hop, hna])
         go_wp2_with fail
         unfold SymTo
         rw [HF.out]
         exact bodyPost_ret (v := .tuple #[.agg #[.int .i64 0, .string ⟨#[]⟩, .int .i64 0], .bool false]) (by simp [results, Tryz.results11, go_sem, *]) rfl ⟨rfl, by (repeat (first | exact Below.refl _ _ | exact HB.out | refine Below.drew ?_ | refine Below.al ?_ _ | refine Below.sc ?_ _))⟩
       · skip
         have hc := fun W => number_is a W
         simp only [hna] at hc
         have HC := Lib.hid hc
         clear hc
         go_wp2_with fail
         with_reducible refine (HC.out _).mono ?_
         rintro e w4 ⟨rfl, hb⟩
         have hbs := Below.trans (show Below w3.heap.size w3 _ from (by (repeat (first | exact Below.refl _ _ | refine Below.drew ?_ | refine Below.al ?_ _ | refine Below.sc ?_ _)))) (hb.mono (by simp <;> omega))
         have Kt := Lib.hid (Kt.out.new_ hbs)
         have Kr := Lib.hid (Kr.out.new_ hbs)
         have Ka := Lib.hid (Ka.out.new_ hbs)
         have Kb := Lib.hid (show Blk w4 (w3.heap.size) 23 #[.int .i64 b.kind, .string b.text, .int .i64 b.n] from (Blk.new _ _ _).new_ hb)
         have HB := Lib.hid (HB.out.trans (hbs.mono HB.out.size))
         have hsz4 := hbs.size
         clear t0 t1 t2 t3 t4 t5 t6 t7 t8 tz r0 r1 r2 rf0 rf1 rf2 rz a0 a1 a2 az hb hbs
         obtain ⟨t0, t1, t2, t3, t4, t5, t6, t7, t8⟩ := Kt.out.c9
         have tz := Kt.out.lt
         obtain ⟨r0, r1, r2⟩ := Kr.out.c3
         have rf0 := Kr.out.frozen 0
         have rf1 := Kr.out.frozen 1
         have rf2 := Kr.out.frozen 2
         have rz := Kr.out.lt
         obtain ⟨a0, a1, a2⟩ := Ka.out.c3
         have az := Ka.out.lt
         obtain ⟨b0, b1, b2⟩ := Kb.out.c3
         have bz := Kb.out.lt
         cases hnb : numB2 b
         · skip
           have hc := fun W => number_is b W
           simp only [hnb] at hc
           have HC := Lib.hid hc
           clear hc
           go_wp2_with fail
           with_reducible refine (HC.out _).mono ?_
           rintro e w5 ⟨rfl, hb⟩
           have hbs := Below.trans (show Below w4.heap.size w4 _ from (by (repeat (first | exact Below.refl _ _ | refine Below.drew ?_ | refine Below.al ?_ _ | refine Below.sc ?_ _)))) (hb.mono (by simp <;> omega))
           have Kt := Lib.hid (Kt.out.new_ hbs)
           have Kr := Lib.hid (Kr.out.new_ hbs)
           have Ka := Lib.hid (Ka.out.new_ hbs)
           have Kb := Lib.hid (Kb.out.new_ hbs)
           have HB := Lib.hid (HB.out.trans (hbs.mono HB.out.size))
           have hsz5 := hbs.size
           clear t0 t1 t2 t3 t4 t5 t6 t7 t8 tz r0 r1 r2 rf0 rf1 rf2 rz a0 a1 a2 az b0 b1 b2 bz hb hbs
           obtain ⟨t0, t1, t2, t3, t4, t5, t6, t7, t8⟩ := Kt.out.c9
           have tz := Kt.out.lt
           obtain ⟨r0, r1, r2⟩ := Kr.out.c3
           have rf0 := Kr.out.frozen 0
           have rf1 := Kr.out.frozen 1
           have rf2 := Kr.out.frozen 2
           have rz := Kr.out.lt
           obtain ⟨a0, a1, a2⟩ := Ka.out.c3
           have az := Ka.out.lt
           obtain ⟨b0, b1, b2⟩ := Kb.out.c3
           have bz := Kb.out.lt
           have HF := Lib.hid (show R = (zS, false) by rw [HV.out]; simp [hop, hnb])
           go_wp2_with fail
           unfold SymTo
           rw [HF.out]
           exact bodyPost_ret (v := .tuple #[.agg #[.int .i64 0, .string ⟨#[]⟩, .int .i64 0], .bool false]) (by simp [results, Tryz.results11, go_sem, *]) rfl ⟨rfl, by (repeat (first | exact Below.refl _ _ | exact HB.out | refine Below.drew ?_ | refine Below.al ?_ _ | refine Below.sc ?_ _))⟩
         · skip
           have hc := fun W => number_is b W
           simp only [hnb] at hc
           have HC := Lib.hid hc
           clear hc
           go_wp2_with fail
           with_reducible refine (HC.out _).mono ?_
           rintro e w5 ⟨rfl, hb⟩
           have hbs := Below.trans (show Below w4.heap.size w4 _ from (by (repeat (first | exact Below.refl _ _ | refine Below.drew ?_ | refine Below.al ?_ _ | refine Below.sc ?_ _)))) (hb.mono (by simp <;> omega))
           have Kt := Lib.hid (Kt.out.new_ hbs)
           have Kr := Lib.hid (Kr.out.new_ hbs)
           have Ka := Lib.hid (Ka.out.new_ hbs)
           have Kb := Lib.hid (Kb.out.new_ hbs)
           have HB := Lib.hid (HB.out.trans (hbs.mono HB.out.size))
           have hsz5 := hbs.size
           clear t0 t1 t2 t3 t4 t5 t6 t7 t8 tz r0 r1 r2 rf0 rf1 rf2 rz a0 a1 a2 az b0 b1 b2 bz hb hbs
           obtain ⟨t0, t1, t2, t3, t4, t5, t6, t7, t8⟩ := Kt.out.c9
           have tz := Kt.out.lt
           obtain ⟨r0, r1, r2⟩ := Kr.out.c3
           have rf0 := Kr.out.frozen 0
           have rf1 := Kr.out.frozen 1
           have rf2 := Kr.out.frozen 2
           have rz := Kr.out.lt
           obtain ⟨a0, a1, a2⟩ := Ka.out.c3
           have az := Ka.out.lt
           obtain ⟨b0, b1, b2⟩ := Kb.out.c3
           have bz := Kb.out.lt
           obtain ⟨n1, n2⟩ := numB2_le hna
           obtain ⟨n3, n4⟩ := numB2_le hnb
           obtain ⟨n5, n6⟩ := mul_le62 n1 n2 n3 n4
           have v7 := wrap62 n5 n6
           by_cases h1 : t.op = 1
           · skip
             have j1a : (t.op == 1) = true := by simp [h1]
             have j1b : decide (t.op = 1) = true := by simp [h1]
             have HF := Lib.hid (show R = numR (a.n + b.n) by rw [HV.out]; simp [hna, hnb, h1])
             clear hop hna hnb h1
             go_wp2_with fail
             all_goals
              unfold SymTo
              first
              | (rw [HF.out, numR_no (by omega)]; exact bodyPost_ret (v := .tuple #[.agg #[.int .i64 0, .string ⟨#[]⟩, .int .i64 0], .bool false]) (by simp [results, Tryz.results11, go_sem, *]) rfl ⟨rfl, by (repeat (first | exact Below.refl _ _ | exact HB.out | refine Below.drew ?_ | refine Below.al ?_ _ | refine Below.sc ?_ _))⟩)
              | (rw [HF.out, numR_yes (by omega)]; exact bodyPost_ret (v := .tuple #[.agg #[.int .i64 2, .string ⟨#[]⟩, .int .i64 (a.n + b.n)], .bool true]) (by simp [results, Tryz.results11, go_sem, *]) rfl ⟨rfl, by (repeat (first | exact Below.refl _ _ | exact HB.out | refine Below.drew ?_ | refine Below.al ?_ _ | refine Below.sc ?_ _))⟩)
           · skip
             by_cases h2 : t.op = 2
             · skip
               have j1a : (t.op == 1) = false := by simp [h2]
               have j1b : decide (t.op = 1) = false := by simp [h2]
               have j2a : (t.op == 2) = true := by simp [h2]
               have j2b : decide (t.op = 2) = true := by simp [h2]
               have HF := Lib.hid (show R = numR (a.n - b.n) by rw [HV.out]; simp [hna, hnb, h2])
               clear hop hna hnb h1 h2
               go_wp2_with fail
               all_goals
                unfold SymTo
                first
                | (rw [HF.out, numR_no (by omega)]; exact bodyPost_ret (v := .tuple #[.agg #[.int .i64 0, .string ⟨#[]⟩, .int .i64 0], .bool false]) (by simp [results, Tryz.results11, go_sem, *]) rfl ⟨rfl, by (repeat (first | exact Below.refl _ _ | exact HB.out | refine Below.drew ?_ | refine Below.al ?_ _ | refine Below.sc ?_ _))⟩)
                | (rw [HF.out, numR_yes (by omega)]; exact bodyPost_ret (v := .tuple #[.agg #[.int .i64 2, .string ⟨#[]⟩, .int .i64 (a.n - b.n)], .bool true]) (by simp [results, Tryz.results11, go_sem, *]) rfl ⟨rfl, by (repeat (first | exact Below.refl _ _ | exact HB.out | refine Below.drew ?_ | refine Below.al ?_ _ | refine Below.sc ?_ _))⟩)
             · skip
               by_cases h3 : t.op = 3
               · skip
                 have j1a : (t.op == 1) = false := by simp [h3]
                 have j1b : decide (t.op = 1) = false := by simp [h3]
                 have j2a : (t.op == 2) = false := by simp [h3]
                 have j2b : decide (t.op = 2) = false := by simp [h3]
                 have j3a : (t.op == 3) = true := by simp [h3]
                 have j3b : decide (t.op = 3) = true := by simp [h3]
                 have HF := Lib.hid (show R = numR (a.n * b.n) by rw [HV.out]; simp [hna, hnb, h3])
                 clear hop hna hnb h1 h2 h3
                 go_wp2_with fail
                 all_goals
                  unfold SymTo
                  first
                  | (rw [HF.out, numR_no (by omega)]; exact bodyPost_ret (v := .tuple #[.agg #[.int .i64 0, .string ⟨#[]⟩, .int .i64 0], .bool false]) (by simp [results, Tryz.results11, go_sem, *]) rfl ⟨rfl, by (repeat (first | exact Below.refl _ _ | exact HB.out | refine Below.drew ?_ | refine Below.al ?_ _ | refine Below.sc ?_ _))⟩)
                  | (rw [HF.out, numR_yes (by omega)]; exact bodyPost_ret (v := .tuple #[.agg #[.int .i64 2, .string ⟨#[]⟩, .int .i64 (a.n * b.n)], .bool true]) (by simp [results, Tryz.results11, go_sem, *]) rfl ⟨rfl, by (repeat (first | exact Below.refl _ _ | exact HB.out | refine Below.drew ?_ | refine Below.al ?_ _ | refine Below.sc ?_ _))⟩)
               · skip
                 have j1a : (t.op == 1) = false := by simp [h1]
                 have j1b : decide (t.op = 1) = false := by simp [h1]
                 have j2a : (t.op == 2) = false := by simp [h2]
                 have j2b : decide (t.op = 2) = false := by simp [h2]
                 have j3a : (t.op == 3) = false := by simp [h3]
                 have j3b : decide (t.op = 3) = false := by simp [h3]
                 have HF := Lib.hid (show R = (zS, false) by rw [HV.out]; simp [hop, hna, hnb, h1, h2, h3])
                 go_wp2_with fail
                 unfold SymTo
                 rw [HF.out]
                 exact bodyPost_ret (v := .tuple #[.agg #[.int .i64 0, .string ⟨#[]⟩, .int .i64 0], .bool false]) (by simp [results, Tryz.results11, go_sem, *]) rfl ⟨rfl, by (repeat (first | exact Below.refl _ _ | exact HB.out | refine Below.drew ?_ | refine Below.al ?_ _ | refine Below.sc ?_ _))⟩
end Go.Proofs.YtpndmjabjjbefaaGreat
namespace Go.Proofs.YtpndmjabjjbefaaGreat
def needsA (a : ActT) : List ByteArray := [a.id, if a.value.op = 0 then a.value.a.var else ⟨#[]⟩, a.other.var]
def mkB (v : ByteArray) : BindT := ⟨v, zS⟩
def newsV : List BindT → List ByteArray → List ByteArray
 | _, [] => []
 | h, v :: r => if (getB h v).2 = true ∨ v.toList = [] then newsV h r else v :: newsV (h ++ [mkB v]) r
theorem newsV_skip {h : List BindT} {v : ByteArray} {r : List ByteArray} (h1 : (getB h v).2 = true ∨ v.toList = []) : newsV h (v :: r) = newsV h r := by rw [newsV, if_pos h1]
theorem newsV_take {h : List BindT} {v : ByteArray} {r : List ByteArray} (h1 : (getB h v).2 = false) (h2 : ¬ v.toList = []) : newsV h (v :: r) = v :: newsV (h ++ [mkB v]) r := by rw [newsV, if_neg (by rw [h1]; simp [h2])]
theorem newsV_nil (h : List BindT) : newsV h [] = [] := by rw [newsV]
theorem needs_len (a : ActT) : (needsA a).length = 3 := rfl
def encStr (v : ByteArray) : Array Value := #[.string v]
end Go.Proofs.YtpndmjabjjbefaaGreat
namespace Go.Proofs.YtpndmjabjjbefaaGreat
open Go.RowKit
variable {P : Program}
structure Kept (B : Nat) (F X Y : World) : Prop where
 from_ : KeepsFrom B X Y
 own : ∀ k, B ≤ k → k < F.heap.size → Y.heap[k]? = X.heap[k]?
section
variable {B C : Nat} {F X Y Z : World}
theorem Kept.refl (B : Nat) (F X : World) : Kept B F X X := ⟨⟨Nat.le_refl _, fun _ _ _ h _ => h⟩, fun _ _ _ => rfl⟩
theorem Kept.trans (h : Kept B F X Y) (k : Kept B F Y Z) : Kept B F X Z := ⟨h.1.trans k.1, fun i h1 h2 => (k.2 i h1 h2).trans (h.2 i h1 h2)⟩
theorem Kept.up (h : Kept B F X Y) (hB : B ≤ C) : Kept C F X Y := ⟨KeepsFrom.up h.1 hB, fun i h1 h2 => h.2 i (by omega) h2⟩
theorem Kept.put_ {l : Nat} (h : Kept B F X Y) (hl : l < B) (o : Obj) : Kept B F X (Y.putObj l o) := ⟨KeepsFrom.put_ h.1 hl o, fun i h1 h2 => (World.putObj_heap_other (by omega)).trans (h.2 i h1 h2)⟩
theorem Kept.new_ (h : Below X.heap.size X Y) (hs : F.heap.size ≤ X.heap.size) : Kept B F X Y :=
 ⟨⟨h.size, fun k o _ hk _ => (h.block k (Array.getElem?_eq_some_iff.1 hk).1).trans hk⟩, fun k _ hk => h.block k (by omega)⟩
theorem Kept.of_fr {M : Nat → Prop} (h : Fr M X Y) (hm : ∀ k, B ≤ k → M k → F.heap.size ≤ k ∧ (k < X.heap.size → cellsAt X k)) (hs : F.heap.size ≤ X.heap.size) : Kept B F X Y :=
 ⟨⟨h.size, fun k o hB hk hc => (h.block k (Array.getElem?_eq_some_iff.1 hk).1 (fun hM => by
   obtain ⟨c, t, f, hh⟩ := (hm k hB hM).2 (Array.getElem?_eq_some_iff.1 hk).1
   rw [hh] at hk
   cases hk
   cases hc)).trans hk⟩, fun k h1 h2 => h.block k (by omega) (fun hM => by have := (hm k h1 hM).1; omega)⟩
end
def IterP {α : Type} (P : Program) (gf : Nat) (lb : Array Value) (encs : α → Array Value) (xs : List α) (W : World) (start Kp : World → World → Prop) : Prop :=
 ∀ (l : Nat) (J Jx : World → List α → World → Prop), (∀ F p X Y, J F p X → Priv W.heap.size X Y → J F p Y) → (∀ F p X Y, Jx F p X → Priv W.heap.size X Y → Jx F p Y) →
   (∀ F, start W F → J F [] F) →
   (∀ F pre x post W1, start W F → xs = pre ++ x :: post → J F pre W1 → YieldAt Fence.wide 0 P l (encs x) W1 fun e W' =>
    (e = .returned (.bool true) ∧ J F (pre ++ [x]) W' ∧ Kp W1 W' ∧ Kept W.heap.size F W1 W') ∨ (e = .returned (.bool false) ∧ Jx F (pre ++ [x]) W' ∧ Kept W.heap.size F W1 W')) →
   CallsIn Fence.wide 0 P gf (#[.func (.yield l) #[] #[]] ++ lb) W fun e W' => (∃ v, e = .returned v) ∧ ∃ F, start W F ∧ (J F xs W' ∨ ∃ pre post, xs = pre ++ post ∧ Jx F pre W')
theorem Iter.p {α : Type} {gf : Nat} {lb : Array Value} {encs : α → Array Value} {xs : List α} {W : World} {start Kp : World → World → Prop} (h : Iter P gf lb encs xs W start (fun X Y => Kp X Y ∧ KeepsFrom W.heap.size X Y)) : IterP P gf lb encs xs W start Kp := by
 intro l J Jx h1 h2 h3 h4
 refine (h l (fun p X => ∃ F, start W F ∧ J F p X) (fun p X => ∃ F, start W F ∧ Jx F p X) (fun p X Y ⟨F, a, b⟩ hp => ⟨F, a, h1 F p X Y b hp⟩) (fun p X Y ⟨F, a, b⟩ hp => ⟨F, a, h2 F p X Y b hp⟩) (fun F hF => ⟨F, hF, h3 F hF⟩) ?_).mono ?_
 · rintro pre x post W1 hx ⟨F, hF, hJ⟩
   obtain ⟨fn, tmps, assign, body, hy, hR⟩ := h4 F pre x post W1 hF hx hJ
   refine ⟨fn, tmps, assign, body, hy, hR.mono ?_⟩
   rintro e W' (⟨g1, g2, g3, g4⟩ | ⟨g1, g2, _⟩)
   · exact .inl ⟨g1, ⟨F, hF, g2⟩, g3, g4.1⟩
   · exact .inr ⟨g1, F, hF, g2⟩
 · rintro e W' ⟨hv, (⟨F, hF, hJ⟩ | ⟨pre, post, hx, F, hF, hJ⟩)⟩
   · exact ⟨hv, F, hF, .inl hJ⟩
   · exact ⟨hv, F, hF, .inr ⟨pre, post, hx, hJ⟩⟩
end Go.Proofs.YtpndmjabjjbefaaGreat
