/-
  Texts put together: SymDigits, SymValid, LeafName, ShapePlain, Sets, OpsSym, IterBase, Seq, IterSym, ListSym, KitSyms, Act1, Act4P, NamesP, VarsP, Own, RangeP.
-/
import Derived.Test.YtffemfglngikbaaGreatBb
import Derived.Lib.SlBytesRow
import Derived.Test.YtffemfglngikbaaGreatBa
import Derived.Deep.Cut
import Derived.Test.YtffemfglngikbaaGreatRows
import Derived.Maps.RangeWalk
namespace Go.Proofs.YtffemfglngikbaaGreat
open Go.RowKit
def byte1 (n : Nat) : ByteArray := ⟨#[UInt8.ofNat (48 + n)]⟩
theorem conv1 (n : Nat) (h : n < 10) (W : World) (g : Nat) (hc : W.cell? ⟨g, 0, none⟩ = some (.int .u8 (48 + (n : Int)))) : (convert 184 9 (.slice (some ⟨g, 0, none⟩) 1 1)).run Tryz.prog W = .ok (.string (byte1 n)) W :=
 Lib.run_convert_whole (P := Tryz.prog) W 184 5 9 Tryz.underlying184 Tryz.underlying5 Tryz.underlying9 g 0 (byte1 n) (fun i hi => by
  have : i = 0 := by have : (byte1 n).size = 1 := rfl; omega
  subst this
  rw [Nat.add_zero, hc]
  have e : (byte1 n)[0].toNat = 48 + n := by show (UInt8.ofNat (48 + n)).toNat = 48 + n; simp; omega
  rw [e]
  simp) 1
def decB (n : Nat) : ByteArray := if n < 10 then byte1 n else decB (n / 10) ++ byte1 (n % 10)
theorem byte1_size (n : Nat) : (byte1 n).size = 1 := rfl
theorem decB_size (n : Nat) : (decB n).size ≤ n + 1 := by
 induction n using Nat.strongRecOn with
 | _ n ih =>
   rw [decB]
   split
   · rw [byte1_size]; omega
   · have h1 := ih (n / 10) (by omega)
     rw [ByteArray.size_append, byte1_size]; omega
set_option maxRecDepth 100000 in
set_option maxHeartbeats 4000000 in
theorem digits_step (n : Nat) (h : ¬ n < 10) (hn : n ≤ 4000000000) (ih : ∀ w, Calls Tryz.prog 270 #[.int .i64 ((n / 10 : Nat) : Int)] w fun e w' => e = .returned (.string (decB (n / 10))) ∧ Below w.heap.size w w') (w : World) : Calls Tryz.prog 270 #[.int .i64 n] w fun e w' => e = .returned (.string (decB n)) ∧ Below w.heap.size w w' := by
 have t1 : decide ((n : Int) < 10) = false := by simp; omega
 have b0 : (0 : Int) ≤ (n : Int) := by omega
 have b1 : (n : Int) ≤ 4000000000 := by omega
 have hc := conv1 (n % 10) (by omega)
 have e1 : ((n : Int) / 10) = ((n / 10 : Nat) : Int) := by omega
 have e2 : ((n : Int) % 10) = ((n % 10 : Nat) : Int) := by omega
 have m0 : (0 : Int) ≤ ((n % 10 : Nat) : Int) := by omega
 have m1 : ((n % 10 : Nat) : Int) ≤ 9 := by omega
 obtain ⟨m, hm⟩ : ∃ m, m = n % 10 := ⟨_, rfl⟩
 obtain ⟨q, hq⟩ : ∃ q, q = n / 10 := ⟨_, rfl⟩
 rw [← hm] at hc e2 m0 m1
 rw [← hq] at e1 ih
 have HD : Hid (decB n = decB q ++ byte1 m) := by rw [decB, if_neg h, hm, hq]; rfl
 have v1 : IntKind.i64.wrap (q : Int) = (q : Int) := IntWalk.i64_in _ (by omega)
 have v2 : ((n : Int)).tmod 10 = (m : Int) := by rw [Int.tmod_eq_emod_of_nonneg b0, e2]
 have v3 : IntKind.i64.wrap (48 + (m : Int)) = 48 + (m : Int) := IntWalk.i64_in _ (by omega)
 have v4 : IntKind.u8.wrap (48 + (m : Int)) = 48 + (m : Int) := by simp [IntKind.wrap, IntKind.signed, IntKind.bits]; omega
 have hz : ¬ 9223372036854775807 < (decB q).size + (byte1 m).size := by have := decB_size q; rw [byte1_size]; omega
 clear e2
 have IH := Lib.hid ih
 have HC := Lib.hid hc
 clear ih h hm hq hc
 go_enter Tryz.func270, Tryz.ntmps270
 go_wp2_with fail
 refine wp_region_Pl (fun _ => True) [0, 1, 3, 4, 5, 6, 9, 10] [] (.fork [(0, 0), (1, 0), (3, 0), (4, 0), (5, 0), (6, 0)] 2 (.fin [(7, 2), (8, 2), (9, 0), (10, 0)]) 7 (.fork [] 2 (.fin [(8, 2), (9, 0), (10, 0)]) 8 (.fin [(2, 2), (9, 0), (10, 0)]))) (by kernel_rfl) (by kernel_rfl) (by kernel_rfl) (fun KK hKK => ?_)
 simp only [wpPl, beside, List.filterMap_cons, List.filterMap_nil, List.getElem?_toArray, List.getElem?_cons_zero, List.getElem?_cons_succ, Option.map_some, List.any_nil]
 repeat (refine wpY_w ?_ (Or.inl ⟨by rfl, fun w9 => ?_⟩) ?_; rotate_left 1; go_simp; with_reducible rfl; go_frame)
 refine wpY_nil ⟨?_, ?_⟩
 · refine wpOp_c (fun _ => by simp) rfl (fun K9 hK9 => ?_)
   go_simp
   refine (IH.out _).mono ?_
   rintro e w1 ⟨rfl, hb1⟩
   refine hK9 _ _ ?_
   clear hK9 K9
   try go_frame
   refine wpY_e (by rfl) (fun K9 hK9 => ?_)
   go_simp
   refine hK9 _ _ ?_
   clear hK9 K9
   try go_frame
   refine wpY_e (by rfl) (fun K9 hK9 => ?_)
   have hc := HC.out (w1.alloc (.cells #[.int .u8 (48 + (m : Int))] 5)) w1.heap.size ((Blk.new _ _ _).cell 0)
   go_simp
   refine hK9 _ _ ?_
   clear hK9 K9 hc
   try go_frame
   repeat (refine wpY_w ?_ (Or.inl ⟨by rfl, fun w9 => ?_⟩) ?_; rotate_left 1; go_simp; with_reducible rfl; go_frame)
   refine wpY_nil ?_
   simp only [OnlyN_normal]
   refine hKK _ _ ?_
   clear hKK KK
   go_wp2_with fail
   go_ret
   exact ⟨by rw [HD.out]; rfl, ((Below.refl _ _).drew.trans (hb1.mono (by simp))).alloc (by have := hb1.size; simpa using this) _⟩
 · refine wpOp_c (fun _ => by simp) rfl (fun K9 hK9 => ?_)
   go_simp
   refine hK9 _ _ ?_
   clear hK9 K9
   try go_frame
   try simp only [beside]
   refine wpY_nil ⟨?_, ?_⟩
   · refine wpOp_c (fun _ => by simp) rfl (fun K9 hK9 => ?_)
     go_simp
     refine (IH.out _).mono ?_
     rintro e w1 ⟨rfl, hb1⟩
     refine hK9 _ _ ?_
     clear hK9 K9
     try go_frame
     refine wpY_e (by rfl) (fun K9 hK9 => ?_)
     have hc := HC.out w1 w.heap.size ((hb1.cell (by simp)).trans ((Blk.new w.drew 5 #[.int .u8 (48 + (m : Int))]).cell 0))
     go_simp
     refine hK9 _ _ ?_
     clear hK9 K9 hc
     try go_frame
     repeat (refine wpY_w ?_ (Or.inl ⟨by rfl, fun w9 => ?_⟩) ?_; rotate_left 1; go_simp; with_reducible rfl; go_frame)
     refine wpY_nil ?_
     simp only [OnlyN_normal]
     refine hKK _ _ ?_
     clear hKK KK
     go_wp2_with fail
     go_ret
     exact ⟨by rw [HD.out]; rfl, ((Below.refl _ _).drew.alloc (by simp) _).trans (hb1.mono (by simp))⟩
   · refine wpOp_c (fun _ => by simp) rfl (fun K9 hK9 => ?_)
     have hc := HC.out (w.alloc (.cells #[.int .u8 (48 + (m : Int))] 5)).drew w.heap.size (((Blk.new w 5 #[.int .u8 (48 + (m : Int))]).drew.cell 0).trans rfl)
     go_simp
     refine hK9 _ _ ?_
     clear hK9 K9 hc
     try go_frame
     refine wpY_e (by rfl) (fun K9 hK9 => ?_)
     go_simp
     refine (IH.out _).mono ?_
     rintro e w1 ⟨rfl, hb1⟩
     refine hK9 _ _ ?_
     clear hK9 K9
     try go_frame
     repeat (refine wpY_w ?_ (Or.inl ⟨by rfl, fun w9 => ?_⟩) ?_; rotate_left 1; go_simp; with_reducible rfl; go_frame)
     refine wpY_nil ?_
     simp only [OnlyN_normal]
     refine hKK _ _ ?_
     clear hKK KK
     go_wp2_with fail
     go_ret
     exact ⟨by rw [HD.out]; rfl, ((Below.refl _ _).drew.alloc (by simp) _).trans (hb1.mono (by simp))⟩
set_option maxRecDepth 100000 in
set_option maxHeartbeats 1000000 in
theorem digits_base (n : Nat) (h : n < 10) (w : World) : Calls Tryz.prog 270 #[.int .i64 n] w fun e w' => e = .returned (.string (decB n)) ∧ Below w.heap.size w w' := by
 have t1 : decide ((n : Int) < 10) = true := by simp; omega
 have b0 : (0 : Int) ≤ (n : Int) := by omega
 have b1 : (n : Int) ≤ 9 := by omega
 have hc := conv1 n h (w.alloc (.cells #[.int .u8 (48 + (n : Int))] 5)) w.heap.size ((Blk.new _ _ _).cell 0)
 have HD : Hid (decB n = byte1 n) := by rw [decB, if_pos h]; rfl
 clear h
 go_enter Tryz.func270, Tryz.ntmps270
 go_wp2_with fail
 go_ret
 exact ⟨by rw [HD.out]; rfl, (Below.refl _ _).alloc (Nat.le_refl _) _⟩
theorem digits_is (n : Nat) (hn : n ≤ 4000000000) (w : World) : Calls Tryz.prog 270 #[.int .i64 n] w fun e w' => e = .returned (.string (decB n)) ∧ Below w.heap.size w w' := by
 induction n using Nat.strongRecOn generalizing w with
 | _ n ih =>
   by_cases h : n < 10
   · exact digits_base n h w
   · exact digits_step n h hn (fun w => ih (n / 10) (by omega) (by omega) w) w
set_option maxRecDepth 100000 in
set_option maxHeartbeats 4000000 in
theorem cdigits_step (n : Nat) (h : ¬ n < 10) (hn : n ≤ 4000000000) (ih : ∀ w, Calls Tryz.prog 95 #[.int .i64 ((n / 10 : Nat) : Int)] w fun e w' => e = .returned (.string (decB (n / 10))) ∧ Below w.heap.size w w') (w : World) : Calls Tryz.prog 95 #[.int .i64 n] w fun e w' => e = .returned (.string (decB n)) ∧ Below w.heap.size w w' := by
 have t1 : decide ((n : Int) < 10) = false := by simp; omega
 have b0 : (0 : Int) ≤ (n : Int) := by omega
 have b1 : (n : Int) ≤ 4000000000 := by omega
 have hc := conv1 (n % 10) (by omega)
 have e1 : ((n : Int) / 10) = ((n / 10 : Nat) : Int) := by omega
 have e2 : ((n : Int) % 10) = ((n % 10 : Nat) : Int) := by omega
 have m0 : (0 : Int) ≤ ((n % 10 : Nat) : Int) := by omega
 have m1 : ((n % 10 : Nat) : Int) ≤ 9 := by omega
 obtain ⟨m, hm⟩ : ∃ m, m = n % 10 := ⟨_, rfl⟩
 obtain ⟨q, hq⟩ : ∃ q, q = n / 10 := ⟨_, rfl⟩
 rw [← hm] at hc e2 m0 m1
 rw [← hq] at e1 ih
 have HD : Hid (decB n = decB q ++ byte1 m) := by rw [decB, if_neg h, hm, hq]; rfl
 have v1 : IntKind.i64.wrap (q : Int) = (q : Int) := IntWalk.i64_in _ (by omega)
 have v2 : ((n : Int)).tmod 10 = (m : Int) := by rw [Int.tmod_eq_emod_of_nonneg b0, e2]
 have v3 : IntKind.i64.wrap (48 + (m : Int)) = 48 + (m : Int) := IntWalk.i64_in _ (by omega)
 have v4 : IntKind.u8.wrap (48 + (m : Int)) = 48 + (m : Int) := by simp [IntKind.wrap, IntKind.signed, IntKind.bits]; omega
 have hz : ¬ 9223372036854775807 < (decB q).size + (byte1 m).size := by have := decB_size q; rw [byte1_size]; omega
 clear e2
 have IH := Lib.hid ih
 have HC := Lib.hid hc
 clear ih h hm hq hc
 go_enter Tryz.func95, Tryz.ntmps95
 go_wp2_with fail
 refine wp_region_Pl (fun _ => True) [0, 1, 3, 4, 5, 6, 9, 10] [] (.fork [(0, 0), (1, 0), (3, 0), (4, 0), (5, 0), (6, 0)] 2 (.fin [(7, 2), (8, 2), (9, 0), (10, 0)]) 7 (.fork [] 2 (.fin [(8, 2), (9, 0), (10, 0)]) 8 (.fin [(2, 2), (9, 0), (10, 0)]))) (by kernel_rfl) (by kernel_rfl) (by kernel_rfl) (fun KK hKK => ?_)
 simp only [wpPl, beside, List.filterMap_cons, List.filterMap_nil, List.getElem?_toArray, List.getElem?_cons_zero, List.getElem?_cons_succ, Option.map_some, List.any_nil]
 repeat (refine wpY_w ?_ (Or.inl ⟨by rfl, fun w9 => ?_⟩) ?_; rotate_left 1; go_simp; with_reducible rfl; go_frame)
 refine wpY_nil ⟨?_, ?_⟩
 · refine wpOp_c (fun _ => by simp) rfl (fun K9 hK9 => ?_)
   go_simp
   refine (IH.out _).mono ?_
   rintro e w1 ⟨rfl, hb1⟩
   refine hK9 _ _ ?_
   clear hK9 K9
   try go_frame
   refine wpY_e (by rfl) (fun K9 hK9 => ?_)
   go_simp
   refine hK9 _ _ ?_
   clear hK9 K9
   try go_frame
   refine wpY_e (by rfl) (fun K9 hK9 => ?_)
   have hc := HC.out (w1.alloc (.cells #[.int .u8 (48 + (m : Int))] 5)) w1.heap.size ((Blk.new _ _ _).cell 0)
   go_simp
   refine hK9 _ _ ?_
   clear hK9 K9 hc
   try go_frame
   repeat (refine wpY_w ?_ (Or.inl ⟨by rfl, fun w9 => ?_⟩) ?_; rotate_left 1; go_simp; with_reducible rfl; go_frame)
   refine wpY_nil ?_
   simp only [OnlyN_normal]
   refine hKK _ _ ?_
   clear hKK KK
   go_wp2_with fail
   go_ret
   exact ⟨by rw [HD.out]; rfl, ((Below.refl _ _).drew.trans (hb1.mono (by simp))).alloc (by have := hb1.size; simpa using this) _⟩
 · refine wpOp_c (fun _ => by simp) rfl (fun K9 hK9 => ?_)
   go_simp
   refine hK9 _ _ ?_
   clear hK9 K9
   try go_frame
   try simp only [beside]
   refine wpY_nil ⟨?_, ?_⟩
   · refine wpOp_c (fun _ => by simp) rfl (fun K9 hK9 => ?_)
     go_simp
     refine (IH.out _).mono ?_
     rintro e w1 ⟨rfl, hb1⟩
     refine hK9 _ _ ?_
     clear hK9 K9
     try go_frame
     refine wpY_e (by rfl) (fun K9 hK9 => ?_)
     have hc := HC.out w1 w.heap.size ((hb1.cell (by simp)).trans ((Blk.new w.drew 5 #[.int .u8 (48 + (m : Int))]).cell 0))
     go_simp
     refine hK9 _ _ ?_
     clear hK9 K9 hc
     try go_frame
     repeat (refine wpY_w ?_ (Or.inl ⟨by rfl, fun w9 => ?_⟩) ?_; rotate_left 1; go_simp; with_reducible rfl; go_frame)
     refine wpY_nil ?_
     simp only [OnlyN_normal]
     refine hKK _ _ ?_
     clear hKK KK
     go_wp2_with fail
     go_ret
     exact ⟨by rw [HD.out]; rfl, ((Below.refl _ _).drew.alloc (by simp) _).trans (hb1.mono (by simp))⟩
   · refine wpOp_c (fun _ => by simp) rfl (fun K9 hK9 => ?_)
     have hc := HC.out (w.alloc (.cells #[.int .u8 (48 + (m : Int))] 5)).drew w.heap.size (((Blk.new w 5 #[.int .u8 (48 + (m : Int))]).drew.cell 0).trans rfl)
     go_simp
     refine hK9 _ _ ?_
     clear hK9 K9 hc
     try go_frame
     refine wpY_e (by rfl) (fun K9 hK9 => ?_)
     go_simp
     refine (IH.out _).mono ?_
     rintro e w1 ⟨rfl, hb1⟩
     refine hK9 _ _ ?_
     clear hK9 K9
     try go_frame
     repeat (refine wpY_w ?_ (Or.inl ⟨by rfl, fun w9 => ?_⟩) ?_; rotate_left 1; go_simp; with_reducible rfl; go_frame)
     refine wpY_nil ?_
     simp only [OnlyN_normal]
     refine hKK _ _ ?_
     clear hKK KK
     go_wp2_with fail
     go_ret
     exact ⟨by rw [HD.out]; rfl, ((Below.refl _ _).drew.alloc (by simp) _).trans (hb1.mono (by simp))⟩
set_option maxRecDepth 100000 in
set_option maxHeartbeats 1000000 in
theorem cdigits_base (n : Nat) (h : n < 10) (w : World) : Calls Tryz.prog 95 #[.int .i64 n] w fun e w' => e = .returned (.string (decB n)) ∧ Below w.heap.size w w' := by
 have t1 : decide ((n : Int) < 10) = true := by simp; omega
 have b0 : (0 : Int) ≤ (n : Int) := by omega
 have b1 : (n : Int) ≤ 9 := by omega
 have hc := conv1 n h (w.alloc (.cells #[.int .u8 (48 + (n : Int))] 5)) w.heap.size ((Blk.new _ _ _).cell 0)
 have HD : Hid (decB n = byte1 n) := by rw [decB, if_pos h]; rfl
 clear h
 go_enter Tryz.func95, Tryz.ntmps95
 go_wp2_with fail
 go_ret
 exact ⟨by rw [HD.out]; rfl, (Below.refl _ _).alloc (Nat.le_refl _) _⟩
theorem cdigits_is (n : Nat) (hn : n ≤ 4000000000) (w : World) : Calls Tryz.prog 95 #[.int .i64 n] w fun e w' => e = .returned (.string (decB n)) ∧ Below w.heap.size w w' := by
 induction n using Nat.strongRecOn generalizing w with
 | _ n ih =>
   by_cases h : n < 10
   · exact cdigits_base n h w
   · exact cdigits_step n h hn (fun w => ih (n / 10) (by omega) (by omega) w) w
set_option maxRecDepth 100000 in
set_option maxHeartbeats 2000000 in
theorem rdigits_is (n : Nat) (hn : n ≤ 4000000000) (w : World) : Calls Tryz.prog 166 #[.int .i64 n] w fun e w' => e = .returned (.string (decB n)) ∧ Below w.heap.size w w' := by
 have hsz := decB_size n
 go_enter Tryz.func166, Tryz.ntmps166
 go_wp2_with fail
 go_loopw [0, 3] (fun a b wr => ∃ (q : Nat) (t : ByteArray), a = .int .i64 q ∧ b = .string t ∧ q ≤ n ∧ decB q ++ t = decB n ∧ Below w.heap.size w wr) (fun a b wr => (intOf a).toNat)
 case atStart => exact ⟨n, ⟨#[]⟩, rfl, rfl, Nat.le_refl _, ByteArray.append_empty, Below.refl _ _⟩
 case round =>
  obtain ⟨q, t, rfl, rfl, hq, he, hB⟩ := hrel
  have hts : t.size ≤ n + 1 := by have := congrArg ByteArray.size he; rw [ByteArray.size_append] at this; omega
  have HB := Lib.hid hB
  clear hB hsz
  by_cases h9 : 9 < q
  · obtain ⟨m, hm⟩ : ∃ m, m = q % 10 := ⟨_, rfl⟩
    obtain ⟨p, hp⟩ : ∃ p, p = q / 10 := ⟨_, rfl⟩
    have hpq : p < q := by omega
    have HE : Hid (decB p ++ (byte1 m ++ t) = decB n) := by
     have e := he
     rw [decB, if_neg (by omega), ← hm, ← hp, ByteArray.append_assoc] at e
     exact e
    have hc := conv1 m (by omega) (wr.alloc (.cells #[.int .u8 (48 + (m : Int))] 5)) wr.heap.size ((Blk.new _ _ _).cell 0)
    have t1 : decide ((9 : Int) < (q : Int)) = true := by simp; omega
    have v2 : ((q : Int)).tmod 10 = (m : Int) := by rw [Int.tmod_eq_emod_of_nonneg (by omega)]; omega
    have v5 : ((q : Int)) % 10 = (m : Int) := by omega
    have v6 : ((q : Int)) / 10 = (p : Int) := by omega
    have v7 : ((q : Int)).tdiv 10 = (p : Int) := by rw [Int.tdiv_eq_ediv_of_nonneg (by omega)]; omega
    have v3 : IntKind.i64.wrap (48 + (m : Int)) = 48 + (m : Int) := IntWalk.i64_in _ (by omega)
    have v4 : IntKind.u8.wrap (48 + (m : Int)) = 48 + (m : Int) := by simp [IntKind.wrap, IntKind.signed, IntKind.bits]; omega
    have hz : ¬ 9223372036854775807 < (byte1 m).size + t.size := by rw [byte1_size]; omega
    have hpn : p ≤ n := by omega
    have HPQ := Lib.hid hpq
    clear he hm hp h9 hpq
    go_wp2_with fail
    go_roundw
    case rel => exact ⟨p, byte1 m ++ t, by first | rfl | go_num, rfl, hpn, HE.out, HB.out.alloc HB.out.size _⟩
    case measure => have := HPQ.out; simp [intOf] <;> omega
  · have t1 : decide ((9 : Int) < (q : Int)) = false := by simp; omega
    have hc := conv1 q (by omega) (wr.alloc (.cells #[.int .u8 (48 + (q : Int))] 5)) wr.heap.size ((Blk.new _ _ _).cell 0)
    have HE : Hid (byte1 q ++ t = decB n) := by
     have e := he
     rw [decB, if_pos (by omega)] at e
     exact e
    have v3 : IntKind.i64.wrap (48 + (q : Int)) = 48 + (q : Int) := IntWalk.i64_in _ (by omega)
    have v4 : IntKind.u8.wrap (48 + (q : Int)) = 48 + (q : Int) := by simp [IntKind.wrap, IntKind.signed, IntKind.bits]; omega
    have hz : ¬ 9223372036854775807 < (byte1 q).size + t.size := by rw [byte1_size]; omega
    clear he h9
    go_wp2_with fail
    go_ret
    exact ⟨by rw [HE.out]; rfl, HB.out.alloc HB.out.size _⟩
def numB (n : Int) : ByteArray := if n < 0 then ⟨#[45]⟩ ++ decB (-n).toNat else decB n.toNat
set_option maxRecDepth 100000 in
set_option maxHeartbeats 2000000 in
theorem rnumber_is (n : Int) (h1 : -4000000000 ≤ n) (h2 : n ≤ 4000000000) (w : World) : Calls Tryz.prog 100 #[.int .i64 n] w fun e w' => e = .returned (.string (numB n)) ∧ Below w.heap.size w w' := by
 by_cases h : n < 0
 · obtain ⟨k, rfl⟩ : ∃ k : Nat, n = -(k : Int) := ⟨(-n).toNat, by omega⟩
   have HN := Lib.hid (show numB (-(k : Int)) = ⟨#[45]⟩ ++ decB k by unfold numB; rw [if_pos h]; simp)
   have t1 : decide (-(k : Int) < 0) = true := by simpa using h
   have v1 : IntKind.i64.wrap (-(-(k : Int))) = (k : Int) := by rw [IntWalk.i64_in _ (by omega)]; omega
   have v2 : IntKind.i64.wrap (k : Int) = (k : Int) := IntWalk.i64_in _ (by omega)
   have hz : ¬ 9223372036854775807 < 1 + (decB k).size := by have := decB_size k; omega
   have hz2 : ¬ 9223372036854775807 < (⟨#[45]⟩ : ByteArray).size + (decB k).size := by have := decB_size k; have e : (⟨#[45]⟩ : ByteArray).size = 1 := rfl; omega
   go_enter Tryz.func100, Tryz.ntmps100
   go_wp2_with fail
   refine (rdigits_is k (by omega) _).mono ?_
   rintro e w1 ⟨rfl, hb1⟩
   have HB := Lib.hid hb1
   clear hb1
   go_wp2_with fail
   go_ret
   exact ⟨by rw [HN.out]; rfl, HB.out⟩
 · obtain ⟨k, rfl⟩ : ∃ k : Nat, n = (k : Int) := ⟨n.toNat, by omega⟩
   have HN := Lib.hid (show numB (k : Int) = decB k by unfold numB; rw [if_neg h]; simp)
   have t1 : decide ((k : Int) < 0) = false := by simp
   go_enter Tryz.func100, Tryz.ntmps100
   go_wp2_with fail
   refine (rdigits_is k (by omega) _).mono ?_
   rintro e w1 ⟨rfl, hb1⟩
   have HB := Lib.hid hb1
   clear hb1
   go_wp2_with fail
   go_ret
   exact ⟨by rw [HN.out]; rfl, HB.out⟩
end Go.Proofs.YtffemfglngikbaaGreat
namespace Go.Proofs.YtffemfglngikbaaGreat
open Go.RowKit
def headB (f : UInt8 → Bool) (t : ByteArray) : Bool := t.data.toList.head?.any f
theorem headB_eq {f : UInt8 → Bool} {t : ByteArray} (h : 0 < t.size) : headB f t = f t[0] := by
 have hs : t.data.toList.length = t.size := Array.length_toList
 unfold headB
 rw [List.head?_eq_getElem?, List.getElem?_eq_getElem (by omega), Option.any_some, Array.getElem_toList]
 rfl
def validB (s : Sym) : Bool :=
 if s.kind = 1 then decide (s.text.size = 1) && headB greatB s.text && decide (1 ≤ s.n) && decide (s.n ≤ 1048576)
 else if s.kind = 2 then decide (s.text.toList = []) && decide (-2147483647 ≤ s.n) && decide (s.n ≤ 2147483647)
 else if s.kind = 3 then decide (s.n = 0) && isWord s.text else false
theorem ret_bool {a b : Bool} (h : a = b) : Ending.returned (.bool a) = .returned (.bool b) := by rw [h]
theorem validB_id {t : ByteArray} {n : Int} (h : validB ⟨1, t, n⟩ = true) : t.size = 1 ∧ headB greatB t = true ∧ 1 ≤ n ∧ n ≤ 1048576 := by
 simp only [validB, if_true, Bool.and_eq_true, decide_eq_true_eq] at h
 exact ⟨h.1.1.1, h.1.1.2, h.1.2, h.2⟩
theorem validB_int {t : ByteArray} {n : Int} (h : validB ⟨2, t, n⟩ = true) : t.toList = [] ∧ -2147483647 ≤ n ∧ n ≤ 2147483647 := by
 simp [validB] at h
 exact ⟨h.1.1, h.1.2, h.2⟩
theorem validB_kind {k n : Int} {t : ByteArray} (h : validB ⟨k, t, n⟩ = true) : k = 1 ∨ k = 2 ∨ k = 3 := by
 unfold validB at h
 dsimp only at h
 split at h
 · exact .inl ‹_›
 · split at h
   · exact .inr (.inl ‹_›)
   · split at h
     · exact .inr (.inr ‹_›)
     · cases h
def textB (s : Sym) : ByteArray := if validB s = true then (if s.kind = 1 then s.text ++ numB s.n else if s.kind = 2 then numB s.n else s.text) else ⟨#[]⟩
theorem numB_nat (k : Nat) : numB (k : Int) = decB k := by unfold numB; rw [if_neg (by omega)]; simp
theorem numB_neg (k : Nat) (h : 0 < k) : numB (-(k : Int)) = ⟨#[45]⟩ ++ decB k := by unfold numB; rw [if_pos (by omega)]; simp
theorem textB_no {s : Sym} (h : validB s = false) : textB s = ⟨#[]⟩ := by unfold textB; rw [h]; simp
set_option maxRecDepth 100000 in
set_option maxHeartbeats 4000000 in
theorem valid_is (s : Sym) (w : World) : Calls Tryz.prog 60 #[.agg #[.int .i64 s.kind, .string s.text, .int .i64 s.n]] w fun e w' => e = .returned (.bool (validB s)) ∧ Below w.heap.size w w' := by
 obtain ⟨k, t, n⟩ := s
 dsimp only
 by_cases k1 : k = 1
 · subst k1
   by_cases a1 : t.size = 1
   · have h0 : 0 < t.size := by omega
     have t1 : ((t.size : Int) == 1) = true := by simp; omega
     have HV := Lib.hid (show validB ⟨1, t, n⟩ = (greatB t[0] && decide (1 ≤ n) && decide (n ≤ 1048576)) by simp [validB, a1, headB_eq h0])
     go_enter Tryz.func60, Tryz.ntmps60
     go_wp2_with (go_at_call 124; refine (great_is _ _).mono ?_; rintro e w' ⟨rfl, rfl⟩)
     all_goals
      go_ret
      refine ⟨?_, (Below.refl _ _).alloc (Nat.le_refl _) _⟩
      rw [HV.out]
      first | rfl | (refine ret_bool ?_; simp_all; done) | (refine ret_bool ?_; simp_all; omega) | (refine ret_bool ?_; simp_all [greatB]; done) | (refine ret_bool ?_; simp_all [greatB]; omega)
   · have t1 : ((t.size : Int) == 1) = false := by simp; omega
     have HV := Lib.hid (show validB ⟨1, t, n⟩ = false by simp [validB, a1])
     go_enter Tryz.func60, Tryz.ntmps60
     go_wp2_with fail
     all_goals
      go_ret
      refine ⟨?_, (Below.refl _ _).alloc (Nat.le_refl _) _⟩
      rw [HV.out]
      rfl
 · by_cases k2 : k = 2
   · subst k2
     have HV := Lib.hid (show validB ⟨2, t, n⟩ = (decide (t.toList = []) && decide (-2147483647 ≤ n) && decide (n ≤ 2147483647)) by simp [validB])
     clear k1
     go_enter Tryz.func60, Tryz.ntmps60
     go_wp2_with fail
     all_goals
      go_ret
      refine ⟨?_, (Below.refl _ _).alloc (Nat.le_refl _) _⟩
      rw [HV.out]
      first | rfl | (refine ret_bool ?_; simp_all; done) | (refine ret_bool ?_; simp_all; omega) | (refine ret_bool ?_; simp_all [greatB]; done) | (refine ret_bool ?_; simp_all [greatB]; omega)
   · by_cases k3 : k = 3
     · subst k3
       have HV := Lib.hid (show validB ⟨3, t, n⟩ = (decide (n = 0) && isWord t) by simp [validB])
       clear k1 k2
       go_enter Tryz.func60, Tryz.ntmps60
       go_wp2_with (go_at_call 126; refine (word_is _ _).mono ?_; rintro e w' ⟨rfl, rfl⟩)
       all_goals
        go_ret
        refine ⟨?_, (Below.refl _ _).alloc (Nat.le_refl _) _⟩
        rw [HV.out]
        first | rfl | (refine ret_bool ?_; simp_all; done) | (refine ret_bool ?_; simp_all; omega) | (refine ret_bool ?_; simp_all [greatB]; done) | (refine ret_bool ?_; simp_all [greatB]; omega)
     · have HV := Lib.hid (show validB ⟨k, t, n⟩ = false by simp [validB, k1, k2, k3])
       have t1 : (k == 1) = false := by simp [k1]
       have t2 : (k == 2) = false := by simp [k2]
       have t3 : (k == 3) = false := by simp [k3]
       clear k1 k2 k3
       go_enter Tryz.func60, Tryz.ntmps60
       go_wp2_with fail
       all_goals
        go_ret
        refine ⟨?_, (Below.refl _ _).alloc (Nat.le_refl _) _⟩
        rw [HV.out]
        rfl
set_option maxRecDepth 100000 in
set_option maxHeartbeats 4000000 in
theorem rvalid_is (s : Sym) (w : World) : Calls Tryz.prog 66 #[.agg #[.int .i64 s.kind, .string s.text, .int .i64 s.n]] w fun e w' => e = .returned (.bool (validB s)) ∧ Below w.heap.size w w' := by
 obtain ⟨k, t, n⟩ := s
 dsimp only
 by_cases k1 : k = 1
 · subst k1
   by_cases a1 : t.size = 1
   · have h0 : 0 < t.size := by omega
     have t1 : ((t.size : Int) == 1) = true := by simp; omega
     have HV := Lib.hid (show validB ⟨1, t, n⟩ = (greatB t[0] && decide (1 ≤ n) && decide (n ≤ 1048576)) by simp [validB, a1, headB_eq h0])
     go_enter Tryz.func66, Tryz.ntmps66
     go_wp2_with (fail)
     all_goals
      go_ret
      refine ⟨?_, (Below.refl _ _).alloc (Nat.le_refl _) _⟩
      rw [HV.out]
      first | rfl | (refine ret_bool ?_; simp_all; done) | (refine ret_bool ?_; simp_all; omega) | (refine ret_bool ?_; simp_all [greatB]; done) | (refine ret_bool ?_; simp_all [greatB]; omega)
   · have t1 : ((t.size : Int) == 1) = false := by simp; omega
     have HV := Lib.hid (show validB ⟨1, t, n⟩ = false by simp [validB, a1])
     go_enter Tryz.func66, Tryz.ntmps66
     go_wp2_with fail
     all_goals
      go_ret
      refine ⟨?_, (Below.refl _ _).alloc (Nat.le_refl _) _⟩
      rw [HV.out]
      rfl
 · by_cases k2 : k = 2
   · subst k2
     have HV := Lib.hid (show validB ⟨2, t, n⟩ = (decide (t.toList = []) && decide (-2147483647 ≤ n) && decide (n ≤ 2147483647)) by simp [validB])
     clear k1
     go_enter Tryz.func66, Tryz.ntmps66
     go_wp2_with fail
     all_goals
      go_ret
      refine ⟨?_, (Below.refl _ _).alloc (Nat.le_refl _) _⟩
      rw [HV.out]
      first | rfl | (refine ret_bool ?_; simp_all; done) | (refine ret_bool ?_; simp_all; omega) | (refine ret_bool ?_; simp_all [greatB]; done) | (refine ret_bool ?_; simp_all [greatB]; omega)
   · by_cases k3 : k = 3
     · subst k3
       have HV := Lib.hid (show validB ⟨3, t, n⟩ = (decide (n = 0) && isWord t) by simp [validB])
       clear k1 k2
       go_enter Tryz.func66, Tryz.ntmps66
       go_wp2_with (go_at_call 104; refine (rword_is _ _).mono ?_; rintro e w' ⟨rfl, rfl⟩)
       all_goals
        go_ret
        refine ⟨?_, (Below.refl _ _).alloc (Nat.le_refl _) _⟩
        rw [HV.out]
        first | rfl | (refine ret_bool ?_; simp_all; done) | (refine ret_bool ?_; simp_all; omega) | (refine ret_bool ?_; simp_all [greatB]; done) | (refine ret_bool ?_; simp_all [greatB]; omega)
     · have HV := Lib.hid (show validB ⟨k, t, n⟩ = false by simp [validB, k1, k2, k3])
       have t1 : (k == 1) = false := by simp [k1]
       have t2 : (k == 2) = false := by simp [k2]
       have t3 : (k == 3) = false := by simp [k3]
       clear k1 k2 k3
       go_enter Tryz.func66, Tryz.ntmps66
       go_wp2_with fail
       all_goals
        go_ret
        refine ⟨?_, (Below.refl _ _).alloc (Nat.le_refl _) _⟩
        rw [HV.out]
        rfl
set_option maxRecDepth 100000 in
set_option maxHeartbeats 4000000 in
theorem text_is (s : Sym) (w : World) : Calls Tryz.prog 253 #[.agg #[.int .i64 s.kind, .string s.text, .int .i64 s.n]] w fun e w' => e = .returned (.string (textB s)) ∧ Below w.heap.size w w' := by
 cases hv : validB s
 · have HT := Lib.hid (textB_no hv)
   go_enter Tryz.func253, Tryz.ntmps253
   go_wp2_with fail
   refine (valid_is s _).mono ?_
   rintro e w1 ⟨rfl, hb1⟩
   have HB := Lib.hid (((Below.refl w.heap.size w).alloc (Nat.le_refl _) _).trans (hb1.mono (by simp)))
   clear hb1
   go_wp2_with fail
   go_ret
   exact ⟨by rw [HT.out] <;> rfl, HB.out⟩
 obtain ⟨k, t, n⟩ := s
 dsimp only
 have HT0 : Hid (textB ⟨k, t, n⟩ = if k = 1 then t ++ numB n else if k = 2 then numB n else t) := Lib.hid (by unfold textB; rw [hv]; rfl)
 rcases validB_kind hv with rfl | rfl | rfl
 · obtain ⟨h1, _, h3, h4⟩ := validB_id hv
   obtain ⟨m, rfl⟩ : ∃ m : Nat, n = (m : Int) := ⟨n.toNat, by omega⟩
   have HT := Lib.hid (show textB ⟨1, t, m⟩ = t ++ decB m by rw [HT0.out, numB_nat]; rfl)
   have hz : ¬ 9223372036854775807 < t.size + (decB m).size := by have := decB_size m; omega
   have hm : m ≤ 4000000000 := by omega
   clear h1 h3 h4 HT0
   go_enter Tryz.func253, Tryz.ntmps253
   go_wp2_with fail
   refine (valid_is ⟨1, t, m⟩ _).mono ?_
   rintro e w1 ⟨rfl, hb1⟩
   have hx1 := (Blk.new w 38 #[.int .i64 1, .string t, .int .i64 m]).new_ hb1
   have y0 := (hx1.cell 0).trans rfl
   have y1 := (hx1.cell 1).trans rfl
   have y2 := (hx1.cell 2).trans rfl
   have hxl := hx1.lt
   have HB := Lib.hid (((Below.refl w.heap.size w).alloc (Nat.le_refl _) _).trans (hb1.mono (by simp)))
   clear hb1 hx1
   go_wp2_with fail
   refine wp_region_E (fun w9 => Below w1.heap.size w1 w9) [(0, 0), (1, 1), (2, 0), (3, 1), (4, 2), (5, 0), (6, 0)] (by kernel_rfl) (by kernel_rfl) (fun KK hKK => ?_)
   simp only [beside, List.filterMap_cons, List.filterMap_nil, List.getElem?_toArray, List.getElem?_cons_zero, List.getElem?_cons_succ, Option.map_some]
   repeat ((first | (refine wpX_w ?_ (Or.inl ⟨by rfl, fun w9 => ?_⟩) ?_; rotate_left 1; go_simp; with_reducible rfl) | (refine wpX_l ?_ (((Below.refl _ _).drew)) (Or.inl ⟨by rfl, fun w9 hw9 => ?_⟩) ?_; rotate_left 1; obtain ⟨hc9, hf9⟩ := bcell hw9; go_simp; with_reducible rfl) | refine wpX_w undef (Or.inr ⟨by rfl, rfl⟩) ?_ | refine wpX_l undef (((Below.refl _ _).drew)) (Or.inr ⟨by rfl, rfl⟩) ?_); go_frame)
   refine wpX_es (fun K9 hK9 => ?_)
   go_simp
   refine (digits_is m hm _).mono ?_
   rintro e w2 ⟨rfl, hb2⟩
   have HB2 := Lib.hid ((Below.refl w1.heap.size w1).drew.trans (hb2.mono (by simp)))
   clear hb2
   refine hK9 _ _ HB2.out ?_
   clear hK9 K9
   repeat ((first | (refine wpX_w ?_ (Or.inl ⟨by rfl, fun w9 => ?_⟩) ?_; rotate_left 1; go_simp; with_reducible rfl) | (refine wpX_l ?_ (HB2.out) (Or.inl ⟨by rfl, fun w9 hw9 => ?_⟩) ?_; rotate_left 1; obtain ⟨hc9, hf9⟩ := bcell hw9; go_simp; with_reducible rfl) | refine wpX_w undef (Or.inr ⟨by rfl, rfl⟩) ?_ | refine wpX_l undef (HB2.out) (Or.inr ⟨by rfl, rfl⟩) ?_); go_frame)
   refine wpX_nil ?_
   simp only [OnlyN_normal]
   refine hKK _ _ ?_
   clear hKK KK
   go_wp2_with fail
   go_ret
   exact ⟨by rw [HT.out] <;> rfl, HB.out.trans (HB2.out.mono HB.out.size)⟩
 · obtain ⟨h1, h3, h4⟩ := validB_int hv
   by_cases hn : n < 0
   · obtain ⟨m, rfl⟩ : ∃ m : Nat, n = -(m : Int) := ⟨(-n).toNat, by omega⟩
     have HT := Lib.hid (show textB ⟨2, t, -(m : Int)⟩ = ⟨#[45]⟩ ++ decB m by rw [HT0.out, numB_neg m (by omega)]; rfl)
     have hz : ¬ 9223372036854775807 < 1 + (decB m).size := by have := decB_size m; omega
     have hz2 : ¬ 9223372036854775807 < (⟨#[45]⟩ : ByteArray).size + (decB m).size := by have := decB_size m; have e : (⟨#[45]⟩ : ByteArray).size = 1 := rfl; omega
     have hm : m ≤ 4000000000 := by omega
     have v1 : IntKind.i64.wrap (-(-(m : Int))) = (m : Int) := by rw [IntWalk.i64_in _ (by omega)]; omega
     have v2 : IntKind.i64.wrap (m : Int) = (m : Int) := IntWalk.i64_in _ (by omega)
     have t1 : decide (-(m : Int) < 0) = true := by simpa using hn
     clear h1 h3 h4 HT0
     go_enter Tryz.func253, Tryz.ntmps253
     go_wp2_with fail
     refine (valid_is ⟨2, t, -(m : Int)⟩ _).mono ?_
     rintro e w1 ⟨rfl, hb1⟩
     have hx1 := (Blk.new w 38 #[.int .i64 2, .string t, .int .i64 (-(m : Int))]).new_ hb1
     have y0 := (hx1.cell 0).trans rfl
     have y1 := (hx1.cell 1).trans rfl
     have y2 := (hx1.cell 2).trans rfl
     have HB := Lib.hid (((Below.refl w.heap.size w).alloc (Nat.le_refl _) _).trans (hb1.mono (by simp)))
     clear hb1 hx1
     go_wp2_with fail
     refine (digits_is m hm _).mono ?_
     rintro e w2 ⟨rfl, hb2⟩
     have HB2 := Lib.hid (HB.out.trans (hb2.mono HB.out.size))
     clear hb2
     go_wp2_with fail
     go_ret
     exact ⟨by rw [HT.out] <;> rfl, HB2.out⟩
   · obtain ⟨m, rfl⟩ : ∃ m : Nat, n = (m : Int) := ⟨n.toNat, by omega⟩
     have HT := Lib.hid (show textB ⟨2, t, m⟩ = decB m by rw [HT0.out, numB_nat]; rfl)
     have hm : m ≤ 4000000000 := by omega
     have t1 : decide ((m : Int) < 0) = false := by simp
     clear h1 h3 h4 HT0 hn
     go_enter Tryz.func253, Tryz.ntmps253
     go_wp2_with fail
     refine (valid_is ⟨2, t, m⟩ _).mono ?_
     rintro e w1 ⟨rfl, hb1⟩
     have hx1 := (Blk.new w 38 #[.int .i64 2, .string t, .int .i64 m]).new_ hb1
     have y0 := (hx1.cell 0).trans rfl
     have y1 := (hx1.cell 1).trans rfl
     have y2 := (hx1.cell 2).trans rfl
     have HB := Lib.hid (((Below.refl w.heap.size w).alloc (Nat.le_refl _) _).trans (hb1.mono (by simp)))
     clear hb1 hx1
     go_wp2_with fail
     refine (digits_is m hm _).mono ?_
     rintro e w2 ⟨rfl, hb2⟩
     have HB2 := Lib.hid (HB.out.trans (hb2.mono HB.out.size))
     clear hb2
     go_wp2_with fail
     go_ret
     exact ⟨by rw [HT.out] <;> rfl, HB2.out⟩
 · have HT := Lib.hid (show textB ⟨3, t, n⟩ = t by rw [HT0.out]; rfl)
   clear HT0
   go_enter Tryz.func253, Tryz.ntmps253
   go_wp2_with fail
   refine (valid_is ⟨3, t, n⟩ _).mono ?_
   rintro e w1 ⟨rfl, hb1⟩
   have hx1 := (Blk.new w 38 #[.int .i64 3, .string t, .int .i64 n]).new_ hb1
   have y0 := (hx1.cell 0).trans rfl
   have y1 := (hx1.cell 1).trans rfl
   have y2 := (hx1.cell 2).trans rfl
   have HB := Lib.hid (((Below.refl w.heap.size w).alloc (Nat.le_refl _) _).trans (hb1.mono (by simp)))
   clear hb1 hx1
   go_wp2_with fail
   go_ret
   exact ⟨by rw [HT.out] <;> rfl, HB.out⟩
end Go.Proofs.YtffemfglngikbaaGreat
namespace Go.Proofs.YtffemfglngikbaaGreat
open Go.RowKit
abbrev Name := ByteArray
def Name.cells (n : Name) : List Value := [.string n]
theorem Name.cells_length (n : Name) : (Name.cells n).length = 1 := rfl
end Go.Proofs.YtffemfglngikbaaGreat
namespace Go.Proofs.YtffemfglngikbaaGreat
def zS : Sym := ⟨0, ⟨#[]⟩, 0⟩
def noneB (s : Sym) : Bool := decide (s = zS)
def emptyB (a : AtomT) : Bool := decide (a.var.toList = []) && noneB a.sym
def constB (s : Sym) : Bool := decide (s.kind ≠ 1) && validB s
def testB (t : TestT) : Bool :=
 if t.rel = 8 then decide (t.var.toList = []) && noneB t.sym && decide (1 ≤ t.list.length) && decide (t.list.length ≤ 8) && t.list.all constB
 else if t.rel < 1 ∨ 7 < t.rel ∨ 0 < t.list.length then false
 else if t.var.toList = [] then constB t.sym else isWord t.var && noneB t.sym
def atomB (a : AtomT) : Bool := if a.var.toList = [] then constB a.sym else isWord a.var && noneB a.sym
def condE (c : CondT) (deep : Nat) : Int :=
 if c.kind = 3 then (if c.goal = true ∨ c.id.toList ≠ [] ∨ 0 < c.attr.length ∨ 0 < c.value.length ∨ c.acc = true ∨ c.conds.length = 0 then 9 else if 3 ≤ deep then 8 else 0)
 else if c.kind = 1 ∨ c.kind = 2 then
  (if 0 < c.conds.length ∨ isWord c.id = false ∨ c.attr.length = 0 then 9 else if 4 < c.attr.length ∨ 4 < c.value.length then 7 else if (c.attr.all testB && c.value.all testB) = false then 9 else 0)
 else 9
def wordAB (a : AtomT) : Bool := decide (a.var.toList = []) && decide (a.sym.kind = 3)
def termB (t : TermT) : Bool :=
 if t.op < 0 ∨ 3 < t.op ∨ atomB t.a = false then false
 else if t.op = 0 then emptyB t.b else atomB t.b && !wordAB t.a && !wordAB t.b
def otherB (k : Int) : Bool := decide (k = 8) || decide (k = 9) || decide (k = 10)
def actB (a : ActT) : Bool :=
 if isWord a.id = false ∨ atomB a.attr = false ∨ termB a.value = false ∨ a.pref < 1 ∨ 10 < a.pref then false
 else if otherB a.pref = true then atomB a.other else emptyB a.other
def flatC : Nat → Nat → List CondT → List (Nat × CondT)
 | 0, _, _ => []
 | n + 1, d, l => l.flatMap fun c => (d, c) :: flatC n (d + 1) c.conds
def shapeP (n : Nat) (p : ProdT) : Int × Int :=
 if isWord p.name = false then (-1, 2)
 else if (flatC n 0 p.conds).length < 1 ∨ 16 < (flatC n 0 p.conds).length ∨ p.acts.length < 1 ∨ 16 < p.acts.length then (-1, 7)
 else match (flatC n 0 p.conds).findIdx? (fun c => decide (condE c.2 c.1 ≠ 0)) with
  | some k => (k, (((flatC n 0 p.conds)[k]?).map fun c => condE c.2 c.1).getD 0)
  | none => match p.acts.findIdx? (fun a => !actB a) with
    | some i => ((flatC n 0 p.conds).length + i, 9)
    | none => (-1, 0)
end Go.Proofs.YtffemfglngikbaaGreat
namespace Go.Proofs.YtffemfglngikbaaGreat
open Go.RowKit
structure St where
 sn : Bool
 A : Option Addr
 c : Nat
def upd {β : Type} (S : Nat → β) (b : Nat) (l : β) : Nat → β := fun k => if k = b then l else S k
theorem upd_same {β : Type} (S : Nat → β) (b : Nat) (l : β) : upd S b l b = l := by simp [upd]
theorem upd_ne {β : Type} (S : Nat → β) {b k : Nat} (l : β) (h : k ≠ b) : upd S b l k = S k := by simp [upd, h]
structure Sets {α : Type} (tSet tE size : Nat) (cells : α → List Value) (cmp : α → α → Int) (D : Nat → Prop) (w : World) (S : Nat → Option (List α)) (σ : Nat → St) : Prop where
 at_ : ∀ b l, S b = some l → SetAt tSet tE size cells w b (σ b).sn (σ b).A (σ b).c l
 srt : ∀ b l, S b = some l → Srt cmp l
 out : ∀ b l, S b = some l → ¬ D b ∧ ((σ b).sn = false → AIn (σ b).A (fun k => ¬ D k))
 apart : ∀ b l b' l', S b = some l → S b' = some l' → b ≠ b' → (σ b).sn = false → ∀ a a', (σ b).A = some a → (σ b').A = some a' → a.block ≠ a'.block
 low : ∀ k, D k → k < w.heap.size
section
variable {α : Type} {tSet tE size : Nat} {cells : α → List Value} {cmp : α → α → Int} {D D' : Nat → Prop} {w w' : World} {S : Nat → Option (List α)} {σ : Nat → St} {b b' : Nat} {l l' : List α}
theorem SetAt.far {sn : Bool} {A : Option Addr} {c : Nat} (h : SetAt tSet tE size cells w b sn A c l) {sn' : Bool} {A' : Option Addr} {c' : Nat} (h' : SetAt tSet tE size cells w b' sn' A' c' l') (hne : tE ≠ tSet) : AIn A (· ≠ b') := by
 intro a e hb
 have := own_blk_ne h.row h'.blk hne
 subst e
 exact this (by simp [Value.ownBlock, hb])
theorem Sets.start (tSet tE size : Nat) (cells : α → List Value) (cmp : α → α → Int) (w : World) : Sets tSet tE size cells cmp (· < w.heap.size) w (fun _ => none) (fun _ => ⟨false, none, 0⟩) :=
 ⟨fun _ _ h => by simp at h, fun _ _ h => by simp at h, fun _ _ h => by simp at h, fun _ _ _ _ h => by simp at h, fun _ h => h⟩
theorem Sets.lt (h : Sets tSet tE size cells cmp D w S σ) (hb : S b = some l) : b < w.heap.size := (h.at_ b l hb).lt
theorem Sets.below (h : Sets tSet tE size cells cmp D w S σ) (hw : Below w.heap.size w w') : Sets tSet tE size cells cmp D w' S σ :=
 ⟨fun b l hb => (h.at_ b l hb).new_ hw, h.srt, h.out, h.apart, fun k hk => Nat.lt_of_lt_of_le (h.low k hk) hw.size⟩
theorem Sets.weaken (h : Sets tSet tE size cells cmp D w S σ) (hD : ∀ k, D' k → D k) : Sets tSet tE size cells cmp D' w S σ :=
 ⟨h.at_, h.srt, fun b l hb => ⟨fun hk => (h.out b l hb).1 (hD _ hk), fun hs => ((h.out b l hb).2 hs).mono (fun _ hk hd => hk (hD _ hd))⟩, h.apart, fun k hk => h.low k (hD k hk)⟩
theorem Sets.add (h : Sets tSet tE size cells cmp D w S σ) {k : Nat} {sn' : Bool} {A' : Option Addr} {c' : Nat} (hk : w.heap.size ≤ k) (h1 : SetAt tSet tE size cells w' k sn' A' c' l') (hs : Srt cmp l')
 (hA : AIn A' (w.heap.size ≤ ·) ∨ (sn' = true ∧ ∃ b l, S b = some l ∧ (σ b).sn = true ∧ (σ b).A = A')) (hF : Below w.heap.size w w') : Sets tSet tE size cells cmp D w' (upd S k (some l')) (upd σ k ⟨sn', A', c'⟩) := by
 have hnk : ∀ b l, S b = some l → b ≠ k := fun b l hb e => by have := h.lt hb; omega
 refine ⟨fun b m hb => ?_, fun b m hb => ?_, fun b m hb => ?_, fun b m b' m' hb hb' hkk hsk a a' ha ha' => ?_, fun k hk => Nat.lt_of_lt_of_le (h.low k hk) hF.size⟩
 · by_cases e : b = k
   · subst e; rw [upd_same] at hb ⊢; cases hb; exact h1
   · rw [upd_ne _ _ e] at hb ⊢; exact (h.at_ b m hb).new_ hF
 · by_cases e : b = k
   · subst e; rw [upd_same] at hb; cases hb; exact hs
   · rw [upd_ne _ _ e] at hb; exact h.srt b m hb
 · by_cases e : b = k
   · subst e; rw [upd_same] at hb ⊢; cases hb
     refine ⟨fun hd => by have := h.low _ hd; omega, fun hs2 a ha hd => ?_⟩
     have h3 := h.low _ hd
     rcases hA with hA | ⟨hA, _⟩
     · have := hA a ha; omega
     · simp only at hs2; rw [hA] at hs2; cases hs2
   · rw [upd_ne _ _ e] at hb ⊢; exact h.out b m hb
 · by_cases e : b = k
   · subst e
     rw [upd_ne _ _ (Ne.symm hkk)] at hb' ha'
     rw [upd_same] at hsk ha
     simp only at hsk ha
     have h3 := (h.at_ b' m' hb').row_lt a' ha'
     rcases hA with hA | ⟨hA, _⟩
     · have := hA a ha; omega
     · rw [hA] at hsk; cases hsk
   · rw [upd_ne _ _ e] at hb hsk ha
     have h3 := (h.at_ b m hb).row_lt a ha
     by_cases e2 : b' = k
     · subst e2
       rw [upd_same] at ha'
       simp only at ha'
       rcases hA with hA | ⟨_, b2, l2, hb2, hs2, hA⟩
       · have := hA a' ha'; omega
       · by_cases e3 : b = b2
         · subst e3; rw [hsk] at hs2; cases hs2
         · exact h.apart b m b2 l2 hb hb2 e3 hsk a a' ha (hA.trans ha')
     · rw [upd_ne _ _ e2] at hb' ha'
       exact h.apart b m b' m' hb hb' hkk hsk a a' ha ha'
end
end Go.Proofs.YtffemfglngikbaaGreat
namespace Go.Proofs.YtffemfglngikbaaGreat
open Go.RowKit
theorem Sym.one (x : Sym) : ∀ u ∈ Sym.cells x, u.oneCell' = true := by intro u hu; simp [Sym.cells] at hu; rcases hu with rfl | rfl | rfl <;> rfl
theorem Sym.oneAll (l : List Sym) : ∀ u ∈ l.flatMap Sym.cells, u.oneCell' = true := by intro u hu; obtain ⟨x, _, hx⟩ := List.mem_flatMap.1 hu; exact Sym.one x u hx
end Go.Proofs.YtffemfglngikbaaGreat
namespace Go.Proofs.YtffemfglngikbaaGreat
open Go.RowKit Go.Shelf
def RowKeep (A : Option Addr) (W W' : World) : Prop := W.heap.size ≤ W'.heap.size ∧ ∀ a, A = some a → a.block < W.heap.size → W'.heap[a.block]? = W.heap[a.block]?
theorem RowKeep.trans {A : Option Addr} {X Y Z : World} (h : RowKeep A X Y) (k : RowKeep A Y Z) : RowKeep A X Z := ⟨Nat.le_trans h.1 k.1, fun a e hl => (k.2 a e (Nat.lt_of_lt_of_le hl h.1)).trans (h.2 a e hl)⟩
theorem RowKeep.of_below {A : Option Addr} {B : Nat} {X Y : World} (hA : AIn A (· < B)) (h : Below B X Y) : RowKeep A X Y := ⟨h.size, fun a e _ => h.block _ (hA a e)⟩
theorem RowKeep.rd {α : Type} {size c : Nat} {cells : α → List Value} {A : Option Addr} {l : List α} {W W' : World} (hk : RowKeep A W W') (h : RowRd W size cells A c l) : RowRd W' size cells A c l :=
 h.keep hk.1 (fun p hp ⟨a, ha, hb⟩ => World.cell?_of_block (by rw [← hb]; exact hk.2 a ha (by rw [hb]; exact hp)))
def SeenStart (b : Nat) (X Y : World) : Prop := ∃ X1, Below X.heap.size X X1 ∧ Y = X1.setCell ⟨b, 1, none⟩ (.bool true)
theorem SeenStart.set_ {α : Type} {tSet tE size : Nat} {cells : α → List Value} {W W1 : World} {b : Nat} {sn : Bool} {A : Option Addr} {c : Nat} {l : List α} (h : SeenStart b W W1) (hS : SetAt tSet tE size cells W b sn A c l) (hne : tE ≠ tSet) : SetAt tSet tE size cells W1 b true A c l := by
 obtain ⟨X1, hb, rfl⟩ := h
 refine ⟨(hS.new_ hb).blk.set_ 1 _, ownsRow_setCell_other (hS.new_ hb).row ?_ _⟩
 exact own_blk_ne hS.row hS.blk hne
theorem SeenStart.fr {b : Nat} {W W1 : World} (h : SeenStart b W W1) : Fr (· = b) W W1 := by
 obtain ⟨X1, hb, rfl⟩ := h
 exact (Fr.of_new (M := (· = b)) hb).setCell (p := ⟨b, 1, none⟩) (.inl rfl) _
end Go.Proofs.YtffemfglngikbaaGreat
namespace Go.Proofs.YtffemfglngikbaaGreat
open Go.RowKit Go.Shelf
attribute [local go_sem] Oper.semAt_some
structure Seq {α : Type} (gf : Nat) (lb : Array Value) (encs : α → Array Value) (xs : List α) (w : World) (start Kp : World → World → Prop) : Prop where
 enter : ∀ args w, (callFunc gf args).run Tryz.prog w = .ok (.enter gf args) w
 iter : ∀ W, Below w.heap.size w W → Iter Tryz.prog gf lb encs xs W start (fun X Y => Kp X Y ∧ KeepsFrom W.heap.size X Y)
 trans : ∀ A B C, Kp A B → Kp B C → Kp A C
 keep : ∀ A B, Priv w.heap.size A B → Kp A B
 below : ∀ A B, Below w.heap.size A B → Kp A B
 mods : ∀ W W1, start W W1 → Fr (· < w.heap.size) W W1
theorem Seq.new_ {α : Type} {gf : Nat} {lb : Array Value} {encs : α → Array Value} {xs : List α} {w w' : World} {start Kp : World → World → Prop} (h : Seq gf lb encs xs w start Kp) (hb : Below w.heap.size w w') : Seq gf lb encs xs w' start Kp :=
 ⟨h.enter, fun W hW => h.iter W (hb.trans (hW.mono hb.size)), h.trans, fun A B hp => h.keep A B (hp.mono hb.size), fun A B hp => h.below A B (hp.mono hb.size), fun W W1 hs => (h.mods W W1 hs).mono (fun _ _ hk => Nat.lt_of_lt_of_le hk hb.size)⟩
end Go.Proofs.YtffemfglngikbaaGreat
namespace Go.Proofs.YtffemfglngikbaaGreat
open Go.RowKit Go.Shelf
attribute [local go_sem] Oper.semAt_some
end Go.Proofs.YtffemfglngikbaaGreat
namespace Go.Proofs.YtffemfglngikbaaGreat
open Go.RowKit Go.Shelf
attribute [local go_sem] Oper.semAt_some
end Go.Proofs.YtffemfglngikbaaGreat
namespace Go.Proofs.YtffemfglngikbaaGreat
open Go.RowKit
theorem eql_sym (x y : Sym) (W : World) : (binOp .eql 38 (.agg #[.int .i64 x.kind, .string x.text, .int .i64 x.n]) (.agg #[.int .i64 y.kind, .string y.text, .int .i64 y.n])).run Tryz.prog W = .ok (.bool (decide (x = y))) W := by
 rw [run_eql_struct]
 go_simp
 by_cases h : x = y
 · subst h; simp
 · have h2 : ¬ (x.kind = y.kind ∧ x.text.toList = y.text.toList ∧ x.n = y.n) := fun ⟨h1, h2, h3⟩ => h (Sym.ext' h1 (toList_inj h2) h3)
   rw [decide_eq_false h]
   split
   · split
     · split
       · exact absurd ⟨by assumption, by assumption, by assumption⟩ h2
       · rfl
     · rfl
   · rfl
theorem neq_sym (x y : Sym) (W : World) : (binOp .neq 38 (.agg #[.int .i64 x.kind, .string x.text, .int .i64 x.n]) (.agg #[.int .i64 y.kind, .string y.text, .int .i64 y.n])).run Tryz.prog W = .ok (.bool (!decide (x = y))) W := by
 rw [run_neq_struct]
 go_simp
 by_cases h : x = y
 · subst h; simp
 · have h2 : ¬ (x.kind = y.kind ∧ x.text.toList = y.text.toList ∧ x.n = y.n) := fun ⟨h1, h2, h3⟩ => h (Sym.ext' h1 (toList_inj h2) h3)
   rw [decide_eq_false h]
   split
   · split
     · split
       · exact absurd ⟨by assumption, by assumption, by assumption⟩ h2
       · rfl
     · rfl
   · rfl
attribute [local go_sem] eql_sym neq_sym
def within (v n : Int) : Int := if n < 1 then 0 else v % n
theorem sym_at {w : World} {A : Option Addr} {c k : Nat} {l : List Sym} (h : RowRd w 3 Sym.cells A c l) (hk : k < l.length) : ∃ g off, A = some ⟨g, off, none⟩ ∧ g < w.heap.size ∧
 w.cell? ⟨g, off + k * 3, none⟩ = some (.int .i64 l[k].kind) ∧ w.cell? ⟨g, off + k * 3 + 1, none⟩ = some (.string l[k].text) ∧ w.cell? ⟨g, off + k * 3 + 2, none⟩ = some (.int .i64 l[k].n) := by
 obtain ⟨g, off, hA, hg, hc⟩ := h.at_ hk
 exact ⟨g, off, hA, hg, by simpa using hc 0 _ rfl, by simpa using hc 1 _ rfl, by simpa using hc 2 _ rfl⟩
theorem within_nat (v : Int) {n : Nat} (h : 0 < n) : ∃ j : Nat, within v n = j ∧ j < n := by
 have h1 : ¬ (n : Int) < 1 := by omega
 have h2 := Int.emod_nonneg v (show (n : Int) ≠ 0 by omega)
 have h3 := Int.emod_lt_of_pos v (show (0 : Int) < n by omega)
 refine ⟨(v % (n : Int)).toNat, ?_, by omega⟩
 simp only [within, if_neg h1]
 omega
set_option maxHeartbeats 1000000 in
theorem within_is (v n : Int) (w : World) (hn : n ≤ 9223372036854775807) :
 Calls Tryz.prog 13 #[.int .i64 v, .int .i64 n] w fun e w' => e = .returned (.int .i64 (within v n)) ∧ w = w' := by
 by_cases h : n < 1
 · have hw : within v n = 0 := by simp [within, h]
   rw [hw]
   go_enter Tryz.func13, Tryz.ntmps13
   go_wp2_with fail
   go_ret
   exact ⟨rfl, rfl⟩
 · have hw : within v n = v % n := by simp [within, h]
   rw [hw]
   have e0 : n ≠ 0 := by omega
   have h1 : v.tmod n < n := Int.tmod_lt_of_pos v (by omega)
   have h2 : -n < v.tmod n := by
    have := Int.lt_tmod_of_pos v (show 0 < n by omega)
    omega
   have e1 : IntKind.i64.wrap (v.tmod n) = v.tmod n := IntWalk.i64_in _ (by omega)
   have e2 : v.tmod n < 0 → v % n = v.tmod n + n := fun h3 => by
    have h4 := Int.emod_emod_of_dvd v (Int.dvd_refl n)
    have h5 : (v.tmod n) % n = v % n := by
     have := Int.mul_tdiv_add_tmod v n
     have h6 : v % n = (v.tmod n + n * v.tdiv n) % n := by congr 1; omega
     rw [h6, Int.add_mul_emod_self_left]
    have h7 : (v.tmod n + n) % n = v.tmod n % n := by simp
    rw [← h5, ← h7, Int.emod_eq_of_lt (by omega) (by omega)]
   have e3 : ¬ v.tmod n < 0 → v % n = v.tmod n := fun h3 => by
    have h5 : (v.tmod n) % n = v % n := by
     have := Int.mul_tdiv_add_tmod v n
     have h6 : v % n = (v.tmod n + n * v.tdiv n) % n := by congr 1; omega
     rw [h6, Int.add_mul_emod_self_left]
    rw [← h5, Int.emod_eq_of_lt (by omega) (by omega)]
   have E2 := Lib.hid e2
   have E3 := Lib.hid e3
   clear e2 e3
   go_enter Tryz.func13, Tryz.ntmps13
   by_cases h3 : v.tmod n < 0
   · have E := Lib.hid (E2.out h3)
     have e4 : IntKind.i64.wrap (v.tmod n + n) = v.tmod n + n := IntWalk.i64_in _ (by omega)
     clear E2 E3
     go_wp2_with fail
     go_ret
     exact ⟨by rw [E.out]; rfl, rfl⟩
   · have E := Lib.hid (E3.out h3)
     clear E2 E3
     go_wp2_with fail
     go_ret
     exact ⟨by rw [E.out]; rfl, rfl⟩
end Go.Proofs.YtffemfglngikbaaGreat
namespace Go.Proofs.YtffemfglngikbaaGreat
open Go.RowKit Go.Shelf
theorem Blk.z3 {w : World} {g : Nat} {t : TypeId} (h : Blk w g t #[.int .i64 0, .string ⟨#[]⟩, .int .i64 0]) : w.cell? ⟨g, 0, none⟩ = some (.int .i64 0) ∧ w.cell? ⟨g, 1, none⟩ = some (.string ⟨#[]⟩) ∧ w.cell? ⟨g, 2, none⟩ = some (.int .i64 0) ∧ w.frozen? ⟨g, 0, none⟩ = false ∧ w.frozen? ⟨g, 1, none⟩ = false ∧ w.frozen? ⟨g, 2, none⟩ = false ∧ g < w.heap.size :=
 ⟨(h.cell 0).trans rfl, (h.cell 1).trans rfl, (h.cell 2).trans rfl, h.frozen 0, h.frozen 1, h.frozen 2, h.lt⟩
theorem Blk.s3 {w : World} {g : Nat} {t : TypeId} {s : Sym} (h : Blk w g t #[.int .i64 s.kind, .string s.text, .int .i64 s.n]) : w.cell? ⟨g, 0, none⟩ = some (.int .i64 s.kind) ∧ w.cell? ⟨g, 1, none⟩ = some (.string s.text) ∧ w.cell? ⟨g, 2, none⟩ = some (.int .i64 s.n) ∧ w.frozen? ⟨g, 0, none⟩ = false ∧ w.frozen? ⟨g, 1, none⟩ = false ∧ w.frozen? ⟨g, 2, none⟩ = false ∧ g < w.heap.size :=
 ⟨(h.cell 0).trans rfl, (h.cell 1).trans rfl, (h.cell 2).trans rfl, h.frozen 0, h.frozen 1, h.frozen 2, h.lt⟩
end Go.Proofs.YtffemfglngikbaaGreat
namespace Go.Proofs.YtffemfglngikbaaGreat
def encStr (v : ByteArray) : Array Value := #[.string v]
end Go.Proofs.YtffemfglngikbaaGreat
namespace Go.Proofs.YtffemfglngikbaaGreat
def oneN (s : ByteArray) : List ByteArray := if s.toList = [] then [] else [s]
theorem oneN_no {s : ByteArray} (h : s.toList = []) : oneN s = [] := by rw [oneN, if_pos h]
theorem oneN_yes {s : ByteArray} (h : ¬ s.toList = []) : oneN s = [s] := by rw [oneN, if_neg h]
def varsT (l : List TestT) : List ByteArray := l.flatMap fun t => oneN t.var
def namesN : Nat → CondT → List ByteArray
 | 0, _ => []
 | n + 1, c => oneN c.id ++ (varsT c.attr ++ (varsT c.value ++ c.conds.flatMap (namesN n)))
theorem oneN_len (s : ByteArray) : (oneN s).length ≤ 1 := by unfold oneN; split <;> simp
theorem varsT_len (l : List TestT) : (varsT l).length ≤ l.length := by
 unfold varsT
 induction l with
 | nil => simp
 | cons t l ih => have := oneN_len t.var; rw [List.flatMap_cons, List.length_append, List.length_cons]; omega
theorem varsT_drop {l : List TestT} {i : Nat} (h : i < l.length) : varsT (l.drop i) = oneN l[i].var ++ varsT (l.drop (i + 1)) := by
 unfold varsT
 rw [List.drop_eq_getElem_cons h, List.flatMap_cons]
end Go.Proofs.YtffemfglngikbaaGreat
namespace Go.Proofs.YtffemfglngikbaaGreat
def fives (a : ActT) : List ByteArray := [a.id, a.attr.var, a.value.a.var, a.value.b.var, a.other.var]
def varsA (a : ActT) : List ByteArray := (fives a).flatMap oneN
def varsP (n : Nat) (p : ProdT) : List ByteArray := p.conds.flatMap (namesN n) ++ p.acts.flatMap varsA
end Go.Proofs.YtffemfglngikbaaGreat
namespace Go.Proofs.YtffemfglngikbaaGreat
open Go.RowKit
inductive Each2 {α β : Type} (R : α → β → Prop) : List α → List β → Prop
 | nil : Each2 R [] []
 | cons {a : α} {b : β} {l : List α} {m : List β} : R a b → Each2 R l m → Each2 R (a :: l) (b :: m)
section
variable {α β : Type} {R R' : α → β → Prop}
theorem Each2.length : ∀ {l : List α} {m : List β}, Each2 R l m → l.length = m.length
 | _, _, .nil => rfl
 | _, _, .cons _ h => by simp [h.length]
theorem Each2.imp (hr : ∀ a b, R a b → R' a b) : ∀ {l : List α} {m : List β}, Each2 R l m → Each2 R' l m
 | _, _, .nil => .nil
 | _, _, .cons h t => .cons (hr _ _ h) (t.imp hr)
theorem Each2.snoc {a : α} {b : β} (hr : R a b) : ∀ {l : List α} {m : List β}, Each2 R l m → Each2 R (l ++ [a]) (m ++ [b])
 | _, _, .nil => .cons hr .nil
 | _, _, .cons h t => .cons h (t.snoc hr)
theorem Each2.append : ∀ {l l' : List α} {m m' : List β}, Each2 R l m → Each2 R l' m' → Each2 R (l ++ l') (m ++ m')
 | _, _, _, _, .nil, h => h
 | _, _, _, _, .cons h t, k => .cons h (t.append k)
theorem Each2.get : ∀ {l : List α} {m : List β}, Each2 R l m → ∀ k, (h : k < l.length) → ∃ h' : k < m.length, R l[k] m[k]
 | _, _, .nil, _, h => absurd h (by simp)
 | _, _, .cons h _, 0, _ => ⟨by simp, h⟩
 | _, _, .cons _ t, k + 1, h => by
   obtain ⟨h1, h2⟩ := t.get k (by simpa using h)
   exact ⟨by simpa using h1, by simpa using h2⟩
end
theorem flatten_get {size : Nat} : ∀ (css : List (List Value)), (∀ cs ∈ css, cs.length = size) → ∀ k, (h : k < css.length) → ∀ j, j < size → css.flatten[k * size + j]? = css[k][j]?
 | [], _, _, h, _, _ => absurd h (by simp)
 | c :: css, hs, 0, _, j, hj => by
   rw [List.flatten_cons, List.getElem?_append_left (by rw [hs c (by simp)]; omega)]; simp
 | c :: css, hs, k + 1, h, j, hj => by
   have hc := hs c (by simp)
   rw [List.flatten_cons, List.getElem?_append_right (by rw [hc, Nat.add_mul]; omega), hc]
   rw [show (k + 1) * size + j - size = k * size + j by rw [Nat.add_mul]; omega]
   exact flatten_get css (fun cs h => hs cs (by simp [h])) k (by simpa using h) j hj
theorem sum_const {α : Type} (n : Nat) : ∀ l : List α, (l.map fun _ => n).sum = l.length * n
 | [] => by simp
 | _ :: l => by simp only [List.map_cons, List.sum_cons, List.length_cons, sum_const n l, Nat.add_mul]; omega
def Aside (w : World) (v : Value) : Nat → Prop := fun j => j < w.heap.size ∧ v.ownBlock ≠ some j
def OwnR {α : Type} (r : RepT α) (e : TypeId) (base : Nat) (w : World) (v : Value) (l : List α) : Prop :=
 ∃ css, w.ownsRow base e r.size v l.length css.flatten ∧ Each2 (fun a cs => r.rep (Aside w v) w a cs) l css
section
variable {α : Type} {r : RepT α} {e : TypeId} {base : Nat} {w w' : World} {v : Value} {l : List α}
theorem OwnR.nil (r : RepT α) (e : TypeId) (base : Nat) (w : World) : OwnR r e base w (.slice none 0 0) [] := ⟨[], ⟨by simp, .inl ⟨rfl, rfl⟩⟩, .nil⟩
theorem OwnR.form (h : OwnR r e base w v l) : ∃ A c, v = .slice A l.length c ∧ l.length ≤ c ∧ c ≤ maxLen ∧ AIn A (fun j => base ≤ j ∧ j < w.heap.size) := by
 obtain ⟨css, hown, _⟩ := h
 rcases hown.2 with ⟨rfl, hn⟩ | ⟨g, cap, cur, rfl, h0, hg, hn, hc, _⟩
 · exact ⟨none, 0, by rw [hn], by omega, Nat.zero_le _, AIn.none_ _⟩
 · exact ⟨_, cap, rfl, hn, hc, fun a ha => by cases ha; exact ⟨h0, Blk.lt (t := e) hg⟩⟩
theorem OwnR.block (h : OwnR r e base w v l) : ∀ k, v.ownBlock = some k → base ≤ k ∧ k < w.heap.size := by
 obtain ⟨A, c, rfl, _, _, hA⟩ := h.form
 intro k hk
 rcases A with _ | a
 · cases hk
 · simp only [Value.ownBlock, Option.some.injEq] at hk
   subst hk
   exact hA a rfl
theorem OwnR.keep (h : OwnR r e base w v l) (hs : w.heap.size ≤ w'.heap.size) (hk : ∀ k, k < w.heap.size → w'.heap[k]? = w.heap[k]?) : OwnR r e base w' v l := by
 obtain ⟨css, hown, he⟩ := h
 refine ⟨css, ⟨hown.1, hown.2.imp id fun ⟨g, cap, cur, hv, h0, hg, hr⟩ => ⟨g, cap, cur, hv, h0, (hk g (Blk.lt (t := e) hg)).trans hg, hr⟩⟩, he.imp fun a cs hr => r.keep hs (fun k hd hl => ⟨⟨by omega, hd.2⟩, hk k hl⟩) hr⟩
theorem OwnR.new_ (h : OwnR r e base w v l) (hb : Below w.heap.size w w') : OwnR r e base w' v l := h.keep hb.size hb.block
theorem OwnR.fr {M : Nat → Prop} (h : OwnR r e base w v l) (hF : Fr M w w') (hM : ∀ k, ¬ M k) : OwnR r e base w' v l := h.keep hF.size (fun k hk => hF.block k hk (hM k))
theorem OwnR.row {A : Option Addr} {n c : Nat} (h : OwnR r e base w (.slice A n c) l) : RowR r (· < w.heap.size) w A c l := by
 obtain ⟨A', c', hv, h1, h2, _⟩ := h.form
 injection hv with hA hn hc
 subst hA; subst hc
 obtain ⟨css, hown, he⟩ := h
 refine ⟨h1, h2, fun h0 => ?_⟩
 have hsz : ∀ cs ∈ css, cs.length = r.size := fun cs hcs => by
  obtain ⟨k, hk, rfl⟩ := List.getElem_of_mem hcs
  obtain ⟨_, h3⟩ := he.get k (by rw [he.length]; exact hk)
  exact r.len h3
 rcases hown.2 with ⟨hv, hn0⟩ | ⟨g, cap, cur, hv, _, hg, hn2, hc2, hs2, ht⟩
 · omega
 · injection hv with hA _ hc
   subst hA
   have hgl : g < w.heap.size := Blk.lt (t := e) hg
   refine ⟨g, 0, rfl, hgl, hgl, fun k hk => ?_⟩
   obtain ⟨hk2, hrep⟩ := he.get k hk
   refine ⟨css[k], r.keep (Nat.le_refl _) (fun j hj _ => ⟨hj.1, rfl⟩) hrep, fun j u hu => ?_⟩
   have hj : j < r.size := by rw [← r.len hrep]; exact (List.getElem?_eq_some_iff.1 hu).1
   have hf := flatten_get css hsz k hk2 j hj
   rw [hu, ← ht] at hf
   rw [Nat.zero_add, Blk.cell (t := e) hg]
   have hlt : k * r.size + j < l.length * r.size := by
    have : (k + 1) * r.size ≤ l.length * r.size := Nat.mul_le_mul_right _ hk
    rw [Nat.add_mul] at this; omega
   rw [List.getElem?_take_of_lt hlt] at hf
   rw [← hf]; simp
theorem OwnR.grown {v' : Value} {l2 : List α} {css2 : List (List Value)} (h : OwnR r e base w v l) (hown : w'.ownsRow base e r.size v' (l ++ l2).length ((Classical.choose h).flatten ++ css2.flatten)) (hg : w.grownBy w' v.ownBlock)
 (hv : v'.ownBlock = v.ownBlock ∨ v'.ownBlock = some w.heap.size) (he2 : Each2 (fun a cs => r.rep (Aside w v) w a cs) l2 css2) : OwnR r e base w' v' (l ++ l2) := by
 have hs := Classical.choose_spec h
 have up : ∀ a cs, r.rep (Aside w v) w a cs → r.rep (Aside w' v') w' a cs := fun a cs hr => r.keep hg.size (fun k hd hl => ⟨⟨Nat.lt_of_lt_of_le hd.1 hg.size, fun hk => by
  rcases hv with hv | hv
  · exact hd.2 (hv ▸ hk)
  · rw [hv] at hk; injection hk with hk; omega⟩, hg.block k hl (fun hk => hd.2 hk.symm)⟩) hr
 exact ⟨Classical.choose h ++ css2, by rw [List.flatten_append]; exact hown, (hs.2.imp up).append (he2.imp up)⟩
end
section
variable {P : Program} (w : World)
theorem run_append_srcB (t ty e : TypeId) (i : TypeInfo) (z : Value) (size bytes : Nat) (ht : P.underlying t = some (.slice e)) (hi : P.info? e = some i) (hz : i.zero = some z)
 (hsize : i.size = size) (hby : i.bytes = bytes) (hzs : z.cells.size = size) (hsz : 0 < size)
 (base : Nat) (hbase : base ≤ w.heap.size) (v : Value) (n : Nat) (xs : List Value) (hown : w.ownsRow base e size v n xs) (A : Option Addr) (m c : Nat) (news : List Value) (hl : news.length = m * size)
 (hnews : 0 < m → ∃ ad, A = some ad ∧ ∀ j u, news[j]? = some u → w.cell? (ad.add j) = some u) (h1 : ∀ u ∈ news, u.oneCell' = true)
 (h63 : n + m ≤ maxLen) (hbytes : (n + m) * bytes ≤ 140737488355328) :
 ∃ v' w', (Builtin.append_ #[t, t] ty #[v, .slice A m c]).run P w = .ok v' w' ∧ w'.ownsRow base e size v' (n + m) (xs ++ news) ∧ w.grownBy w' v.ownBlock ∧
   (v' = .slice none 0 0 ↔ v = .slice none 0 0 ∧ m = 0) ∧ (v'.ownBlock = v.ownBlock ∨ v'.ownBlock = some w.heap.size) := by
 rcases Nat.eq_zero_or_pos m with rfl | hm
 · have hn : news = [] := List.eq_nil_of_length_eq_zero (by simpa using hl)
   subst hn
   rcases A with _ | ad
   · refine ⟨v, w, ?_, by simpa using hown, World.grownBy.refl w _, by simp, .inl rfl⟩
     rcases hown.2 with ⟨rfl, rfl⟩ | ⟨g, cap, cur, rfl, _, _, hnc, _⟩
     · simp [Builtin.append_, run_underlying ht, sizeOf, typeInfo, hi, Builtin.lenOf, Builtin.firstCells]
     · simp [Builtin.append_, run_underlying ht, sizeOf, typeInfo, hi, Builtin.lenOf, Builtin.firstCells, hnc, storeCells]
   · exact run_append_own_at w base t ty e i z size bytes ht hi hz hsize hby hzs hsz v n xs hown ad 0 c [] (by simp) (by simp) (by simp) h63 hbytes hbase
 · obtain ⟨ad, rfl, hc⟩ := hnews hm
   exact run_append_own_at w base t ty e i z size bytes ht hi hz hsize hby hzs hsz v n xs hown ad m c news hl hc h1 h63 hbytes hbase
theorem wp_append_srcB {o : Oper} {a : Act} {K : Act → World → Prop} {Q : Exit → Act → World → Prop} (s x : Operand) (t : TypeId)
 (ho : o.op = .call { callee := .builtin .append, args := #[s, x], argTypes := #[t, t] })
 (e : TypeId) (i : TypeInfo) (z : Value) (size bytes : Nat) (ht : P.underlying t = some (.slice e)) (hi : P.info? e = some i) (hz : i.zero = some z)
 (hsize : i.size = size) (hby : i.bytes = bytes) (hzs : z.cells.size = size) (hsz : 0 < size)
 (base : Nat) (hbase : base ≤ w.heap.size) (v : Value) (n : Nat) (xs : List Value) (hs : a.eval s = v) (hown : w.ownsRow base e size v n xs)
 (A : Option Addr) (m c : Nat) (news : List Value) (hx : a.eval x = .slice A m c) (hl : news.length = m * size)
 (hnews : 0 < m → ∃ ad, A = some ad ∧ ∀ j u, news[j]? = some u → w.cell? (ad.add j) = some u) (h1 : ∀ u ∈ news, u.oneCell' = true)
 (h63 : n + m ≤ maxLen) (hbytes : (n + m) * bytes ≤ 140737488355328)
 (h : ∀ v' w', w'.ownsRow base e size v' (n + m) (xs ++ news) → w.grownBy w' v.ownBlock → (v' = .slice none 0 0 ↔ v = .slice none 0 0 ∧ m = 0) → (v'.ownBlock = v.ownBlock ∨ v'.ownBlock = some w.heap.size) → K (a.put o.dst v') w') :
 Oper.wp P o a w K Q := by
 obtain ⟨v', w', hr, h2, h3, h4, h5⟩ := run_append_srcB (P := P) w t o.type e i z size bytes ht hi hz hsize hby hzs hsz base hbase v n xs hown A m c news hl hnews h1 h63 hbytes
 unfold Oper.wp execOp
 simp only [ho, resolve, invoke, builtin, Sem.run_bind, Sem.run_pure, Result.andThen_ok, List.map_toArray, List.map_cons, List.map_nil, hs, hx, hr]
 exact h v' w' h2 h3 h4 h5
theorem step_append_srcB {ops : Array Oper} {o : Oper} {a : Act} {K : Act → World → Prop} {Q : Exit → Act → World → Prop} {E : Prop} (hgd : o.guard = none) (s x : Operand) (t : TypeId)
 (ho : o.op = .call { callee := .builtin .append, args := #[s, x], argTypes := #[t, t] })
 (e : TypeId) (i : TypeInfo) (z : Value) (size bytes : Nat) (ht : P.underlying t = some (.slice e)) (hi : P.info? e = some i) (hz : i.zero = some z)
 (hsize : i.size = size) (hby : i.bytes = bytes) (hzs : z.cells.size = size) (hsz : 0 < size)
 (base : Nat) (hbase : base ≤ w.heap.size) (v : Value) (n : Nat) (xs : List Value) (hs : a.eval s = v) (hown : w.ownsRow base e size v n xs)
 (A : Option Addr) (m c : Nat) (news : List Value) (hx : a.eval x = .slice A m c) (hl : news.length = m * size)
 (hnews : 0 < m → ∃ ad, A = some ad ∧ ∀ j u, news[j]? = some u → w.cell? (ad.add j) = some u) (h1 : ∀ u ∈ news, u.oneCell' = true)
 (h63 : n + m ≤ maxLen) (hbytes : (n + m) * bytes ≤ 140737488355328)
 (h : ∀ v' w', w'.ownsRow base e size v' (n + m) (xs ++ news) → w.grownBy w' v.ownBlock → (v' = .slice none 0 0 ↔ v = .slice none 0 0 ∧ m = 0) → (v'.ownBlock = v.ownBlock ∨ v'.ownBlock = some w.heap.size) → K (a.put o.dst v') w') :
 if Region.wanted o (yielded ops a.tmps) = true then Oper.wp P o a w K Q else E := by
 rw [if_pos (by simp [Region.wanted, hgd])]
 exact wp_append_srcB w s x t ho e i z size bytes ht hi hz hsize hby hzs hsz base hbase v n xs hs hown A m c news hx hl hnews h1 h63 hbytes h
theorem wpList_append_srcB {ops : Array Oper} {rest : List Oper} {o : Oper} {a : Act} {Q : Exit → Act → World → Prop} (hgd : o.guard = none) (s x : Operand) (t : TypeId)
 (ho : o.op = .call { callee := .builtin .append, args := #[s, x], argTypes := #[t, t] })
 (e : TypeId) (i : TypeInfo) (z : Value) (size bytes : Nat) (ht : P.underlying t = some (.slice e)) (hi : P.info? e = some i) (hz : i.zero = some z)
 (hsize : i.size = size) (hby : i.bytes = bytes) (hzs : z.cells.size = size) (hsz : 0 < size)
 (base : Nat) (hbase : base ≤ w.heap.size) (v : Value) (n : Nat) (xs : List Value) (hs : a.eval s = v) (hown : w.ownsRow base e size v n xs)
 (A : Option Addr) (m c : Nat) (news : List Value) (hx : a.eval x = .slice A m c) (hl : news.length = m * size)
 (hnews : 0 < m → ∃ ad, A = some ad ∧ ∀ j u, news[j]? = some u → w.cell? (ad.add j) = some u) (h1 : ∀ u ∈ news, u.oneCell' = true)
 (h63 : n + m ≤ maxLen) (hbytes : (n + m) * bytes ≤ 140737488355328)
 (h : ∀ v' w', w'.ownsRow base e size v' (n + m) (xs ++ news) → w.grownBy w' v.ownBlock → (v' = .slice none 0 0 ↔ v = .slice none 0 0 ∧ m = 0) → (v'.ownBlock = v.ownBlock ∨ v'.ownBlock = some w.heap.size) → wpList P ops Q rest (a.put o.dst v') w') :
 wpList P ops Q (o :: rest) a w :=
 wpList_plain hgd fun _ hK => wp_append_srcB w s x t ho e i z size bytes ht hi hz hsize hby hzs hsz base hbase v n xs hs hown A m c news hx hl hnews h1 h63 hbytes (fun v' w' a b c d => hK _ _ (h v' w' a b c d))
end
section
variable {P : Program} {α : Type} {r : RepT α} (w : World)
end
end Go.Proofs.YtffemfglngikbaaGreat
namespace Go.Proofs.YtffemfglngikbaaGreat
open Go.RowKit
variable {P : Program}
structure Kept (B : Nat) (F X Y : World) : Prop where
 from_ : KeepsFrom B X Y
 own : ∀ k, B ≤ k → k < F.heap.size → Y.heap[k]? = X.heap[k]?
section
variable {B C : Nat} {F X Y Z : World}
theorem Kept.refl (B : Nat) (F X : World) : Kept B F X X := ⟨⟨Nat.le_refl _, fun _ _ _ h _ => h⟩, fun _ _ _ => rfl⟩
theorem Kept.trans (h : Kept B F X Y) (k : Kept B F Y Z) : Kept B F X Z := ⟨h.1.trans k.1, fun i h1 h2 => (k.2 i h1 h2).trans (h.2 i h1 h2)⟩
theorem Kept.up (h : Kept B F X Y) (hB : B ≤ C) : Kept C F X Y := ⟨KeepsFrom.up h.1 hB, fun i h1 h2 => h.2 i (by omega) h2⟩
theorem Kept.new_ (h : Below X.heap.size X Y) (hs : F.heap.size ≤ X.heap.size) : Kept B F X Y :=
 ⟨⟨h.size, fun k o _ hk _ => (h.block k (Array.getElem?_eq_some_iff.1 hk).1).trans hk⟩, fun k _ hk => h.block k (by omega)⟩
end
def IterP {α : Type} (P : Program) (gf : Nat) (lb : Array Value) (encs : α → Array Value) (xs : List α) (W : World) (start Kp : World → World → Prop) : Prop :=
 ∀ (l : Nat) (J Jx : World → List α → World → Prop), (∀ F p X Y, J F p X → Priv W.heap.size X Y → J F p Y) → (∀ F p X Y, Jx F p X → Priv W.heap.size X Y → Jx F p Y) →
   (∀ F, start W F → J F [] F) →
   (∀ F pre x post W1, start W F → xs = pre ++ x :: post → J F pre W1 → YieldAt Fence.wide 0 P l (encs x) W1 fun e W' =>
     (e = .returned (.bool true) ∧ J F (pre ++ [x]) W' ∧ Kp W1 W' ∧ Kept W.heap.size F W1 W') ∨ (e = .returned (.bool false) ∧ Jx F (pre ++ [x]) W' ∧ Kept W.heap.size F W1 W')) →
   CallsIn Fence.wide 0 P gf (#[.func (.yield l) #[] #[]] ++ lb) W fun e W' => (∃ v, e = .returned v) ∧ ∃ F, start W F ∧ (J F xs W' ∨ ∃ pre post, xs = pre ++ post ∧ Jx F pre W')
theorem Iter.p {α : Type} {gf : Nat} {lb : Array Value} {encs : α → Array Value} {xs : List α} {W : World} {start Kp : World → World → Prop} (h : Iter P gf lb encs xs W start (fun X Y => Kp X Y ∧ KeepsFrom W.heap.size X Y)) : IterP P gf lb encs xs W start Kp := by
 intro l J Jx h1 h2 h3 h4
 refine (h l (fun p X => ∃ F, start W F ∧ J F p X) (fun p X => ∃ F, start W F ∧ Jx F p X) (fun p X Y ⟨F, a, b⟩ hp => ⟨F, a, h1 F p X Y b hp⟩) (fun p X Y ⟨F, a, b⟩ hp => ⟨F, a, h2 F p X Y b hp⟩) (fun F hF => ⟨F, hF, h3 F hF⟩) ?_).mono ?_
 · rintro pre x post W1 hx ⟨F, hF, hJ⟩
   obtain ⟨fn, tmps, assign, body, hy, hR⟩ := h4 F pre x post W1 hF hx hJ
   refine ⟨fn, tmps, assign, body, hy, hR.mono ?_⟩
   rintro e W' (⟨g1, g2, g3, g4⟩ | ⟨g1, g2, _⟩)
   · exact .inl ⟨g1, ⟨F, hF, g2⟩, g3, g4.1⟩
   · exact .inr ⟨g1, F, hF, g2⟩
 · rintro e W' ⟨hv, (⟨F, hF, hJ⟩ | ⟨pre, post, hx, F, hF, hJ⟩)⟩
   · exact ⟨hv, F, hF, .inl hJ⟩
   · exact ⟨hv, F, hF, .inr ⟨pre, post, hx, hJ⟩⟩
end Go.Proofs.YtffemfglngikbaaGreat
