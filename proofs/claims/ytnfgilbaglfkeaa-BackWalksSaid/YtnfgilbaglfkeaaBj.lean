/-
  Texts put together: BkWalk.
-/
import Derived.Test.YtnfgilbaglfkeaaBh
import Derived.Test.YtnfgilbaglfkeaaBi
import Derived.RangeFuncBound
import Derived.Maps.RangeWalk
namespace Go.Proofs.Ytnfgilbaglfkeaa
open Go.RowKit Go.Shelf
attribute [local go_sem] Oper.semAt_some
def WalkPost (n : Nat) (G : (Nat → Prop) → List Int → World → Prop) (look : Int → RecordT × Bool) (lv : Int) (E0 : Nat → Prop) (done : List Int) (w : World) (e : Ending) (w' : World) : Prop :=
 ∃ A1 c1 A2 c2 A3 c3 A4 c4 E', e = .returned (.agg #[.slice A1 (trailV look lv done).elems.length c1, .slice A2 (trailV look lv done).holes.length c2, .slice A3 (trailV look lv done).aparts.length c3, .slice A4 (trailV look lv done).news.length c4, .int .i64 ((trailV look lv done).visited : Nat), .int .i64 ((trailV look lv done).lost : Nat)]) ∧
   RowR repTraceT (· < w'.heap.size) w' A1 c1 (trailV look lv done).elems ∧ RowR (repHoleT n) (· < w'.heap.size) w' A2 c2 (trailV look lv done).holes ∧ RowR repApartT (· < w'.heap.size) w' A3 c3 (trailV look lv done).aparts ∧ RowR repSym (· < w'.heap.size) w' A4 c4 (trailV look lv done).news ∧
   G E' done w' ∧ (∀ k, E' k → E0 k ∨ w.heap.size ≤ k) ∧ Fr E0 w w'
theorem own_row {α : Type} {w : World} {e size : Nat} {cells : α → List Value} (hs : ∀ a, (cells a).length = size) {A : Option Addr} {c : Nat} {l : List α} (h : w.ownsRow 0 e size (.slice A l.length c) l.length (l.flatMap cells)) : RowR (RepT.flat size cells hs) (· < w.heap.size) w A c l :=
 RowR.of_rd (ownsRow_rd hs h) (fun a ha => own_lt h a.block (by subst ha; rfl))
set_option maxRecDepth 100000 in
set_option maxHeartbeats 64000000 in
theorem walk_is {n B gf : Nat} {lb : Array Value} {look : Int → RecordT × Bool} {G : (Nat → Prop) → List Int → World → Prop} (hf : FindSpec n B gf lb look G) (keys : List Int) (hkeys : ∀ k, (look k).2 = true → k ∈ keys) (hsm : ∀ k, SmR n (look k).1) (lv : Int) (nums : List Int) (A0 : Option Addr) (c0 : Nat) {E0 : Nat → Prop} (w : World)
 (hG : G E0 [] w) (hB : B ≤ w.heap.size) (hrd : RowRd w 1 Int.cells1 A0 c0 nums) (hcost : cost look lv keys nums [] ≤ 100000) (hRl : (recsOf look (reach look lv keys nums [])).length ≤ 500) :
 Calls Try.prog 11 #[.int .i64 lv, .slice A0 nums.length c0, .func (.func gf) #[] lb] w (WalkPost n G look lv E0 (reach look lv keys nums []) w) := by
 obtain ⟨i0, hi0, hz0, hz1, hz2⟩ := infp inf_Int
 obtain ⟨ib, hib, hib0, hib1, hib2⟩ := infp inf_Bind
 obtain ⟨ia, hia, hia0, hia1, hia2⟩ := infp inf_Apart
 obtain ⟨iy, hiy, hiy0, hiy1, hiy2⟩ := infp inf_Sym
 obtain ⟨it, hit, hit0, hit1, hit2⟩ := infp inf_Trace
 obtain ⟨ih, hih, hih0, hih1, hih2⟩ := infp inf_Hole
 have hnl : nums.length ≤ 100000 := by unfold cost at hcost; omega
 have hcap0 := hrd.cap
 have hE0 := hf.lt hG
 have HF := Lib.hid (hf.up hB)
 have HRD := Lib.hid hrd
 have HG := Lib.hid hG
 have HE0 := Lib.hid hE0
 have HKEYS := Lib.hid hkeys
 have HSM := Lib.hid hsm
 have HCOST := Lib.hid hcost
 have HRL := Lib.hid hRl
 have hent := hf.enter
 clear hf hrd hG hE0 hkeys hsm hcost hRl hB
 refine (callsIn_wide (n := 0)).1 ?_
 refine callsIn_of_wp_marks Try.func11 rfl trivial ?_
 refine wpIn_wide.2 ?_
 simp only [Try.ntmps11, List.size_toArray, List.length_cons, List.length_nil, Nat.reduceAdd, Nat.reduceSub, Array.replicate_succ, Array.replicate_zero, List.push_toArray, List.append_toArray, List.nil_append, List.cons_append]
 go_upto_region 1 with fail
 obtain ⟨W1, hW1⟩ : ∃ W1, W1 = (w.alloc (.cells #[.int .i64 lv] 3)).alloc (.cells #[.slice none 0 0, .slice none 0 0, .slice none 0 0, .slice none 0 0, .int .i64 0, .int .i64 0] 32) := ⟨_, rfl⟩
 have hB1 : Below w.heap.size w W1 := by rw [hW1]; exact ((Below.refl _ _).alloc (Nat.le_refl _) _).alloc (by simp) _
 have hX1 : Blk W1 w.heap.size 3 #[.int .i64 lv] := by rw [hW1]; exact (Blk.new _ _ _).alloc _
 have hR1 : Blk W1 (w.heap.size + 1) 32 #[.slice none 0 0, .slice none 0 0, .slice none 0 0, .slice none 0 0, .int .i64 0, .int .i64 0] := by rw [hW1]; have := Blk.new (w.alloc (.cells #[.int .i64 lv] 3)) 32 #[.slice none 0 0, .slice none 0 0, .slice none 0 0, .slice none 0 0, .int .i64 0, .int .i64 0]; simpa using this
 have hz1e : W1.heap.size = w.heap.size + 2 := by rw [hW1]; simp
 rw [← hW1]
 clear hW1
 have HZ1E := Lib.hid hz1e
 clear hz1e
 have HB1 := Lib.hid hB1
 have HX1 := Lib.hid hX1
 have HR1 := Lib.hid hR1
 clear hB1 hX1 hR1
 go_wp2_with fail
 refine (bknew_PgR W1).mono ?_
 rintro e w2 ⟨bm, bp, sn2, A2, c2, rfl, hbm, hbp, hA2, hMb, hS2, hB2⟩
 have hz1' := HB1.out.size
 have hzw2 := hB2.size
 have HB2 := Lib.hid (HB1.out.trans (hB2.mono hz1'))
 have HX2 := Lib.hid (HX1.out.new_ hB2)
 have HR2 := Lib.hid (HR1.out.new_ hB2)
 have HMb := Lib.hid hMb
 have HS2 := Lib.hid hS2
 have HA2 := Lib.hid hA2
 clear hB2 hMb hS2 hA2
 go_wp2_with fail
 refine (new_Bnum none 0 [] w2 (RowRd.nil _ _ _) (by simp)).mono ?_
 rintro e w3 ⟨sb, rfl, hsb, sn3, A3, c3, hS3, hA3, hB3⟩
 have hzw3 := hB3.size
 have HB3 := Lib.hid (HB2.out.trans (hB3.mono (by omega)))
 have HX3 := Lib.hid (HX2.out.new_ hB3)
 have HR3 := Lib.hid (HR2.out.new_ hB3)
 have HMb3 := Lib.hid (HMb.out.new_ hB3)
 have HS23 := Lib.hid (HS2.out.new_ hB3)
 have HS3 := Lib.hid hS3
 have HA3 := Lib.hid hA3
 clear hB3 hS3 hA3 HMb HS2
 go_upto_region 4 with (at_builtin; refine wpList_append_src w3 rfl (.const (.slice none 0 0)) (.tmp 33) 22 rfl 3 i0 _ 1 8 Try.underlying22 hi0 hz0 hz1 hz2 rfl (by omega) (.slice none 0 0) 0 [] rfl (owns_nilC w3 _ _) A0 nums.length c0 (nums.flatMap Int.cells1) rfl (flat_length Int.cells1_length _) ((HRD.out.new_ HB3.out).news Int.cells1_length (by omega)) (one_Int _) (by unfold maxLen; omega) (by omega) ?_; intro v4 w4 hown4 hg4 hnil4 hat4; rw [Nat.zero_add, List.nil_append] at hown4; obtain ⟨A4, c4, rfl, ho4, hA4, hB4⟩ := fresh1_of hown4 hat4 rfl hg4)
 have hzw4 := hB4.size
 obtain ⟨K0, hK0⟩ : ∃ K0 : Nat → Prop, K0 = fun k => k < w.heap.size + 1 := ⟨_, rfl⟩
 have hst : St1 n w.heap.size look G K0 E0 [] nums sb bm bp (.slice A4 nums.length c4) w4 := by
  have hz1e := HZ1E.out
  have nk : ∀ k, w.heap.size + 1 ≤ k → ¬ K0 k := fun k h hk => by rw [hK0] at hk; omega
  have hbB : Below w.heap.size w w4 := HB3.out.trans (hB4.mono (by omega))
  refine ⟨⟨HF.out.steady (M := fun _ => False) HG.out (Fr.of_new hbB) (fun _ h => h.elim), fun k hk => by rw [hK0]; exact Nat.lt_succ_of_lt (HE0.out k hk), fun k hk => by rw [hK0]; exact Nat.lt_succ_of_lt hk, fun k hk => by rw [hK0] at hk; omega⟩, ?_, ?_, ?_⟩
  · exact ⟨sn3, A3, c3, HS3.out.new_ hB4, nk _ (by omega), HA3.out.mono (fun k hk => nk k (by omega))⟩
  · exact ⟨[], ⟨HMb3.out.new_ hB4, nk _ (by omega), sn2, A2, c2, HS23.out.new_ hB4, nk _ (by omega), HA2.out.mono (fun k hk => nk k (by omega))⟩, Srt.nil, .nil⟩
  · refine ⟨QRow.of_own ho4, fun k hk => ?_⟩
    rcases A4 with _ | a
    · simp [Value.ownBlock] at hk
    · simp only [Value.ownBlock, Option.some.injEq] at hk
      have := hA4 a rfl
      exact ⟨by rw [← hk]; exact this.2, nk _ (by rw [← hk]; have := this.1; omega)⟩
 have HST0 := Lib.hid hst
 have HB4 := Lib.hid (HB3.out.trans (hB4.mono (by omega)))
 have HX4 := Lib.hid (HX3.out.new_ hB4)
 have HR4 := Lib.hid (HR3.out.new_ hB4)
 have HK0 := Lib.hid hK0
 obtain ⟨FF, hFF⟩ : ∃ FF, FF = reach look lv keys nums [] := ⟨_, rfl⟩
 rw [← hFF]
 have HFF := Lib.hid hFF
 clear hst hown4 hg4 hnil4 hat4 ho4 hA4 hB4 HMb3 HS23 HS3 HA2 HA3 HX1 HX2 HX3 HR1 HR2 HR3 hK0 hFF
 go_wp2_with fail
 go_loopg [9, 10] (cost look lv keys nums []) (fun gn v lost wr => ∃ (done todo : List Int) (K E : Nat → Prop), lost = .int .i64 (lostOf look done : Nat) ∧ St1 n w.heap.size look G K E done todo sb bm bp v wr ∧ reach look lv keys todo done = FF ∧ gn = cost look lv keys todo done ∧ done.length + gn ≤ 100000 ∧
  Blk wr w.heap.size 3 #[.int .i64 lv] ∧ Blk wr (w.heap.size + 1) 32 #[.slice none 0 0, .slice none 0 0, .slice none 0 0, .slice none 0 0, .int .i64 0, .int .i64 0] ∧ Fr E0 w wr ∧ (∀ k, E k → E0 k ∨ w.heap.size + 2 ≤ k) ∧ K w.heap.size ∧ ¬ K (w.heap.size + 1))
 case atStart => exact ⟨[], nums, K0, E0, rfl, HST0.out, HFF.out.symm, rfl, by simpa using HCOST.out, HX4.out, HR4.out, Fr.of_new HB4.out, fun k h => .inl h, by rw [HK0.out]; exact Nat.lt_succ_self _, by rw [HK0.out]; omega⟩
 case round =>
  obtain ⟨done, todo, K, E, rfl, hst, hre, hgn, hlen, hx, ht, hfr, hEs, hk1, hk2⟩ := hrel
  obtain ⟨A, cap, rfl, hcap1, hcap2⟩ := hst.q.1.form
  have HX := Lib.hid hx
  have HT := Lib.hid ht
  have HFR := Lib.hid hfr
  have HES := Lib.hid hEs
  have HK1 := Lib.hid hk1
  have HK2 := Lib.hid hk2
  have HRE := Lib.hid hre
  have HGN := Lib.hid hgn
  have HLEN := Lib.hid hlen
  clear hx ht hfr hEs hk1 hk2 hre hgn hlen
  cases todo with
  | nil =>
    obtain ⟨w5, hw5⟩ : ∃ w5, w5 = wr := ⟨_, rfl⟩
    subst hw5
    have hRl2 := HRL.out
    have hdf : done = FF := by rw [← HRE.out, reach_nil]
    subst hdf
    rw [← HFF.out] at hRl2
    obtain ⟨mm, ⟨hmb, hmk, snA, AA, cA, hset, hpk, hAk⟩, hsm', heach⟩ := hst.m
    have hml := heach.length
    have HP := Lib.hid hst.p
    have HEA := Lib.hid heach
    have HSET := Lib.hid hset
    have HMB := Lib.hid hmb
    have hAl := hset.row_lt
    have HAL := Lib.hid hAl
    have HPK := Lib.hid hpk
    obtain ⟨R, hR⟩ : ∃ R, R = recsOf look done := ⟨_, rfl⟩
    rw [← hR] at hml hRl2 HEA
    have HR := Lib.hid hR
    have HRL2 := Lib.hid hRl2
    have hpr : ∀ p ∈ R, SmR n p.2 := fun p hp => by
     rw [HR.out] at hp
     rw [(mem_recs hp).2.2]
     exact HSM.out _
    have HPR := Lib.hid hpr
    clear hst hsm' heach hset hmb hmk hpk hAk hRl2 hR hpr hAl
    go_wp2_with fail
    refine (bklen_PgR bm bp cA snA AA mm w5 HMB.out HSET.out).mono ?_
    rintro e w6 ⟨rfl, hw6⟩
    subst hw6
    go_upto_region 20 with fail
    obtain ⟨W7, hW7⟩ : ∃ W7, W7 = w5.alloc (.cells #[.slice none 0 0, .slice none 0 0, .slice none 0 0, .slice none 0 0, .int .i64 mm.length, .int .i64 (lostOf look done : Nat)] 32) := ⟨_, rfl⟩
    have hb7 : Below w5.heap.size w5 W7 := by rw [hW7]; exact (Below.refl _ _).alloc (Nat.le_refl _) _
    have ht7 : Blk W7 w5.heap.size 32 #[.slice none 0 0, .slice none 0 0, .slice none 0 0, .slice none 0 0, .int .i64 mm.length, .int .i64 (lostOf look done : Nat)] := by rw [hW7]; exact Blk.new _ _ _
    have hz7 : W7.heap.size = w5.heap.size + 1 := by rw [hW7]; simp
    rw [← hW7]
    clear hW7
    have HB7 := Lib.hid hb7
    have HT7 := Lib.hid ht7
    have HZ7 := Lib.hid hz7
    clear hb7 ht7 hz7
    go_wp2_with fail
    refine (bknew_PgT W7).mono ?_
    rintro e w8 ⟨gm, gp, sn8, A8, c8, rfl, hgm, hgp, hA8, hM8, hS8, hb8⟩
    go_upto_region 21 with fail
    obtain ⟨W9, hW9⟩ : ∃ W9, W9 = w8.alloc (.cells #[.pointer (some ⟨gm, 0, none⟩)] 89) := ⟨_, rfl⟩
    have hb9 : Below w8.heap.size w8 W9 := by rw [hW9]; exact (Below.refl _ _).alloc (Nat.le_refl _) _
    have hx9 : Blk W9 w8.heap.size 89 #[.pointer (some ⟨gm, 0, none⟩)] := by rw [hW9]; exact Blk.new _ _ _
    have hz9 : W9.heap.size = w8.heap.size + 1 := by rw [hW9]; simp
    rw [← hW9]
    clear hW9
    have hz8 := hb8.size
    have HB9 := Lib.hid ((HB7.out.trans (hb8.mono HB7.out.size)).trans (hb9.mono (by have := HZ7.out; omega)))
    have HT9 := Lib.hid ((HT7.out.new_ hb8).new_ hb9)
    have HM9 := Lib.hid (hM8.new_ hb9)
    have HS9 := Lib.hid (hS8.new_ hb9)
    have HA9 := Lib.hid hA8
    have HX9 := Lib.hid hx9
    have HZ9 := Lib.hid hz9
    have hgl8 := hM8.lt
    have hgl8' := hS8.lt
    have HGA := Lib.hid hS8.row_lt
    have HGPL := Lib.hid (show w5.heap.size ≤ gp by have := HZ7.out; omega)
    clear hb8 hM8 hS8 hA8 hb9 hx9 hz9
    go_wp2_with fail
    refine (new_Sym none 0 [] W9 (RowRd.nil _ _ _) (by simp)).mono ?_
    rintro e w10 ⟨ns, rfl, hns, sn10, A10, c10, hS10, hA10, hb10⟩
    go_upto_region 22 with fail
    obtain ⟨W11, hW11⟩ : ∃ W11, W11 = w10.alloc (.cells #[.pointer (some ⟨ns, 0, none⟩)] 91) := ⟨_, rfl⟩
    have hb11 : Below w10.heap.size w10 W11 := by rw [hW11]; exact (Below.refl _ _).alloc (Nat.le_refl _) _
    have hx11 : Blk W11 w10.heap.size 91 #[.pointer (some ⟨ns, 0, none⟩)] := by rw [hW11]; exact Blk.new _ _ _
    have hz11 : W11.heap.size = w10.heap.size + 1 := by rw [hW11]; simp
    rw [← hW11]
    clear hW11
    have hz10 := hb10.size
    have hb11' := hb10.trans (hb11.mono hz10)
    have HB11 := Lib.hid (HB9.out.trans (hb11'.mono (by have := HZ7.out; have := HZ9.out; omega)))
    have HT11 := Lib.hid (HT9.out.new_ hb11')
    have HM11 := Lib.hid (HM9.out.new_ hb11')
    have HS11 := Lib.hid (HS9.out.new_ hb11')
    have HX11 := Lib.hid (HX9.out.new_ hb11')
    have HY11 := Lib.hid hx11
    have HN11 := Lib.hid (hS10.new_ hb11)
    have HA11 := Lib.hid hA10
    have HZ11 := Lib.hid hz11
    have HNL := Lib.hid hS10.lt
    have HNA := Lib.hid hS10.row_lt
    clear hb10 hS10 hA10 hb11 hx11 hz11 hb11' HT9 HM9 HS9 HX9 HT7
    go_wp2_with fail
    refine (bkall_PgR bm W11).mono ?_
    rintro e w12 ⟨rfl, hb12, hk12⟩
    have hz12 := hb12.size
    have hsq := seq_bkPgR W11.heap.size cA snA AA bm bp mm w12 ((hk12.cell 0).trans rfl) (HMB.out.new_ (HB11.out.trans (hb12.mono (by have := HB11.out.size; omega)))) (HSET.out.new_ (HB11.out.trans (hb12.mono (by have := HB11.out.size; omega))))
    have HSQ := Lib.hid hsq
    obtain ⟨K9, hK9⟩ : ∃ K9 : Nat → Prop, K9 = fun k => k < w5.heap.size ∨ k = w8.heap.size ∨ k = w10.heap.size ∨ k = W11.heap.size := ⟨_, rfl⟩
    have hkl := hk12.lt
    have hsr : SR n w12.heap.size K9 (fun _ => False) w12 w5.heap.size gm gp ns mm.length (lostOf look done : Nat) [] [] [] [] [] (.slice none 0 0) (.slice none 0 0) (.slice none 0 0) (.slice none 0 0) := by
     have z7 := HZ7.out
     have z9 := HZ9.out
     have z11 := HZ11.out
     have nK : ∀ k, w5.heap.size ≤ k → k ≠ w8.heap.size → k ≠ w10.heap.size → k ≠ W11.heap.size → ¬ K9 k := fun k h1 h2 h3 h4 hk => by
      rw [hK9] at hk
      rcases hk with hk | hk | hk | hk
      · omega
      · exact h2 hk
      · exact h3 hk
      · exact h4 hk
     have gml := HM11.out
     have l1 : gm < w8.heap.size := hgl8
     have l2 : gp < w8.heap.size := hgl8'
     have l3 := HNL.out
     refine ⟨HT11.out.new_ hb12, owns_nilC _ _ _, fun _ h => (by cases h), OwnC.nil _ _ _ _, fun _ h => (by cases h), owns_nilC _ _ _, fun _ h => (by cases h), owns_nilC _ _ _, fun _ h => (by cases h), ?_, ?_, Srt.nil, ?_, fun _ h => h.elim, fun k hk => ?_, fun _ h => h.elim⟩
     · refine ⟨sn10, A10, c10, HN11.out.new_ hb12, fun hq => ?_, fun a ha hq => ?_⟩
       · rcases hq with hq | hq
         · exact nK ns (by omega) (by omega) (by omega) (by omega) hq
         · cases hq
       · rcases hq with hq | hq
         · have h1 := HA11.out a ha
           have h2 := HNA.out a ha
           exact nK a.block (by omega) (by omega) (by omega) (by omega) hq
         · cases hq
     · refine ⟨HM11.out.new_ hb12, nK gm (by omega) (by omega) (by omega) (by omega), sn8, A8, c8, HS11.out.new_ hb12, nK gp (by omega) (by omega) (by omega) (by omega), fun a ha => ?_⟩
       have h1 := HA9.out a ha
       have h2 := HGA.out a ha
       exact nK a.block (by omega) (by omega) (by omega) (by omega)
     · exact nK _ (Nat.le_refl _) (by omega) (by omega) (by omega)
     · rw [hK9] at hk
       rcases hk with hk | hk | hk | hk <;> omega
    have HSR := Lib.hid hsr
    have HK9 := Lib.hid hK9
    have HK12 := Lib.hid hk12
    have HB12 := Lib.hid (HB11.out.trans (hb12.mono (by have := HB11.out.size; omega)))
    have HX12 := Lib.hid (HX11.out.new_ hb12)
    have HY12 := Lib.hid (HY11.out.new_ hb12)
    have HZB := Lib.hid (show w5.heap.size ≤ w8.heap.size ∧ w8.heap.size < W9.heap.size ∧ W9.heap.size ≤ w10.heap.size ∧ w10.heap.size < W11.heap.size ∧ W11.heap.size < w12.heap.size from by have := HZ7.out; have := HZ9.out; have := HZ11.out; omega)
    clear hsr hsq hb12 hk12 hK9 hgm hgp hns hbm hbp hsb HX11 HY11 HN11 HT11 HM11 HS11 HB9 HA9 HA11
    go_wp2_with fail
    refine (wpIn_wide (n := 0)).1 ?_
    obtain ⟨I, hI⟩ : ∃ I : World → List PgR → World → Prop, I = fun F p X => (∃ C v0 v1 v2 v3, SR n w12.heap.size (fun k => K9 k ∨ C k ∨ (w12.heap.size ≤ k ∧ k < F.heap.size)) C X w5.heap.size gm gp ns mm.length (lostOf look done : Nat) [] (gpg lv (R.take p.length)) ((R.take p.length).flatMap fun p => p.2.holes) ((R.take p.length).flatMap fun p => p.2.aparts) (newsOf (R.take p.length)) v0 v1 v2 v3 ∧ v0 = .slice none 0 0 ∧ ∀ k, C k → w12.heap.size ≤ k) ∧
     Blk X w8.heap.size 89 #[.pointer (some ⟨gm, 0, none⟩)] ∧ Blk X w10.heap.size 91 #[.pointer (some ⟨ns, 0, none⟩)] ∧ Fr (fun k => k = bp ∨ w5.heap.size ≤ k) w5 X ∧ w12.heap.size ≤ F.heap.size ∧ F.heap.size ≤ X.heap.size := ⟨_, rfl⟩
    refine wpIn_rangeP (w := w12) (by rfl) HSQ.out.enter HSQ.out.iter (fun x => by rfl) HSQ.out.trans HSQ.out.keep (fun W W1 h => keepsFrom_of_fr (HSQ.out.mods W W1 h)) I (fun _ _ _ _ => False) ?_ (fun _ _ _ _ _ h => h.elim) ?_ ?_ ?_ ?_
    · subst hI
      rintro F p X Y ⟨⟨C, v0, v1, v2, v3, h1, hv0, hCn⟩, h2, h3, h4, h5, h6⟩ hp
      exact ⟨⟨C, v0, v1, v2, v3, h1.priv hp, hv0, hCn⟩, h2.priv hp, h3.priv hp, h4.priv hp (by have := HZB.out; omega), h5, Nat.le_trans h6 hp.size⟩
    · intro W F hW hs
      subst hI
      have hsz := hs.size
      have hWz := hW.size
      have hF := hs.fr
      have hbl : bp < w5.heap.size := HSET.out.lt
      have nb : ∀ k, w5.heap.size ≤ k → ¬ k = bp := fun k hk e => by omega
      have zb := HZB.out
      refine ⟨⟨fun _ => False, _, _, _, _, HSR.out.theirs ((Fr.of_new (M := (· = bp)) hW).trans (hF.mono (fun k _ hk => hk))) (fun k hk => ⟨by rw [HK9.out]; exact .inl (hk ▸ hbl), fun h => h⟩) (fun k hk => ?_) (fun _ h => h.elim) (fun k hk => ?_), rfl, fun _ h => h.elim⟩, (HX12.out.new_ hW).fr hF (nb _ (by omega)), (HY12.out.new_ hW).fr hF (nb _ (by omega)), ?_, by omega, Nat.le_refl _⟩
      · rcases hk with hk | hk | hk
        · exact .inl hk
        · exact hk.elim
        · exact .inr hk.1
      · rcases hk with hk | hk | hk
        · have := HSR.out.lt k hk; omega
        · exact hk.elim
        · exact hk.2
      · exact ((Fr.of_new (M := fun k => k = bp ∨ w5.heap.size ≤ k) (HB12.out.trans (hW.mono (by omega)))).trans (hF.mono (fun k _ hk => .inl hk)))
    · intro F lo pre x post X hx hlo hIW
      rw [hI] at hIW
      obtain ⟨⟨C, v0, v1, v2, v3, hS, hv0, hCn⟩, hbx, hby, hfr, hFw, hFX⟩ := hIW
      have HV0 := Lib.hid hv0
      have HCN := Lib.hid hCn
      clear hv0 hCn
      have hkl : pre.length < mm.length := by rw [hx]; simp
      have hkR : pre.length < R.length := by omega
      obtain ⟨_, hrel⟩ := HEA.out.get pre.length hkR
      have hxe : mm[pre.length] = x := by rw [List.getElem_of_eq hx]; simp
      rw [hxe] at hrel
      have hrelX := hrel.keep (w' := X) (D' := fun j => K j ∧ ¬ E j) hfr.size (fun j hj hl => ⟨hj, hfr.block j hl (fun h => h.elim (fun e => HPK.out (e ▸ hj.1)) (fun e => by omega))⟩)
      obtain ⟨r, hr⟩ : ∃ r, r = R[pre.length].2 := ⟨_, rfl⟩
      have hsr : SmR n r := by rw [hr]; exact HPR.out _ (List.getElem_mem hkR)
      obtain ⟨hk0, hn0, hl0, e1, e2, e3, e4, hra⟩ := hrelX
      rw [← hr] at hn0 hl0 e1 e2 e3 e4 hra
      obtain ⟨xk, xn, xl, ⟨A1, n1, c1⟩, ⟨A2, n2, c2⟩, ⟨A3, n3, c3⟩, ⟨A4, n4, c4⟩⟩ := x
      dsimp only at hk0 hn0 hl0 e1 e2 e3 e4 hra
      subst hn0; subst hl0; subst e1; subst e2; subst e3; subst e4
      have HRR := Lib.hid hr
      have HSRr := Lib.hid hsr
      have HI := Lib.hid hI
      have HXX := Lib.hid hx
      clear hx hxe hrel hI hk0 hr hsr hkl
      simp only [encPPgR, Array.zip]
      gi_wp2_with fail
      refine ⟨Kept.new_ ((Below.refl _ X).alloc (Nat.le_refl _) _) hFX, fun X2 hp2 hz2 => ?_⟩
      intros
      obtain ⟨X1, hX1⟩ : ∃ X1, X1 = X.alloc (.cells #[.int .i64 r.num, .int .i64 r.level, .slice A1 r.elems.length c1, .slice A2 r.holes.length c2, .slice A3 r.aparts.length c3, .slice A4 r.news.length c4] 47) := ⟨_, rfl⟩
      have hbX : Below X.heap.size X X1 := by rw [hX1]; exact (Below.refl _ _).alloc (Nat.le_refl _) _
      have hrX : Blk X1 X.heap.size 47 #[.int .i64 r.num, .int .i64 r.level, .slice A1 r.elems.length c1, .slice A2 r.holes.length c2, .slice A3 r.aparts.length c3, .slice A4 r.news.length c4] := by rw [hX1]; exact Blk.new _ _ _
      have hzX : X1.heap.size = X.heap.size + 1 := by rw [hX1]; simp
      rw [← hX1] at hp2 hz2
      obtain ⟨KK, hKK⟩ : ∃ KK : Nat → Prop, KK = fun k => ((K9 k ∨ C k ∨ (w12.heap.size ≤ k ∧ k < F.heap.size)) ∨ k = X.heap.size) ∨ (k < X2.heap.size ∧ ¬ cellsAt X2 k) := ⟨_, rfl⟩
      have hS2 : SR n w12.heap.size KK C X2 w5.heap.size gm gp ns mm.length (lostOf look done : Nat) [] (gpg lv (R.take pre.length)) ((R.take pre.length).flatMap fun p => p.2.holes) ((R.take pre.length).flatMap fun p => p.2.aparts) (newsOf (R.take pre.length)) v0 v1 v2 v3 := by
       have h1 := hS.theirs (K' := fun k => (K9 k ∨ C k ∨ (w12.heap.size ≤ k ∧ k < F.heap.size)) ∨ k = X.heap.size) (M := fun _ => False) (Fr.of_new hbX) (fun _ h => h.elim) (fun k hk => hk.imp id (fun e => by omega)) (fun k hk => .inl (.inr (.inl hk))) (fun k hk => hk.elim (fun hk => by have := hS.lt k hk; omega) (fun e => by omega))
       have h2 := h1.priv hp2
       rw [hKK]
       exact h2.cls (fun k hc hk => hk.elim id (fun hk => absurd hc hk.2)) (fun k hk => .inl (.inl (.inr (.inl hk)))) (fun k hk => hk.elim (fun hk => h2.lt k hk) (fun hk => hk.1))
      have hr2 := hrX.priv hp2
      have hra2 : RecAt n (fun j => K j ∧ ¬ E j) X2 r A1 c1 A2 c2 A3 c3 A4 c4 := hra.keep (by have := hp2.size; omega) (fun j hj hl => ⟨hj, (hp2.block j (by omega) (.inl (by have := HP.out.lt j hj.1; have := HZB.out; omega))).trans (hbX.block j hl)⟩)
      have hfr2 := (hfr.into (Fr.of_new (M := fun _ => False) hbX) (fun _ h => h.elim)).priv hp2 (by have := HZB.out; omega)
      have hKlow : ∀ k, k < w5.heap.size → KK k := fun k hk => by rw [hKK, HK9.out]; exact .inl (.inl (.inl (.inl hk)))
      have hKx : KK w8.heap.size ∧ KK w10.heap.size ∧ KK X.heap.size := by rw [hKK, HK9.out]; exact ⟨.inl (.inl (.inl (.inr (.inl rfl)))), .inl (.inl (.inl (.inr (.inr (.inl rfl))))), .inl (.inr rfl)⟩
      have HS2 := Lib.hid hS2
      have HR2 := Lib.hid hr2
      have HRA2 := Lib.hid hra2
      have HFR2 := Lib.hid hfr2
      have HBX2 := Lib.hid ((hbx.new_ hbX).priv hp2)
      have HBY2 := Lib.hid ((hby.new_ hbX).priv hp2)
      have HLV2 := Lib.hid (HX.out.fr hfr2 (fun h => h.elim (fun e => HPK.out (e ▸ HK1.out)) (fun e => by have := HX.out.lt; omega)))
      have HKK := Lib.hid hKK
      have HKL := Lib.hid hKlow
      have HKX := Lib.hid hKx
      have HP2 := Lib.hid hp2
      have HZ2 := Lib.hid (show X2.heap.size = X.heap.size + 1 by omega)
      have hlow : w.heap.size < w5.heap.size := HX.out.lt
      have hG2 := hra2.1.cap
      have HFX := Lib.hid hFX
      have HFW := Lib.hid hFw
      have HFRo := Lib.hid hfr
      have HBXo := Lib.hid hbX
      have hRK : (R.take pre.length).length ≤ 500 := by have := HRL2.out; simp; omega
      have HRK := Lib.hid hRK
      obtain ⟨x0, x1, x2, x3, x4, x5⟩ := hr2.c6
      have hxl := hr2.lt
      clear hX1 hrX hS2 hr2 hra2 hfr2 hbx hby hfr hS hra hKK hKlow hKx hp2 hz2 hRK hbX hzX hFX hFw
      gi_wp2_with fail
      clear x0 x1 x2 x3 x4 x5 hxl
      gi_loopw [96] (fun i wq => ∃ m : Nat, i = .int .i64 m ∧ m ≤ r.elems.length ∧ SR n w12.heap.size KK C wq w5.heap.size gm gp ns mm.length (lostOf look done : Nat) [] (puts cmpPgT (gpg lv (R.take pre.length)) ((lowsTo lv r.elems m).map pg)) ((R.take pre.length).flatMap fun p => p.2.holes) ((R.take pre.length).flatMap fun p => p.2.aparts) (newsOf (R.take pre.length)) v0 v1 v2 v3 ∧ Fr (fun k => ¬ KK k) X2 wq) (fun i wq => r.elems.length - (intOf i).toNat)
      case atStart => exact ⟨0, rfl, Nat.zero_le _, by rw [lowsTo_zero]; exact HS2.out, Fr.refl _ _⟩
      case round =>
       obtain ⟨m, rfl, hm, hS, hF⟩ := hrel
       by_cases hlt : m < r.elems.length
       · skip
         obtain ⟨e0, he0⟩ : ∃ e0, e0 = r.elems[m] := ⟨_, rfl⟩
         have hrow := HRA2.out.1.keep (w' := wr) (D' := fun j => K j ∧ ¬ E j) hF.size (fun j hj hl => ⟨hj, hF.block j hl (fun h => h (HKL.out j (HP.out.lt j hj.1)))⟩)
         obtain ⟨ge, oe, hA0, hDe, hge, q0, q1, q2, q3, q4, q5, q6, q7, q8, q9, q10, q11, q12, q13⟩ := at_TraceT hrow hlt
         subst hA0
         rw [← he0] at q0 q1 q2 q3 q4 q5 q6 q7 q8 q9 q10 q11 q12 q13
         have b1 : (0 : Int) ≤ (m : Int) := by omega
         have b2 : (m : Int) < (r.elems.length : Int) := by omega
         have g0 := (HBX2.out.fr hF (fun h => h HKX.out.1)).c1
         have g0l := (HBX2.out.fr hF (fun h => h HKX.out.1)).lt
         have HE0e := Lib.hid he0
         have HS := Lib.hid hS
         have HF := Lib.hid hF
         clear he0 hS hF hrow
         gi_wp2_with fail
         refine ⟨trivial, rfl, ?_⟩
         obtain ⟨W9, hW9⟩ : ∃ W9, W9 = wr.alloc (.cells #[.int .i64 e0.elem.id.kind, .string e0.elem.id.text, .int .i64 e0.elem.id.n, .int .i64 e0.elem.attr.kind, .string e0.elem.attr.text, .int .i64 e0.elem.attr.n, .int .i64 e0.elem.value.kind, .string e0.elem.value.text, .int .i64 e0.elem.value.n, .bool e0.elem.acc, .bool e0.elem.goal, .int .i64 e0.elem.tag, .int .i64 e0.level, .int .i64 e0.cause] 55) := ⟨_, rfl⟩
         have hb9 : Below wr.heap.size wr W9 := by rw [hW9]; exact (Below.refl _ _).alloc (Nat.le_refl _) _
         have hx9 : Blk W9 wr.heap.size 55 #[.int .i64 e0.elem.id.kind, .string e0.elem.id.text, .int .i64 e0.elem.id.n, .int .i64 e0.elem.attr.kind, .string e0.elem.attr.text, .int .i64 e0.elem.attr.n, .int .i64 e0.elem.value.kind, .string e0.elem.value.text, .int .i64 e0.elem.value.n, .bool e0.elem.acc, .bool e0.elem.goal, .int .i64 e0.elem.tag, .int .i64 e0.level, .int .i64 e0.cause] := by rw [hW9]; exact Blk.new _ _ _
         rw [← hW9]
         clear hW9 q0 q1 q2 q3 q4 q5 q6 q7 q8 q9 q10 q11 q12 q13 g0 g0l
         obtain ⟨gs, hgs⟩ : ∃ gs, gs = puts cmpPgT (gpg lv (R.take pre.length)) ((lowsTo lv r.elems m).map pg) := ⟨_, rfl⟩
         have hgl : (gs.length : Int) ≤ 900000 := by
          have h1 := length_puts_le tc_pgt ((lowsTo lv r.elems m).map pg) (srt_gpg lv (R.take pre.length))
          have h2 := len_gpg (lv := lv) (R := R.take pre.length) (fun p hp => (HPR.out p (List.mem_of_mem_take hp)).1)
          have h3 := lowsTo_len lv r.elems m
          have h4 := HSRr.out.1
          have h5 := HRK.out
          rw [← hgs] at h1
          simp only [List.length_map] at h1
          omega
         rw [← hgs] at HS
         have HGS := Lib.hid hgs
         clear hgs
         refine (callsIn_wide.2 (oget_T e0.elem.tag (HS.out.new_ hb9).map_ HS.out.srt (by omega))).mono ?_
         rintro e w13 ⟨y, rfl, hb13⟩
         have hz9 := hb9.size
         have hB13 := hb9.trans (hb13.mono hz9)
         have hx13 := hx9.new_ hb13
         have HB13 := Lib.hid hB13
         have HX13 := Lib.hid hx13
         have l0 := ((HLV2.out.fr HF.out (fun h => h (HKL.out _ hlow))).new_ hB13).c1
         have l0l := ((HLV2.out.fr HF.out (fun h => h (HKL.out _ hlow))).new_ hB13).lt
         have g0 := ((HBX2.out.fr HF.out (fun h => h HKX.out.1)).new_ hB13).c1
         have g0l := ((HBX2.out.fr HF.out (fun h => h HKX.out.1)).new_ hB13).lt
         have c12 := (hx13.cell 12).trans rfl
         have hxl13 := hx13.lt
         clear hb9 hx9 hb13 hB13
         by_cases hp1 : e0.level < lv
         · have d1 : decide (e0.level < lv) = true := by simpa using hp1
           have HLT := Lib.hid (show lowsTo lv r.elems (m + 1) = lowsTo lv r.elems m ++ [bare e0] by rw [HE0e.out]; exact lowsTo_yes hlt (by rw [← HE0e.out]; exact hp1))
           clear hp1
           cases hh : has cmpPgT gs (zPgT e0.elem.tag) with
           | true =>
             have HH := Lib.hid (show has cmpPgT gs (pg (bare e0)) = true from hh)
             clear hx13 hh
             gi_wp2_with fail
             go_roundw
             case rel =>
              refine ⟨m + 1, by go_num, by omega, ?_, HF.out.into (Fr.of_new (M := fun _ => False) (HB13.out.trans ((Below.refl _ _).alloc (Nat.le_refl _) (.cells #[.int .i64 y.elem.id.kind, .string y.elem.id.text, .int .i64 y.elem.id.n, .int .i64 y.elem.attr.kind, .string y.elem.attr.text, .int .i64 y.elem.attr.n, .int .i64 y.elem.value.kind, .string y.elem.value.text, .int .i64 y.elem.value.n, .bool y.elem.acc, .bool y.elem.goal, .int .i64 y.elem.tag, .int .i64 y.level, .int .i64 y.cause] 55) |>.mono HB13.out.size))) (fun _ h => h.elim)⟩
              rw [HLT.out, List.map_append, List.map_cons, List.map_nil, puts_snoc, ← HGS.out, put_has HH.out]
              exact HS.out.new_ (HB13.out.trans ((Below.refl _ _).alloc (Nat.le_refl _) (.cells #[.int .i64 y.elem.id.kind, .string y.elem.id.text, .int .i64 y.elem.id.n, .int .i64 y.elem.attr.kind, .string y.elem.attr.text, .int .i64 y.elem.attr.n, .int .i64 y.elem.value.kind, .string y.elem.value.text, .int .i64 y.elem.value.n, .bool y.elem.acc, .bool y.elem.goal, .int .i64 y.elem.tag, .int .i64 y.level, .int .i64 y.cause] 55) |>.mono HB13.out.size))
             case measure => simp [intOf]; omega
           | false =>
             have HH := Lib.hid (show has cmpPgT gs (pg (bare e0)) = false from hh)
             have p0 := (hx13.cell 0).trans rfl
             have p1 := (hx13.cell 1).trans rfl
             have p2 := (hx13.cell 2).trans rfl
             have p3 := (hx13.cell 3).trans rfl
             have p4 := (hx13.cell 4).trans rfl
             have p5 := (hx13.cell 5).trans rfl
             have p6 := (hx13.cell 6).trans rfl
             have p7 := (hx13.cell 7).trans rfl
             have p8 := (hx13.cell 8).trans rfl
             have p9 := (hx13.cell 9).trans rfl
             have p10 := (hx13.cell 10).trans rfl
             have p11 := (hx13.cell 11).trans rfl
             have p12 := (hx13.cell 12).trans rfl
             have p13 := (hx13.cell 13).trans rfl
             have f13 := hx13.frozen 13
             clear hx13 hh
             gi_wp2_with fail
             refine ⟨trivial, rfl, ?_⟩
             obtain ⟨W14, hW14⟩ : ∃ W14, W14 = (w13.setCell ⟨wr.heap.size, 13, none⟩ (.int .i64 0)).alloc (.cells #[.int .i64 y.elem.id.kind, .string y.elem.id.text, .int .i64 y.elem.id.n, .int .i64 y.elem.attr.kind, .string y.elem.attr.text, .int .i64 y.elem.attr.n, .int .i64 y.elem.value.kind, .string y.elem.value.text, .int .i64 y.elem.value.n, .bool y.elem.acc, .bool y.elem.goal, .int .i64 y.elem.tag, .int .i64 y.level, .int .i64 y.cause] 55) := ⟨_, rfl⟩
             have hb14 : Below wr.heap.size wr W14 := by rw [hW14]; exact (HB13.out.setCell (p := ⟨wr.heap.size, 13, none⟩) (Nat.le_refl _) _).alloc (by simpa using HB13.out.size) _
             rw [← hW14]
             clear hW14 p0 p1 p2 p3 p4 p5 p6 p7 p8 p9 p10 p11 p12 p13 f13 l0 l0l g0 g0l c12
             have hs14 := HS.out.new_ hb14
             have HS14 := Lib.hid hs14
             have HB14 := Lib.hid hb14
             refine (callsIn_wide.2 (oput_T (pg (bare e0)) hs14.map_ hs14.srt hs14.lt (by omega) HH.out)).mono ?_
             clear hs14 hb14
             rintro e w15 ⟨rfl, g3, g4⟩
             have hs15 := HS14.out.ground g4 g3 (HS14.out.srt.put tc_pgt _)
             have HS15 := Lib.hid hs15
             have HF15 := Lib.hid ((HF.out.into (Fr.of_new (M := fun _ => False) HB14.out) (fun _ h => h.elim)).trans g4.fr)
             clear g3 g4 hs15
             gi_wp2_with fail
             go_roundw
             case rel =>
              refine ⟨m + 1, by go_num, by omega, ?_, HF15.out⟩
              rw [HLT.out, List.map_append, List.map_cons, List.map_nil, puts_snoc, ← HGS.out]
              exact HS15.out
             case measure => simp [intOf]; omega
         · have d1 : decide (e0.level < lv) = false := by simpa using hp1
           have HLT := Lib.hid (show lowsTo lv r.elems (m + 1) = lowsTo lv r.elems m by rw [HE0e.out] at hp1; exact lowsTo_no hlt hp1)
           clear hp1 hx13
           gi_wp2_with fail
           go_roundw
           case rel =>
            refine ⟨m + 1, by go_num, by omega, ?_, HF.out.into (Fr.of_new (M := fun _ => False) (HB13.out.trans ((Below.refl _ _).alloc (Nat.le_refl _) (.cells #[.int .i64 y.elem.id.kind, .string y.elem.id.text, .int .i64 y.elem.id.n, .int .i64 y.elem.attr.kind, .string y.elem.attr.text, .int .i64 y.elem.attr.n, .int .i64 y.elem.value.kind, .string y.elem.value.text, .int .i64 y.elem.value.n, .bool y.elem.acc, .bool y.elem.goal, .int .i64 y.elem.tag, .int .i64 y.level, .int .i64 y.cause] 55) |>.mono HB13.out.size))) (fun _ h => h.elim)⟩
            rw [HLT.out, ← HGS.out]
            exact HS.out.new_ (HB13.out.trans ((Below.refl _ _).alloc (Nat.le_refl _) (.cells #[.int .i64 y.elem.id.kind, .string y.elem.id.text, .int .i64 y.elem.id.n, .int .i64 y.elem.attr.kind, .string y.elem.attr.text, .int .i64 y.elem.attr.n, .int .i64 y.elem.value.kind, .string y.elem.value.text, .int .i64 y.elem.value.n, .bool y.elem.acc, .bool y.elem.goal, .int .i64 y.elem.tag, .int .i64 y.level, .int .i64 y.cause] 55) |>.mono HB13.out.size))
           case measure => simp [intOf]; omega
       · obtain rfl : m = r.elems.length := by omega
         rw [lowsTo_all] at hS
         obtain ⟨Wa, hWa⟩ : ∃ Wa, Wa = wr := ⟨_, rfl⟩
         subst hWa
         obtain ⟨gs, hgs⟩ : ∃ gs, gs = puts cmpPgT (gpg lv (R.take pre.length)) ((lows lv r).map pg) := ⟨_, rfl⟩
         rw [← hgs] at hS
         have HGS := Lib.hid hgs
         have hx9 := HR2.out.fr hF (fun h => h HKX.out.2.2)
         obtain ⟨x0, x1, x2, x3, x4, x5⟩ := hx9.c6
         have hxl9 := hx9.lt
         have HSa := Lib.hid hS
         have HFa := Lib.hid hF
         have hca := HRA2.out.2.1.cap
         clear hS hF hgs hx9
         gi_wp2_with fail
         clear x0 x1 x2 x3 x4 x5 hxl9
         gi_loopw [127] (fun i wq => ∃ m : Nat, i = .int .i64 m ∧ m ≤ r.holes.length ∧ ∃ KH CH v1', (∀ k, KK k → KH k) ∧ (∀ k, KH k → KK k ∨ Wa.heap.size ≤ k) ∧ (∀ k, CH k → w12.heap.size ≤ k) ∧ SR n w12.heap.size KH CH wq w5.heap.size gm gp ns mm.length (lostOf look done : Nat) [] gs (((R.take pre.length).flatMap fun p => p.2.holes) ++ r.holes.take m) ((R.take pre.length).flatMap fun p => p.2.aparts) (newsOf (R.take pre.length)) v0 v1' v2 v3 ∧ Wa.heap.size ≤ wq.heap.size ∧ Fr (fun k => ¬ KK k) X2 wq) (fun i wq => r.holes.length - (intOf i).toNat)
         case atStart => exact ⟨0, rfl, Nat.zero_le _, KK, C, v1, fun _ h => h, fun _ h => .inl h, HCN.out, by rw [List.take_zero, List.append_nil]; exact HSa.out, Nat.le_refl _, HFa.out⟩
         case round =>
          obtain ⟨m, rfl, hm, KH, CH, v1', hKH1, hKH2, hCHn, hS, hWaz, hF⟩ := hrel
          have HCHN := Lib.hid hCHn
          clear hCHn
          by_cases hlt : m < r.holes.length
          · skip
            obtain ⟨y, hy⟩ : ∃ y, y = r.holes[m] := ⟨_, rfl⟩
            have hrow := HRA2.out.2.1.keep (w' := wr) (D' := fun j => K j ∧ ¬ E j) hF.size (fun j hj hl => ⟨hj, hF.block j hl (fun h => h (HKL.out j (HP.out.lt j hj.1)))⟩)
            obtain ⟨ge, oe, Ay1, cy1, Ay2, cy2, Ay3, cy3, Ay4, cy4, hA0, hDe, hge, q0, q1, q2, q3, q4, q5, q6, q7, hy1, hy2, hy3, hy4⟩ := at_HoleT hrow hlt
            subst hA0
            have hys : SmH n y := by rw [hy]; exact HSRr.out.2.2.2.2 _ (List.getElem_mem hlt)
            rw [← hy] at q0 q1 q2 q3 q4 q5 q6 q7 hy1 hy2 hy3 hy4
            have b1 : (0 : Int) ≤ (m : Int) := by omega
            have b2 : (m : Int) < (r.holes.length : Int) := by omega
            obtain ⟨L1, hL1⟩ : ∃ L1, L1 = ((R.take pre.length).flatMap fun p => p.2.holes) ++ r.holes.take m := ⟨_, rfl⟩
            rw [← hL1] at hS
            obtain ⟨Ah, ch, hv1, -, -, -⟩ := hS.o1.form
            subst hv1
            have hLl : L1.length ≤ 501000 := by
             have h1 := flat_le (fun p : KR => p.2.holes) 1000 (R.take pre.length) (fun p hp => (HPR.out p (List.mem_of_mem_take hp)).2.1)
             have h2 := HRK.out
             have h3 := HSRr.out.2.1
             rw [hL1, List.length_append, List.length_take]
             omega
            have HL1 := Lib.hid hL1
            have HLL := Lib.hid hLl
            have HY := Lib.hid hy
            have HY1 := Lib.hid hy1
            have HY2 := Lib.hid hy2
            have HY3 := Lib.hid hy3
            have HY4 := Lib.hid (RowR.rd (hs := BindT.cells_length) hy4)
            have hcy4 := hy4.cap
            have HYS := Lib.hid hys
            have HF := Lib.hid hF
            have HKH1 := Lib.hid hKH1
            have HKH2 := Lib.hid hKH2
            have HS0 := Lib.hid hS
            clear hy hrow hy1 hy2 hy3 hy4 hys hF hKH1 hKH2 hL1 hLl hS
            gi_wp2_with fail
            obtain ⟨W9, hW9⟩ : ∃ W9, W9 = wr.alloc (.cells #[.int .i64 y.cond.kind, .bool y.cond.goal, .string y.cond.id, .slice Ay1 y.cond.attr.length cy1, .slice Ay2 y.cond.value.length cy2, .bool y.cond.acc, .slice Ay3 y.cond.conds.length cy3, .slice Ay4 y.binds.length cy4] 76) := ⟨_, rfl⟩
            have hb9 : Below wr.heap.size wr W9 := by rw [hW9]; exact (Below.refl _ _).alloc (Nat.le_refl _) _
            have hx9 : Blk W9 wr.heap.size 76 #[.int .i64 y.cond.kind, .bool y.cond.goal, .string y.cond.id, .slice Ay1 y.cond.attr.length cy1, .slice Ay2 y.cond.value.length cy2, .bool y.cond.acc, .slice Ay3 y.cond.conds.length cy3, .slice Ay4 y.binds.length cy4] := by rw [hW9]; exact Blk.new _ _ _
            rw [← hW9]
            clear hW9 q0 q1 q2 q3 q4 q5 q6 q7
            have hs9 := HS0.out.new_ hb9
            have p0 := (hx9.cell 0).trans rfl
            have p1 := (hx9.cell 1).trans rfl
            have p2 := (hx9.cell 2).trans rfl
            have p3 := (hx9.cell 3).trans rfl
            have p4 := (hx9.cell 4).trans rfl
            have p5 := (hx9.cell 5).trans rfl
            have p6 := (hx9.cell 6).trans rfl
            have p7 := (hx9.cell 7).trans rfl
            have hxl9 := hx9.lt
            have t1 := (hs9.blk.cell 1).trans rfl
            have tl := hs9.blk.lt
            have HS9 := Lib.hid hs9
            have HB9 := Lib.hid hb9
            have Z1 := Lib.hid (HY1.out.new_ hb9)
            have Z2 := Lib.hid (HY2.out.new_ hb9)
            have Z3 := Lib.hid (HY3.out.new_ hb9)
            have Z4 := Lib.hid (HY4.out.new_ hb9)
            clear hs9 hb9 hx9
            refine wpIn_region_E (fun w9 => Below W9.heap.size W9 w9) [(0, 0), (1, 1), (2, 0), (3, 1), (5, 0), (6, 1), (4, 2), (7, 2), (8, 0), (9, 2), (10, 2), (11, 0), (12, 2)] (by kernel_rfl) (by kernel_rfl) (by rfl) (fun KK hKK => ?_)
            simp only [beside, List.filterMap_cons, List.filterMap_nil, List.getElem?_toArray, List.getElem?_cons_zero, List.getElem?_cons_succ, Option.map_some]
            repeat ((first | (refine wpX_w ?_ (Or.inl ⟨by rfl, fun w9 => ?_⟩) ?_; rotate_left 1; go_simp; with_reducible rfl) | (refine wpX_l ?_ (((Below.refl _ _).drew)) (Or.inl ⟨by rfl, fun w9 hw9 => ?_⟩) ?_; rotate_left 1; obtain ⟨hc9, hf9⟩ := bcell hw9; go_simp; with_reducible rfl) | refine wpX_w undef (Or.inr ⟨by rfl, rfl⟩) ?_ | refine wpX_l undef (((Below.refl _ _).drew)) (Or.inr ⟨by rfl, rfl⟩) ?_); go_frame)
            refine wpX_es (fun K9_ hK9_ => ?_)
            go_simp
            refine (copied_is n y.cond Ay1 cy1 Ay2 cy2 Ay3 cy3 _ _ (Z1.out.new_ ((Below.refl _ _).drew)) (Z2.out.new_ ((Below.refl _ _).drew)) (Z3.out.new_ ((Below.refl _ _).drew)) HYS.out.1).mono ?_
            rintro e wa ⟨Az1, cz1, Az2, cz2, Az3, cz3, rfl, g1, g2, g3, hba⟩
            have HBa := Lib.hid (show Below W9.heap.size W9 wa from ((Below.refl W9.heap.size W9).drew).trans hba)
            have G1 := Lib.hid g1
            have G2 := Lib.hid g2
            have G3 := Lib.hid g3
            clear g1 g2 g3 hba
            refine hK9_ _ _ HBa.out ?_
            clear hK9_ K9_
            refine wpX_es (fun K9_ hK9_ => ?_)
            refine step_append_src wa rfl _ _ 74 rfl 157 ib _ 4 48 Try.underlying74 hib hib0 hib1 hib2 rfl (by omega) (.slice none 0 0) 0 [] rfl (owns_nilC _ _ _) Ay4 y.binds.length cy4 (y.binds.flatMap BindT.cells) rfl (flat_length BindT.cells_length _) ((Z4.out.new_ HBa.out).news BindT.cells_length (by omega)) (one_Bind _) (by have := HYS.out.2; unfold maxLen; omega) (by have := HYS.out.2; omega) ?_
            intro vb wb hown1 hg1 hnil1 hat1
            rw [Nat.zero_add, List.nil_append] at hown1
            obtain ⟨Az4, cz4, rfl, ho, hA4, hbb⟩ := fresh1_of hown1 hat1 rfl hg1
            have HBb := Lib.hid (HBa.out.trans (hbb.mono HBa.out.size))
            have G4 := Lib.hid ((RowR.of_rd (hs := BindT.cells_length) (ownsRow_rd BindT.cells_length ho) hA4).weaken (fun j hj => (⟨Nat.le_trans HBa.out.size hj.1, hj.2⟩ : NewD W9.heap.size wb j)))
            have G1 := Lib.hid (G1.out.newD hbb (Nat.le_refl _))
            have G2 := Lib.hid (G2.out.newD hbb (Nat.le_refl _))
            have G3 := Lib.hid (G3.out.newD hbb (Nat.le_refl _))
            clear ho hA4 hbb hown1 hg1 hnil1 hat1
            refine hK9_ _ _ HBb.out ?_
            clear hK9_ K9_
            repeat ((first | (refine wpX_w ?_ (Or.inl ⟨by rfl, fun w9 => ?_⟩) ?_; rotate_left 1; go_simp; with_reducible rfl) | (refine wpX_l ?_ (HBb.out) (Or.inl ⟨by rfl, fun w9 hw9 => ?_⟩) ?_; rotate_left 1; obtain ⟨hc9, hf9⟩ := bcell hw9; go_simp; with_reducible rfl) | refine wpX_w undef (Or.inr ⟨by rfl, rfl⟩) ?_ | refine wpX_l undef (HBb.out) (Or.inr ⟨by rfl, rfl⟩) ?_); go_frame)
            refine wpX_es (fun K9_ hK9_ => ?_)
            go_simp
            have HBc := Lib.hid (HBb.out.alloc HBb.out.size (.cells #[.int .i64 y.cond.kind, .bool y.cond.goal, .string y.cond.id, .slice Az1 y.cond.attr.length cz1, .slice Az2 y.cond.value.length cz2, .bool y.cond.acc, .slice Az3 y.cond.conds.length cz3, .slice Az4 y.binds.length cz4] 76))
            refine hK9_ _ _ HBc.out ?_
            clear hK9_ K9_
            refine wpX_e (by kernel_rfl) (fun K9_ hK9_ => ?_)
            have h9 : Below wb.heap.size wb (wb.alloc (.cells #[.int .i64 y.cond.kind, .bool y.cond.goal, .string y.cond.id, .slice Az1 y.cond.attr.length cz1, .slice Az2 y.cond.value.length cz2, .bool y.cond.acc, .slice Az3 y.cond.conds.length cz3, .slice Az4 y.binds.length cz4] 76)) := (Below.refl _ _).alloc (Nat.le_refl _) _
            have hrep7 := rep_hole (n := n) (y := y) (D := fun j => CH j ∨ (NewD W9.heap.size (wb.alloc (.cells #[.int .i64 y.cond.kind, .bool y.cond.goal, .string y.cond.id, .slice Az1 y.cond.attr.length cz1, .slice Az2 y.cond.value.length cz2, .bool y.cond.acc, .slice Az3 y.cond.conds.length cz3, .slice Az4 y.binds.length cz4] 76)) j ∧ cellsAt (wb.alloc (.cells #[.int .i64 y.cond.kind, .bool y.cond.goal, .string y.cond.id, .slice Az1 y.cond.attr.length cz1, .slice Az2 y.cond.value.length cz2, .bool y.cond.acc, .slice Az3 y.cond.conds.length cz3, .slice Az4 y.binds.length cz4] 76)) j)) (((G1.out.newD h9 (Nat.le_refl _)).solid solid_test (by decide)).weaken (fun j hj => Or.inr hj)) (((G2.out.newD h9 (Nat.le_refl _)).solid solid_test (by decide)).weaken (fun j hj => Or.inr hj)) (((G3.out.newD h9 (Nat.le_refl _)).solid (solid_cond n) (by rw [repCondT_size]; decide)).weaken (fun j hj => Or.inr hj)) (((G4.out.newD h9 (Nat.le_refl _)).solid (solid_flat _ _ _) (by decide)).weaken (fun j hj => Or.inr hj))
            have hown7 : OwnC (repHoleT n) 76 (fun j => CH j ∨ (NewD W9.heap.size (wb.alloc (.cells #[.int .i64 y.cond.kind, .bool y.cond.goal, .string y.cond.id, .slice Az1 y.cond.attr.length cz1, .slice Az2 y.cond.value.length cz2, .bool y.cond.acc, .slice Az3 y.cond.conds.length cz3, .slice Az4 y.binds.length cz4] 76)) j ∧ cellsAt (wb.alloc (.cells #[.int .i64 y.cond.kind, .bool y.cond.goal, .string y.cond.id, .slice Az1 y.cond.attr.length cz1, .slice Az2 y.cond.value.length cz2, .bool y.cond.acc, .slice Az3 y.cond.conds.length cz3, .slice Az4 y.binds.length cz4] 76)) j)) (wb.alloc (.cells #[.int .i64 y.cond.kind, .bool y.cond.goal, .string y.cond.id, .slice Az1 y.cond.attr.length cz1, .slice Az2 y.cond.value.length cz2, .bool y.cond.acc, .slice Az3 y.cond.conds.length cz3, .slice Az4 y.binds.length cz4] 76)) (.slice Ah L1.length ch) L1 := HS9.out.o1.keep HBc.out.size (fun k hk hl => ⟨.inl hk, HBc.out.block k hl⟩) (fun k hk => ⟨HBc.out.block k (HS9.out.o1.lt k hk), fun hp => hp.elim (HS9.out.o1.off k hk) (fun hp => by have := HS9.out.o1.lt k hk; have := hp.1.1; omega)⟩)
            have hcl : ∀ j, (fun j => CH j ∨ (NewD W9.heap.size (wb.alloc (.cells #[.int .i64 y.cond.kind, .bool y.cond.goal, .string y.cond.id, .slice Az1 y.cond.attr.length cz1, .slice Az2 y.cond.value.length cz2, .bool y.cond.acc, .slice Az3 y.cond.conds.length cz3, .slice Az4 y.binds.length cz4] 76)) j ∧ cellsAt (wb.alloc (.cells #[.int .i64 y.cond.kind, .bool y.cond.goal, .string y.cond.id, .slice Az1 y.cond.attr.length cz1, .slice Az2 y.cond.value.length cz2, .bool y.cond.acc, .slice Az3 y.cond.conds.length cz3, .slice Az4 y.binds.length cz4] 76)) j)) j → j < ((wb.alloc (.cells #[.int .i64 y.cond.kind, .bool y.cond.goal, .string y.cond.id, .slice Az1 y.cond.attr.length cz1, .slice Az2 y.cond.value.length cz2, .bool y.cond.acc, .slice Az3 y.cond.conds.length cz3, .slice Az4 y.binds.length cz4] 76))).heap.size := fun j hj => hj.elim (fun hj => Nat.lt_of_lt_of_le (HS9.out.lt j (HS9.out.sub j hj)) HBc.out.size) (fun hj => hj.1.2)
            have h63 : L1.length + 1 ≤ maxLen := by have := HLL.out; unfold maxLen; omega
            have hby : (L1.length + 1) * 136 ≤ 140737488355328 := by have := HLL.out; omega
            refine step_append_C _ rfl _ _ 28 rfl 76 ih _ 8 136 Try.underlying28 hih hih0 hih1 hih2 rfl rfl (by omega) _ hcl (.slice Ah L1.length ch) L1 rfl hown7 ⟨wb.heap.size, 0, none⟩ 1 y [.int .i64 y.cond.kind, .bool y.cond.goal, .string y.cond.id, .slice Az1 y.cond.attr.length cz1, .slice Az2 y.cond.value.length cz2, .bool y.cond.acc, .slice Az3 y.cond.conds.length cz3, .slice Az4 y.binds.length cz4] rfl (World.news_of_block (heap_alloc_new _ _)) (by intro u hu; simp only [List.mem_cons, List.not_mem_nil, or_false] at hu; rcases hu with rfl | rfl | rfl | rfl | rfl | rfl | rfl | rfl <;> rfl) hrep7 h63 hby ?_
            intro v' w8_ hap
            obtain ⟨Ah', ch', hv', -, -, -⟩ := hap.1.form
            subst hv'
            have hne := own_blk_ne (Classical.choose_spec HS9.out.o1).1 HS9.out.blk (by decide)
            have hG8 := (HS9.out.blk.new_ HBc.out).grown hap.2.1 hne
            have HAP := Lib.hid hap
            have u1 := (hG8.cell 1).trans rfl
            have f1 := hG8.frozen 1
            have hgl8_ := hG8.lt
            clear h9 hrep7 hown7 hcl h63 hby hap hne hG8
            refine hK9_ _ _ ?_
            clear hK9_ K9_
            repeat ((first | (refine wpX_w ?_ (Or.inl ⟨by rfl, fun w9 => ?_⟩) ?_; rotate_left 1; go_simp; with_reducible rfl) | (refine wpX_l ?_ (HBc.out) (Or.inl ⟨by rfl, fun w9 hw9 => ?_⟩) ?_; rotate_left 1; obtain ⟨hc9, hf9⟩ := bcell hw9; go_simp; with_reducible rfl) | refine wpX_w undef (Or.inr ⟨by rfl, rfl⟩) ?_ | refine wpX_l undef (HBc.out) (Or.inr ⟨by rfl, rfl⟩) ?_); go_frame)
            refine wpX_e (by kernel_rfl) (fun K9_ hK9_ => ?_)
            go_simp
            refine hK9_ _ _ ?_
            clear hK9_ K9_
            refine wpX_nil ?_
            simp only [OnlyN_normal]
            refine hKK _ _ ?_
            clear hKK KK
            gi_wp2_with fail
            go_roundw
            case rel =>
             obtain ⟨sh1, sh2⟩ := HS9.out.hole HBc.out HAP.out
             have hz9 := HB9.out.size
             have hl9 : (L1 ++ [y]).length = L1.length + 1 := by simp
             rw [hl9] at sh1 sh2
             have hq9 : L1 ++ [y] = ((R.take pre.length).flatMap fun p => p.2.holes) ++ r.holes.take (m + 1) := by rw [HL1.out, List.append_assoc, HY.out, take_snoc hlt]
             rw [hq9] at sh1
             have r6 : Fr (fun k => ¬ KK k) X2 _ := (HF.out.into (Fr.of_new (M := fun _ => False) HB9.out) (fun _ h => False.elim h)).trans (sh2.mono (fun k _ hk hq => hk (HKH1.out k hq)))
             have r8 : Value.int IntKind.i64 ((m : Int) + 1) = .int .i64 ((m + 1 : Nat) : Int) := by go_num
             refine ⟨m + 1, r8, Nat.succ_le_of_lt hlt, _, _, _, ?_, ?_, ?_, sh1, Nat.le_trans hWaz (Nat.le_trans hz9 sh2.size), r6⟩
             · intro k hk
               exact Or.inl (HKH1.out k hk)
             · intro k hk
               rcases hk with hk | hk
               · exact HKH2.out k hk
               · exact Or.inr (Nat.le_trans hWaz (Nat.le_trans hz9 hk.1))
             · intro k hk
               rcases hk with hk | hk
               · exact HCHN.out k hk
               · exact Nat.le_trans HFW.out (Nat.le_trans HFX.out (Nat.le_trans (by rw [HZ2.out]; exact Nat.le_succ _) (Nat.le_trans HFa.out.size (Nat.le_trans hWaz (Nat.le_trans hz9 hk.1.1)))))
            case measure => simp [intOf]; omega
          · obtain rfl : m = r.holes.length := by omega
            rw [List.take_length] at hS
            obtain ⟨Wb, hWb⟩ : ∃ Wb, Wb = wr := ⟨_, rfl⟩
            subst hWb
            obtain ⟨L2, hL2⟩ : ∃ L2, L2 = (R.take pre.length).flatMap fun p => p.2.aparts := ⟨_, rfl⟩
            rw [← hL2] at hS
            obtain ⟨Aq, cq, hv2, -, -, -⟩ := own_form2 hS.o2
            subst hv2
            have hL2l : L2.length ≤ 500000 := by
             have h1 := flat_le (fun p : KR => p.2.aparts) 1000 (R.take pre.length) (fun p hp => (HPR.out p (List.mem_of_mem_take hp)).2.2.1)
             have h2 := HRK.out
             rw [hL2]
             omega
            have HL2 := Lib.hid hL2
            have HL2L := Lib.hid hL2l
            have hx9 := HR2.out.fr hF (fun h => h HKX.out.2.2)
            obtain ⟨x0, x1, x2, x3, x4, x5⟩ := hx9.c6
            have hxl9 := hx9.lt
            have t2 := (hS.blk.cell 2).trans rfl
            have t2f := hS.blk.frozen 2
            have t2l := hS.blk.lt
            have hrow3 := HRA2.out.2.2.1.keep (w' := Wb) (D' := fun j => K j ∧ ¬ E j) hF.size (fun j hj hl => ⟨hj, hF.block j hl (fun h => h (HKL.out j (HP.out.lt j hj.1)))⟩)
            have hrow4 := HRA2.out.2.2.2.keep (w' := Wb) (D' := fun j => K j ∧ ¬ E j) hF.size (fun j hj hl => ⟨hj, hF.block j hl (fun h => h (HKL.out j (HP.out.lt j hj.1)))⟩)
            have HR3 := Lib.hid (RowR.rd (hs := ApartT.cells_length) hrow3)
            have HR4 := Lib.hid hrow4
            have hc3 := hrow3.cap
            have hc4 := hrow4.cap
            have HSb := Lib.hid hS
            have HFb := Lib.hid hF
            have HKH1 := Lib.hid hKH1
            have HKH2 := Lib.hid hKH2
            clear hS hF hL2 hL2l hx9 hrow3 hrow4 hKH1 hKH2
            gi_wp2_with (gi_at_builtin; refine wpListIn_app Wb rfl _ _ 29 rfl 111 ia _ 7 72 Try.underlying29 hia hia0 hia1 hia2 rfl (by omega) (.slice Aq L2.length cq) L2.length (L2.flatMap ApartT.cells) rfl HSb.out.o2 A3 r.aparts.length c3 (r.aparts.flatMap ApartT.cells) rfl (flat_length ApartT.cells_length _) (HR3.out.news ApartT.cells_length (by omega)) (one_Apart _) (by have := HL2L.out; have := HSRr.out.2.2.1; unfold maxLen; omega) (by have := HL2L.out; have := HSRr.out.2.2.1; omega) ?_; intro vq Wc hqo hqg hqn hqat; obtain ⟨Ap, cp, hvq, -, -, -⟩ := own_form2 hqo; subst hvq; have hb8 := HSb.out.blk.grown hqg (own_blk_ne HSb.out.o2 HSb.out.blk (by decide)); have u2 := (hb8.cell 2).trans rfl; have u2f := hb8.frozen 2; have u2l := hb8.lt; have HQ := Lib.hid (show Wc.ownsRow 0 111 7 (.slice Ap (L2.length + r.aparts.length) cp) (L2.length + r.aparts.length) (L2.flatMap ApartT.cells ++ r.aparts.flatMap ApartT.cells) ∧ Wb.grownBy Wc (Value.slice Aq L2.length cq).ownBlock ∧ _ from ⟨hqo, hqg, hqat⟩); have hx9c : Blk Wc X.heap.size 47 #[.int .i64 r.num, .int .i64 r.level, .slice A1 r.elems.length c1, .slice A2 r.holes.length c2, .slice A3 r.aparts.length c3, .slice A4 r.news.length c4] := (HR2.out.fr HFb.out (fun h => h HKX.out.2.2)).grown hqg (own_blk_ne HSb.out.o2 (HR2.out.fr HFb.out (fun h => h HKX.out.2.2)) (by decide)); clear x0 x1 x2 x3 x4 x5 hxl9; obtain ⟨x0, x1, x2, x3, x4, x5⟩ := hx9c.c6; have hxl9 := hx9c.lt; clear hx9c hb8 hqo hqg hqn hqat t2 t2f t2l)
            obtain ⟨Wd, hWd⟩ : ∃ Wd, Wd = Wc.setCell ⟨w5.heap.size, 2, none⟩ (.slice Ap (L2.length + r.aparts.length) cp) := ⟨_, rfl⟩
            rw [← hWd]
            obtain ⟨hs9, hf9⟩ := HSb.out.apart (ap' := L2 ++ r.aparts) (Below.refl _ _) (by rw [List.length_append, List.flatMap_append]; exact HQ.out.1) HQ.out.2.1 HQ.out.2.2
            rw [← hWd] at hs9 hf9
            have HS9 := Lib.hid hs9
            have HF9 := Lib.hid (HFb.out.trans (hf9.mono (fun k _ hk hq => hk (HKH1.out k hq))))
            have HR49 := Lib.hid (HRA2.out.2.2.2.keep (w' := Wd) (D' := fun j => K j ∧ ¬ E j) (HFb.out.trans (hf9.mono (fun k _ hk hq => hk (HKH1.out k hq)))).size (fun j hj hl => ⟨hj, (HFb.out.trans (hf9.mono (fun k _ hk hq => hk (HKH1.out k hq)))).block j hl (fun h => h (HKL.out j (HP.out.lt j hj.1)))⟩))
            obtain ⟨hs5, hl5⟩ : ∃ hs5, hs5 = ((R.take pre.length).flatMap fun p => p.2.holes) ++ r.holes := ⟨_, rfl⟩
            obtain ⟨N0, hN0⟩ : ∃ N0, N0 = newsOf (R.take pre.length) := ⟨_, rfl⟩
            have hN0l : N0.length ≤ 500000 := by
             have h1 := len_news (R := R.take pre.length) (fun p hp => (HPR.out p (List.mem_of_mem_take hp)).2.2.2.1)
             have h2 := HRK.out
             rw [hN0]; omega
            rw [← hl5, ← hN0] at HS9
            have HL5 := Lib.hid hl5
            have HN0 := Lib.hid hN0
            have HN0L := Lib.hid hN0l
            clear hs9 hf9 x0 x1 x2 x3 x4 x5 hxl9 u2 u2f u2l hWd hl5 hN0 hN0l
            gi_loopw [153] (fun i wq => ∃ m : Nat, i = .int .i64 m ∧ m ≤ r.news.length ∧ ∃ v3', SR n w12.heap.size KH CH wq w5.heap.size gm gp ns mm.length (lostOf look done : Nat) [] gs hs5 (L2 ++ r.aparts) ((r.news.take m).foldl once N0) v0 v1' (.slice Ap (L2.length + r.aparts.length) cp) v3' ∧ Fr (fun k => ¬ KK k) X2 wq) (fun i wq => r.news.length - (intOf i).toNat)
            case atStart => exact ⟨0, rfl, Nat.zero_le _, v3, by rw [List.take_zero, List.foldl_nil]; exact HS9.out, HF9.out⟩
            case round =>
             obtain ⟨m, rfl, hm, v3', hS, hF⟩ := hrel
             obtain ⟨A8_, c8_, hv8, -, -, -⟩ := own_form2 hS.o3
             subst hv8
             by_cases hlt : m < r.news.length
             · skip
               obtain ⟨y, hy⟩ : ∃ y, y = r.news[m] := ⟨_, rfl⟩
               obtain ⟨NN, hNN⟩ : ∃ NN, NN = (r.news.take m).foldl once N0 := ⟨_, rfl⟩
               have hNNl : NN.length ≤ 501000 := by
                have h1 := once_len (r.news.take m) N0
                have h2 := HSRr.out.2.2.2.1
                have h3 := HN0L.out
                rw [hNN]
                simp only [List.length_take] at h1
                omega
               have hNN1 : (r.news.take (m + 1)).foldl once N0 = once NN y := by rw [← take_snoc hlt, List.foldl_append, hNN, hy]; rfl
               rw [← hNN] at hS
               have hrow := HRA2.out.2.2.2.keep (w' := wr) (D' := fun j => K j ∧ ¬ E j) hF.size (fun j hj hl => ⟨hj, hF.block j hl (fun h => h (HKL.out j (HP.out.lt j hj.1)))⟩)
               obtain ⟨ge, oe, hA0, hge, q0, q1, q2⟩ := sym_at (RowR.rd (hs := Sym.cells_length) hrow) hlt
               subst hA0
               rw [← hy] at q0 q1 q2
               have b1 : (0 : Int) ≤ (m : Int) := by omega
               have b2 : (m : Int) < (r.news.length : Int) := by omega
               have g0 := (HBY2.out.fr hF (fun h => h HKX.out.2.1)).c1
               have g0l := (HBY2.out.fr hF (fun h => h HKX.out.2.1)).lt
               have HNN1 := Lib.hid hNN1
               have HNNL := Lib.hid hNNl
               have HF := Lib.hid hF
               have HS := Lib.hid hS
               clear hy hNN hNNl hNN1 hS hF hrow
               gi_wp2_with fail
               refine ⟨trivial, rfl, ?_⟩
               obtain ⟨W9, hW9⟩ : ∃ W9, W9 = wr.alloc (.cells #[.int .i64 y.kind, .string y.text, .int .i64 y.n] 51) := ⟨_, rfl⟩
               have hb9 : Below wr.heap.size wr W9 := by rw [hW9]; exact (Below.refl _ _).alloc (Nat.le_refl _) _
               have hx9 : Blk W9 wr.heap.size 51 #[.int .i64 y.kind, .string y.text, .int .i64 y.n] := by rw [hW9]; exact Blk.new _ _ _
               have hW9q := hW9
               rw [← hW9]
               clear hW9 q0 q1 q2 g0 g0l
               have hz9 : W9.heap.size = wr.heap.size + 1 := by rw [hW9q]; simp
               have hs9 := HS.out.theirs (K' := fun k => KH k ∨ k = wr.heap.size) (M := fun _ => False) (Fr.of_new hb9) (fun _ h => h.elim) (fun k hk => hk.imp id (fun e => by omega)) (fun k hk => .inl (HS.out.sub k hk)) (fun k hk => hk.elim (fun hk => by have := HS.out.lt k hk; omega) (fun e => by omega))
               have HS9 := Lib.hid hs9
               have HB9 := Lib.hid hb9
               clear hW9q
               refine (callsIn_wide.2 (hs9.putN y (by have := HNNL.out; omega))).mono ?_
               rintro e w15 ⟨rfl, g3, g4⟩
               have hfr15 : Fr (fun k => ¬ KK k) X2 w15 := (HF.out.into (Fr.of_new (M := fun _ => False) HB9.out) (fun _ h => h.elim)).trans (g4.fr.mono (fun k _ hk hq => hk (.inl (.inl (HKH1.out k hq)))))
               by_cases hin : y ∈ NN
               · have hh : has cmpSym (puts cmpSym [] NN) y = true := by rw [has_putsS]; simpa using hin
                 obtain ⟨s1, s2⟩ := HS9.out.old hin g3 g4
                 have HN := Lib.hid (show once NN y = NN by unfold once; rw [if_pos hin])
                 have S1 := Lib.hid (s1.cls (K' := KH) (fun k _ h => .inl h) HS.out.sub (fun k hk => s1.lt k (.inl hk)))
                 have HFF15 := Lib.hid hfr15
                 clear g3 g4 s1 s2 hs9 hb9 hx9 hin hfr15
                 gi_wp2_with fail
                 go_roundw
                 case rel => exact ⟨m + 1, by go_num, by omega, _, by rw [HNN1.out, HN.out]; exact S1.out, HFF15.out⟩
                 case measure => simp [intOf]; omega
               · have hh : has cmpSym (puts cmpSym [] NN) y = false := by rw [has_putsS]; simpa using hin
                 have HN := Lib.hid (show once NN y = NN ++ [y] by unfold once; rw [if_neg hin])
                 have hxK : Blk w15 wr.heap.size 51 #[.int .i64 y.kind, .string y.text, .int .i64 y.n] := hx9.fr g4.fr (fun hk => hk (.inl (.inr rfl)))
                 have ho15 : w15.ownsRow 0 51 3 (.slice A8_ NN.length c8_) NN.length (NN.flatMap Sym.cells) := ownsRow_fr HS9.out.o3 g4.fr (fun k e hk => hk (.inr e))
                 have hb15 := (⟨g4.only, g4.fr.mono (fun k _ hk hq => hk (.inl hq))⟩ : Mine [139, 51] (fun k => KH k ∨ k = wr.heap.size) W9 w15).only _ _ _ (by decide) HS9.out.blk
                 obtain ⟨y0, y1, y2⟩ := hxK.c3
                 have hyl := hxK.lt
                 have t3 := (hb15.cell 3).trans rfl
                 have t3l := hb15.lt
                 have HB15 := Lib.hid hb15
                 have HO15 := Lib.hid ho15
                 have G3 := Lib.hid g3
                 have G4 := Lib.hid g4
                 have HFF15 := Lib.hid hfr15
                 clear g3 g4 hs9 hb9 hx9 hin hfr15 hxK hb15 ho15
                 gi_wp2_with (gi_at_builtin; refine wpListIn_app (w15.alloc (.cells #[.int .i64 y.kind, .string y.text, .int .i64 y.n] 51)) rfl _ _ 30 rfl 51 iy _ 3 32 Try.underlying30 hiy hiy0 hiy1 hiy2 rfl (by omega) (.slice A8_ NN.length c8_) NN.length (NN.flatMap Sym.cells) rfl (ownsRow_new HO15.out ((Below.refl _ _).alloc (Nat.le_refl _) _)) (some ⟨w15.heap.size, 0, none⟩) 1 1 (Sym.cells y) rfl rfl (fun _ => ⟨_, rfl, World.news_of_block (heap_alloc_new _ _)⟩) (by have := one_Sym [y]; simpa using this) (by have := HNNL.out; unfold maxLen; omega) (by have := HNNL.out; omega) ?_; intro vq Wq hqo hqg hqn hqat; obtain ⟨Ap_, cp_, hvq, -, -, -⟩ := own_form2 hqo; subst hvq; have hb8 := (HB15.out.new_ ((Below.refl w15.heap.size w15).alloc (Nat.le_refl _) (.cells #[.int .i64 y.kind, .string y.text, .int .i64 y.n] 51))).grown hqg (own_blk_ne HO15.out HB15.out (by decide)); have u3 := (hb8.cell 3).trans rfl; have u3f := hb8.frozen 3; have u3l := hb8.lt; have HQ5 := Lib.hid (show Wq.ownsRow 0 51 3 (.slice Ap_ (NN.length + 1) cp_) (NN.length + 1) (NN.flatMap Sym.cells ++ Sym.cells y) ∧ (w15.alloc (.cells #[.int .i64 y.kind, .string y.text, .int .i64 y.n] 51)).grownBy Wq (Value.slice A8_ NN.length c8_).ownBlock ∧ _ from ⟨hqo, hqg, hqat⟩); clear hb8 hqo hqg hqn hqat y0 y1 y2 hyl t3 t3l)
                 obtain ⟨sn1, sn2⟩ := HS9.out.news G3.out G4.out ((Below.refl w15.heap.size w15).alloc (Nat.le_refl _) (.cells #[.int .i64 y.kind, .string y.text, .int .i64 y.n] 51)) (by rw [List.length_append, List.flatMap_append]; simpa using HQ5.out.1) HQ5.out.2.1 HQ5.out.2.2
                 have SN1 := Lib.hid (sn1.cls (K' := KH) (fun k _ h => .inl h) HS.out.sub (fun k hk => sn1.lt k (.inl hk)))
                 have HFF16 := Lib.hid ((HF.out.into (Fr.of_new (M := fun _ => False) HB9.out) (fun _ h => h.elim)).trans (sn2.mono (fun k _ hk hq => hk (.inl (HKH1.out k hq)))))
                 clear sn1 sn2
                 go_roundw
                 case rel => exact ⟨m + 1, by go_num, by omega, _, by rw [HNN1.out, HN.out]; exact SN1.out, HFF16.out⟩
                 case measure => simp [intOf]; omega
             · obtain rfl : m = r.news.length := by omega
               rw [List.take_length] at hS
               have HS := Lib.hid hS
               have HF := Lib.hid hF
               clear hS hF
               gi_wp2_with fail
               have hI := HI.out
               subst hI
               have hX2z := HZ2.out
               have hKKd := HKK.out
               have hKF : ∀ k, w12.heap.size ≤ k → k < F.heap.size → KK k := fun k h1 h2 => by rw [hKKd]; exact .inl (.inl (.inr (.inr ⟨h1, h2⟩)))
               have hKN : ∀ k, k < X2.heap.size → ¬ cellsAt X2 k → KK k := fun k h1 h2 => by rw [hKKd]; exact .inr ⟨h1, h2⟩
               have z1 := HF.out.size
               have z2 := HBXo.out.size
               have z3 := HP2.out.size
               have z4 := HZB.out
               have z5 := HFX.out
               have k1 : Kept w12.heap.size F X2 wr := by
                refine ⟨⟨z1, fun k o hB hk hc => ?_⟩, fun k h1 h2 => HF.out.block k (by omega) (fun h => h (hKF k h1 h2))⟩
                have hlk := (Array.getElem?_eq_some_iff.1 hk).1
                refine (HF.out.block k hlk (fun h => h (hKN k hlk ?_))).trans hk
                rintro ⟨c, t, f, hh⟩
                rw [hk] at hh
                cases hh
                cases hc
               have k2 : RowKeep AA X wr := by
                refine ⟨by omega, fun a e hl => ?_⟩
                have hal := HAL.out a e
                have e1 := HF.out.block a.block (by omega) (fun h => h (HKL.out _ hal))
                have e2 := HP2.out.block a.block (by omega) (.inl (by omega))
                have e3 := HBXo.out.block a.block hl
                exact e1.trans (e2.trans e3)
               have k3 := HBX2.out.fr HF.out (fun h => h HKX.out.1)
               have k4 := HBY2.out.fr HF.out (fun h => h HKX.out.2.1)
               have k5 : Fr (fun k => k = bp ∨ w5.heap.size ≤ k) w5 wr := HFR2.out.into HF.out (fun k hk => .inl (.inr (Nat.le_of_not_lt fun h => hk (HKL.out k h))))
               refine ⟨k1, k2, ⟨CH, v0, v1', .slice Ap (L2.length + r.aparts.length) cp, .slice A8_ (r.news.foldl once N0).length c8_, ?_, HV0.out, HCHN.out⟩, k3, k4, k5, HFW.out, by omega⟩
               · have hpl : (pre ++ [(⟨xk, r.num, r.level, ⟨A1, r.elems.length, c1⟩, ⟨A2, r.holes.length, c2⟩, ⟨A3, r.aparts.length, c3⟩, ⟨A4, r.news.length, c4⟩⟩ : PgR)]).length = pre.length + 1 := by simp
                 rw [hpl, ← take_snoc hkR, gpg_snoc, newsOf_snoc, List.flatMap_append, List.flatMap_append]
                 have er : R[pre.length].2 = r := HRR.out.symm
                 simp only [List.flatMap_cons, List.flatMap_nil, List.append_nil]
                 rw [er, ← HL2.out, ← HL5.out, ← HN0.out, ← HGS.out]
                 refine HS.out.cls (fun k _ hk => ?_) (fun k hk => .inr (.inl hk)) (fun k hk => ?_)
                 · rcases hk with hk | hk | hk
                   · exact HKH1.out k (by rw [hKKd]; exact .inl (.inl (.inl hk)))
                   · exact HS.out.sub k hk
                   · exact HKH1.out k (hKF k hk.1 hk.2)
                 · rcases hk with hk | hk | hk
                   · exact HS.out.lt k (HKH1.out k (by rw [hKKd]; exact .inl (.inl (.inl hk))))
                   · exact HS.out.lt k (HS.out.sub k hk)
                   · exact HS.out.lt k (HKH1.out k (hKF k hk.1 hk.2))
    · intro F D1 X hD1 hIW hK1d
      subst hI
      obtain ⟨⟨C, v0, v1, v2, v3, hS, hv0, hCn⟩, hbx, hby, hfr, hFw, hFX⟩ := hIW
      have HCN := Lib.hid hCn
      clear hCn
      have hRm : R.take mm.length = R := by rw [← hml]; exact List.take_length
      rw [hRm] at hS
      have HV0 := Lib.hid hv0
      obtain ⟨hmb, hmk, snT, AT, cT, hset, hpk, hAk⟩ := hS.map_
      have HSX := Lib.hid hS
      have HFRX := Lib.hid hfr
      have hgl := (srt_gpg lv R)
      have HGL := Lib.hid (len_gpg (lv := lv) (R := R) (fun p hp => (HPR.out p hp).1))
      have HKD := Lib.hid hK1d
      have g0 := hbx.c1
      have g0l := hbx.lt
      have HMB2 := Lib.hid hmb
      have HST2 := Lib.hid hset
      clear hS hmk hpk hAk hfr hgl hmb hset hv0
      go_wp2_with fail
      refine (bkall_PgT gm X).mono ?_
      rintro e w13 ⟨rfl, hb13, hk13⟩
      have hzz := hb13.size
      have hsq2 := seq_bkPgT X.heap.size cT snT AT gm gp (gpg lv R) w13 ((hk13.cell 0).trans rfl) (HMB2.out.new_ hb13) (HST2.out.new_ hb13)
      have HSQ2 := Lib.hid hsq2
      have HS13 := Lib.hid (HSX.out.new_ hb13)
      have HST13 := Lib.hid (HST2.out.new_ hb13)
      have HB13 := Lib.hid hb13
      have HD13 := Lib.hid ((hb13.block D1 (Array.getElem?_eq_some_iff.1 HKD.out).1).trans HKD.out)
      clear hsq2 hb13 hk13 g0 g0l hbx hby
      go_wp2_with fail
      refine (wpIn_wide (n := 0)).1 ?_
      have hgt13 := HS13.out.blk.lt
      have hATl := HST13.out.row_lt
      have hATn : AIn AT (fun k => k ≠ w5.heap.size) := fun a ha e => by
       subst ha
       exact own_blk_ne HST13.out.row HS13.out.blk (by decide) (by simp [Value.ownBlock, e])
      have hgpn : gp ≠ w5.heap.size := fun e => by have := HST13.out.blk; rw [e] at this; exact this.ne_ HS13.out.blk (by decide) rfl
      have HATL := Lib.hid hATl
      have HATN := Lib.hid hATn
      obtain ⟨I2, hI2⟩ : ∃ I2 : World → List PgT → World → Prop, I2 = fun F2 p Y => (∃ u0, Blk Y w5.heap.size 32 #[u0, v1, v2, v3, .int .i64 mm.length, .int .i64 (lostOf look done : Nat)] ∧ Y.ownsRow 0 55 14 u0 p.length ((p.map PgT.tr).flatMap TraceT.cells) ∧ ∀ k, u0.ownBlock = some k → F2.heap.size ≤ k ∨ k < 0) ∧ Fr (fun k => k = gp ∨ k = w5.heap.size ∨ w13.heap.size ≤ k) w13 Y ∧ w13.heap.size ≤ F2.heap.size ∧ F2.heap.size ≤ Y.heap.size := ⟨_, rfl⟩
      refine wpIn_rangeP (w := w13) (by rfl) HSQ2.out.enter HSQ2.out.iter (fun x => by rfl) HSQ2.out.trans HSQ2.out.keep (fun W W1 h => keepsFrom_of_fr (HSQ2.out.mods W W1 h)) I2 (fun _ _ _ _ => False) ?_ (fun _ _ _ _ _ h => h.elim) ?_ ?_ ?_ ?_
      · subst hI2
        rintro F2 p Y Z ⟨⟨u0, h1, h2, h3⟩, h4, h5, h6⟩ hp
        exact ⟨⟨u0, h1.priv hp, ownsRow_priv h2 hp, h3⟩, h4.priv hp (Nat.le_refl _), h5, Nat.le_trans h6 hp.size⟩
      · intro W F2 hW hs
        subst hI2
        have hsz := hs.size
        have hWz := hW.size
        have hF := hs.fr
        refine ⟨⟨.slice none 0 0, ?_, owns_nilC _ _ _, fun _ h => by cases h⟩, (Fr.of_new (M := fun k => k = gp ∨ k = w5.heap.size ∨ w13.heap.size ≤ k) hW).trans (hF.mono (fun k _ hk => .inl hk)), by omega, Nat.le_refl _⟩
        rw [← HV0.out]
        exact (HS13.out.blk.new_ hW).fr hF (fun e => hgpn e.symm)
      · intro F2 lo2 pre x post Y hx hlo hIW
        rw [hI2] at hIW
        obtain ⟨⟨u0, h1, h2, h3⟩, h4, h5, h6⟩ := hIW
        obtain ⟨Au, cu, hu0, -, -, -⟩ := own_form2 h2
        subst hu0
        have hpl : pre.length ≤ 500000 := by
         have h9 := HGL.out
         have h8 : (gpg lv R).length = pre.length + (post.length + 1) := by rw [hx]; simp
         have := HRL2.out
         omega
        have HI2 := Lib.hid hI2
        have H1 := Lib.hid h1
        have H2 := Lib.hid h2
        have H3 := Lib.hid h3
        have H4 := Lib.hid h4
        have H5 := Lib.hid h5
        have H6 := Lib.hid h6
        have HPL := Lib.hid hpl
        clear hx hI2 h1 h2 h3 h4 hpl
        simp only [encPPgT, Array.zip]
        gi_wp2_with fail
        refine ⟨Kept.new_ ((Below.refl _ Y).alloc (Nat.le_refl _) _) h6, fun Y2 hp2 hz2 => ?_⟩
        intros
        obtain ⟨Y1, hY1⟩ : ∃ Y1, Y1 = Y.alloc (.cells #[.int .i64 x.tr.elem.id.kind, .string x.tr.elem.id.text, .int .i64 x.tr.elem.id.n, .int .i64 x.tr.elem.attr.kind, .string x.tr.elem.attr.text, .int .i64 x.tr.elem.attr.n, .int .i64 x.tr.elem.value.kind, .string x.tr.elem.value.text, .int .i64 x.tr.elem.value.n, .bool x.tr.elem.acc, .bool x.tr.elem.goal, .int .i64 x.tr.elem.tag, .int .i64 x.tr.level, .int .i64 x.tr.cause] 55) := ⟨_, rfl⟩
        have hbY : Below Y.heap.size Y Y1 := by rw [hY1]; exact (Below.refl _ _).alloc (Nat.le_refl _) _
        have hrY : Blk Y1 Y.heap.size 55 #[.int .i64 x.tr.elem.id.kind, .string x.tr.elem.id.text, .int .i64 x.tr.elem.id.n, .int .i64 x.tr.elem.attr.kind, .string x.tr.elem.attr.text, .int .i64 x.tr.elem.attr.n, .int .i64 x.tr.elem.value.kind, .string x.tr.elem.value.text, .int .i64 x.tr.elem.value.n, .bool x.tr.elem.acc, .bool x.tr.elem.goal, .int .i64 x.tr.elem.tag, .int .i64 x.tr.level, .int .i64 x.tr.cause] := by rw [hY1]; exact Blk.new _ _ _
        rw [← hY1] at hp2 hz2
        have HX2 := Lib.hid (hrY.priv hp2)
        have hb2 := (H1.out.new_ hbY).priv hp2
        have HB2_ := Lib.hid hb2
        have HO2 := Lib.hid (ownsRow_priv (ownsRow_new H2.out hbY) hp2)
        have HBY_ := Lib.hid hbY
        have HPY := Lib.hid hp2
        have HZY := Lib.hid (show Y2.heap.size = Y.heap.size + 1 by rw [hz2, hY1]; simp)
        have t0 := (hb2.cell 0).trans rfl
        have t0l := hb2.lt
        have hx2 := HX2.out
        have d0 := (hx2.cell 0).trans rfl
        have d1 := (hx2.cell 1).trans rfl
        have d2 := (hx2.cell 2).trans rfl
        have d3 := (hx2.cell 3).trans rfl
        have d4 := (hx2.cell 4).trans rfl
        have d5 := (hx2.cell 5).trans rfl
        have d6 := (hx2.cell 6).trans rfl
        have d7 := (hx2.cell 7).trans rfl
        have d8 := (hx2.cell 8).trans rfl
        have d9 := (hx2.cell 9).trans rfl
        have d10 := (hx2.cell 10).trans rfl
        have d11 := (hx2.cell 11).trans rfl
        have d12 := (hx2.cell 12).trans rfl
        have d13 := (hx2.cell 13).trans rfl
        have hxl2 := hx2.lt
        clear hY1 hrY hp2 hz2 hbY hb2 hx2 h5 h6
        gi_wp2_with (gi_at_builtin; refine wpListIn_app (Y2.alloc (.cells #[.int .i64 x.tr.elem.id.kind, .string x.tr.elem.id.text, .int .i64 x.tr.elem.id.n, .int .i64 x.tr.elem.attr.kind, .string x.tr.elem.attr.text, .int .i64 x.tr.elem.attr.n, .int .i64 x.tr.elem.value.kind, .string x.tr.elem.value.text, .int .i64 x.tr.elem.value.n, .bool x.tr.elem.acc, .bool x.tr.elem.goal, .int .i64 x.tr.elem.tag, .int .i64 x.tr.level, .int .i64 x.tr.cause] 55)) rfl _ _ 27 rfl 55 it _ 14 128 Try.underlying27 hit hit0 hit1 hit2 rfl (by omega) (.slice Au pre.length cu) pre.length ((pre.map PgT.tr).flatMap TraceT.cells) rfl (ownsRow_new HO2.out ((Below.refl _ _).alloc (Nat.le_refl _) _)) (some ⟨Y2.heap.size, 0, none⟩) 1 1 (TraceT.cells x.tr) rfl rfl (fun _ => ⟨_, rfl, World.news_of_block (heap_alloc_new _ _)⟩) (by have := one_Trace [x.tr]; simpa using this) (by have := HPL.out; unfold maxLen; omega) (by have := HPL.out; omega) ?_; intro vq Wq hqo hqg hqn hqat; obtain ⟨Ap_, cp_, hvq, -, -, -⟩ := own_form2 hqo; subst hvq; have hb8 := (HB2_.out.new_ ((Below.refl Y2.heap.size Y2).alloc (Nat.le_refl _) (.cells #[.int .i64 x.tr.elem.id.kind, .string x.tr.elem.id.text, .int .i64 x.tr.elem.id.n, .int .i64 x.tr.elem.attr.kind, .string x.tr.elem.attr.text, .int .i64 x.tr.elem.attr.n, .int .i64 x.tr.elem.value.kind, .string x.tr.elem.value.text, .int .i64 x.tr.elem.value.n, .bool x.tr.elem.acc, .bool x.tr.elem.goal, .int .i64 x.tr.elem.tag, .int .i64 x.tr.level, .int .i64 x.tr.cause] 55))).grown hqg (own_blk_ne HO2.out HB2_.out (by decide)); have u0 := (hb8.cell 0).trans rfl; have u0f := hb8.frozen 0; have u0l := hb8.lt; have HQ5 := Lib.hid (show Wq.ownsRow 0 55 14 (.slice Ap_ (pre.length + 1) cp_) (pre.length + 1) ((pre.map PgT.tr).flatMap TraceT.cells ++ TraceT.cells x.tr) ∧ (Y2.alloc (.cells #[.int .i64 x.tr.elem.id.kind, .string x.tr.elem.id.text, .int .i64 x.tr.elem.id.n, .int .i64 x.tr.elem.attr.kind, .string x.tr.elem.attr.text, .int .i64 x.tr.elem.attr.n, .int .i64 x.tr.elem.value.kind, .string x.tr.elem.value.text, .int .i64 x.tr.elem.value.n, .bool x.tr.elem.acc, .bool x.tr.elem.goal, .int .i64 x.tr.elem.tag, .int .i64 x.tr.level, .int .i64 x.tr.cause] 55)).grownBy Wq (Value.slice Au pre.length cu).ownBlock ∧ _ from ⟨hqo, hqg, hqat⟩); have HB8 := Lib.hid hb8; clear hb8 hqo hqg hqn hqat d0 d1 d2 d3 d4 d5 d6 d7 d8 d9 d10 d11 d12 d13 hxl2 t0 t0l)
        have hI2 := HI2.out
        subst hI2
        have hF : Fr (fun k => k = w5.heap.size ∨ (Value.slice Au pre.length cu).ownBlock = some k) Y2 (Wq.setCell ⟨w5.heap.size, 0, none⟩ (.slice Ap_ (pre.length + 1) cp_)) :=
         (((Fr.refl _ Y2).alloc _).grown HQ5.out.2.1 (fun k hk => .inl (.inr hk))).setCell (p := ⟨w5.heap.size, 0, none⟩) (.inl (.inl rfl)) _
        have z1 := hF.size
        have z2 := HBY_.out.size
        have z3 := HPY.out.size
        have z4 := HZY.out
        have z5 := H5.out
        have z6 := H6.out
        have how : ∀ k, (Value.slice Au pre.length cu).ownBlock = some k → F2.heap.size ≤ k := fun k hk => (H3.out k hk).elim id (fun h => by omega)
        have k1 : Kept w13.heap.size F2 Y2 (Wq.setCell ⟨w5.heap.size, 0, none⟩ (.slice Ap_ (pre.length + 1) cp_)) := by
         refine ⟨⟨z1, fun k o hB hk hc => ?_⟩, fun k h1 h2 => hF.block k (by omega) (fun h => h.elim (fun e => by omega) (fun e => by have := how k e; omega))⟩
         have hlk := (Array.getElem?_eq_some_iff.1 hk).1
         refine (hF.block k hlk (fun hm => ?_)).trans hk
         obtain ⟨c, t, f, hh⟩ : cellsAt Y2 k := hm.elim (fun e => e ▸ HB2_.out.at_) (fun e => own_cells HO2.out k e)
         rw [hk] at hh
         cases hh
         cases hc
        have k2 : RowKeep AT Y (Wq.setCell ⟨w5.heap.size, 0, none⟩ (.slice Ap_ (pre.length + 1) cp_)) := by
         refine ⟨by omega, fun a e hl => ?_⟩
         have hal := HATL.out a e
         have e1 := hF.block a.block (by omega) (fun h => h.elim (HATN.out a e) (fun h => by have := how _ h; omega))
         have e2 := HPY.out.block a.block (by omega) (.inl hal)
         have e3 := HBY_.out.block a.block hl
         exact e1.trans (e2.trans e3)
        have k5 : Fr (fun k => k = gp ∨ k = w5.heap.size ∨ w13.heap.size ≤ k) w13 (Wq.setCell ⟨w5.heap.size, 0, none⟩ (.slice Ap_ (pre.length + 1) cp_)) :=
         ((H4.out.into (Fr.of_new (M := fun _ => False) HBY_.out) (fun _ h => h.elim)).priv HPY.out (Nat.le_refl _)).into hF (fun k hk => hk.elim (fun e => .inl (.inr (.inl e))) (fun e => .inr (by have := how k e; omega)))
        have hpn : (pre ++ [x]).length = pre.length + 1 := by simp
        refine ⟨k1, k2, ⟨.slice Ap_ (pre.length + 1) cp_, HB8.out.set_ 0 _, ?_, fun k hk => ?_⟩, k5, z5, by omega⟩
        · rw [hpn, List.map_append, List.flatMap_append]
          refine ownsRow_setCell_other (a := ⟨w5.heap.size, 0, none⟩) ?_ (own_blk_ne HQ5.out.1 HB8.out (by decide)) _
          simpa using HQ5.out.1
        · rcases HQ5.out.2.2 with h | h
          · exact H3.out k (h ▸ hk)
          · rw [h] at hk
            injection hk with hk
            simp only [World.size_alloc] at hk
            exact .inl (by omega)
      · intro F2 D2 Y hD2 hIW hK2d
        subst hI2
        obtain ⟨⟨u0, h1, h2, h3⟩, h4, h5, h6⟩ := hIW
        have hne6 : w.heap.size + 1 ≠ bp := fun e => by have h7 := HSET.out.blk; rw [← e] at h7; exact h7.ne_ HT.out (by decide) rfl
        have ht13 : Blk w13 (w.heap.size + 1) 32 #[.slice none 0 0, .slice none 0 0, .slice none 0 0, .slice none 0 0, .int .i64 0, .int .i64 0] := (HT.out.fr HFRX.out (fun h => h.elim hne6 (fun h => by have := HT.out.lt; omega))).new_ HB13.out
        have hne7 : w.heap.size + 1 ≠ gp := fun e => by have h7 := HST13.out.blk; rw [← e] at h7; exact h7.ne_ ht13 (by decide) rfl
        have htl := HT.out.lt
        have hzx := HFRX.out.size
        have hzb := HB13.out.size
        have htY : Blk Y (w.heap.size + 1) 32 #[.slice none 0 0, .slice none 0 0, .slice none 0 0, .slice none 0 0, .int .i64 0, .int .i64 0] := ht13.fr h4 (fun h => h.elim hne7 (fun h => h.elim (fun h => by omega) (fun h => by omega)))
        have HTY := Lib.hid htY
        obtain ⟨Ax, cx, e0, -, -, -⟩ := own_form2 h2
        obtain ⟨Ax1, cx1, e1, -, -, -⟩ := HSX.out.o1.form
        obtain ⟨Ax2, cx2, e2, -, -, -⟩ := own_form2 HSX.out.o2
        obtain ⟨Ax3, cx3, e3, -, -, -⟩ := own_form2 HSX.out.o3
        subst e0; subst e1; subst e2; subst e3
        have HRG := Lib.hid (show Y.rangeAt w5.heap.size 0 [.slice Ax (gpg lv R).length cx, .slice Ax1 (R.flatMap fun p => p.2.holes).length cx1, .slice Ax2 (R.flatMap fun p => p.2.aparts).length cx2, .slice Ax3 (newsOf R).length cx3, .int .i64 mm.length, .int .i64 (lostOf look done : Nat)] from h1.range)
        have HTH := Lib.hid (show Y.there (w.heap.size + 1) 0 (#[.slice Ax (gpg lv R).length cx, .slice Ax1 (R.flatMap fun p => p.2.holes).length cx1, .slice Ax2 (R.flatMap fun p => p.2.aparts).length cx2, .slice Ax3 (newsOf R).length cx3, .int .i64 mm.length, .int .i64 (lostOf look done : Nat)] : Array Value).size from htY.there)
        have hone : (#[.slice Ax (gpg lv R).length cx, .slice Ax1 (R.flatMap fun p => p.2.holes).length cx1, .slice Ax2 (R.flatMap fun p => p.2.aparts).length cx2, .slice Ax3 (newsOf R).length cx3, .int .i64 (mm.length : Int), .int .i64 ((lostOf look done : Nat) : Int)] : Array Value).all (·.oneCell') = true := by kernel_rfl
        have HONE := Lib.hid hone
        have H1 := Lib.hid h1
        have H2 := Lib.hid h2
        have H4 := Lib.hid h4
        have HD1 := Lib.hid hK2d
        have hDn1 : D1 ≠ gp ∧ D1 ≠ w5.heap.size := ⟨fun e => (by have h7 : w13.heap[gp]? = some _ := HST13.out.blk; have h8 := HD13.out; rw [e, h7] at h8; cases h8), fun e => (by have h7 : w13.heap[w5.heap.size]? = some _ := HS13.out.blk; have h8 := HD13.out; rw [e, h7] at h8; cases h8)⟩
        have HD1Y := Lib.hid ((h4.block D1 (Array.getElem?_eq_some_iff.1 HD13.out).1 (fun h => h.elim hDn1.1 (fun h => h.elim hDn1.2 (fun h => by have := (Array.getElem?_eq_some_iff.1 HD13.out).1; omega)))).trans HD13.out)
        have hrl := htY.lt
        clear h1 h2 h3 h4 h6 htY hone ht13 hne6 hne7 hDn1
        go_wp2_with (first | (with_reducible refine wpList_load_mid rfl 32 _ rfl w5.heap.size 0 rfl [.slice Ax (gpg lv R).length cx, .slice Ax1 (R.flatMap fun p => p.2.holes).length cx1, .slice Ax2 (R.flatMap fun p => p.2.aparts).length cx2, .slice Ax3 (newsOf R).length cx3, .int .i64 mm.length, .int .i64 (lostOf look done : Nat)] _ HRG.out Try.underlying32 rfl (by kernel_rfl) ?_) | (with_reducible refine wpList_store_mid rfl 32 _ _ rfl (w.heap.size + 1) 0 #[.slice Ax (gpg lv R).length cx, .slice Ax1 (R.flatMap fun p => p.2.holes).length cx1, .slice Ax2 (R.flatMap fun p => p.2.aparts).length cx2, .slice Ax3 (newsOf R).length cx3, .int .i64 mm.length, .int .i64 (lostOf look done : Nat)] rfl rfl HTH.out (by kernel_rfl) HONE.out ?_))
        obtain ⟨Wf, hWf⟩ : ∃ Wf, Wf = Y.setCells (w.heap.size + 1) 0 [.slice Ax (gpg lv R).length cx, .slice Ax1 (R.flatMap fun p => p.2.holes).length cx1, .slice Ax2 (R.flatMap fun p => p.2.aparts).length cx2, .slice Ax3 (newsOf R).length cx3, .int .i64 mm.length, .int .i64 (lostOf look done : Nat)] := ⟨_, rfl⟩
        have hw1 : w.heap.size + 1 < w13.heap.size := by omega
        have hd2 : Wf.heap[D2]? = some (.deferred (some [])) := by rw [hWf, blk_setCells _ _ _ _ _ (by omega)]; exact HD1.out
        have hd1l : D1 < w13.heap.size := (Array.getElem?_eq_some_iff.1 HD13.out).1
        have hd1 : (Wf.putObj D2 (.deferred none)).heap[D1]? = some (.deferred (some [])) := by rw [World.putObj_heap_other (by omega), hWf, blk_setCells _ _ _ _ _ (by have := HZB.out; omega)]; exact HD1Y.out
        have hrs : Wf.rangeAt (w.heap.size + 1) 0 [.slice Ax (gpg lv R).length cx, .slice Ax1 (R.flatMap fun p => p.2.holes).length cx1, .slice Ax2 (R.flatMap fun p => p.2.aparts).length cx2, .slice Ax3 (newsOf R).length cx3, .int .i64 mm.length, .int .i64 (lostOf look done : Nat)] := by rw [hWf]; exact World.rangeAt_setCells_same Y (w.heap.size + 1) 0 _ HTH.out
        try simp only [Exit.inBlock, Exit.then]
        rw [← hWf]
        have HWf := Lib.hid hWf
        clear hWf
        go_simp
        simp only [bodyPostM]
        refine ⟨by simp, .inl ⟨_, _, rfl, run_takeDeferred hd2, ?_⟩⟩
        refine ⟨by simp, .inl ⟨_, _, rfl, run_takeDeferred hd1, ?_⟩⟩
        obtain ⟨WF, hWF⟩ : ∃ WF, WF = (Wf.putObj D2 (.deferred none)).putObj D1 (.deferred none) := ⟨_, rfl⟩
        rw [← hWF]
        have hzb0 := HZB.out
        have hFYf : Fr (fun k => k = w.heap.size + 1) Y Wf := by rw [HWf.out]; exact Fr.setCells _ _ (Fr.refl _ Y) (.inl rfl)
        have hFf : Fr (fun k => k = w.heap.size + 1 ∨ k = D1 ∨ k = D2) Y WF := by
         rw [hWF]
         exact ((hFYf.mono (fun k _ hk => .inl hk)).putObj (.inl (.inr (.inr rfl))) _).putObj (.inl (.inr (.inl rfl))) _
        have hrF : WF.rangeAt (w.heap.size + 1) 0 [.slice Ax (gpg lv R).length cx, .slice Ax1 (R.flatMap fun p => p.2.holes).length cx1, .slice Ax2 (R.flatMap fun p => p.2.aparts).length cx2, .slice Ax3 (newsOf R).length cx3, .int .i64 mm.length, .int .i64 (lostOf look done : Nat)] := fun j v hv => by
         rw [hWF]
         refine (World.cell?_of_block ?_).trans (hrs j v hv)
         dsimp only
         rw [World.putObj_heap_other (by omega), World.putObj_heap_other (by omega)]
        have nD : ∀ k, (k = D1 ∨ k = D2) → ¬ cellsAt Y k := fun k hk => by
         rintro ⟨c, t, f, hh⟩
         rcases hk with rfl | rfl
         · rw [HD1Y.out] at hh; cases hh
         · rw [HD1.out] at hh; cases hh
        have hmY : Fr (fun k => k = gp ∨ k = w5.heap.size ∨ w13.heap.size ≤ k) w13 Y := H4.out
        have hx13 := HB13.out
        have rowY : ∀ (e size m : Nat) (v : Value) (xs : List Value), e ≠ 168 → e ≠ 32 → X.ownsRow 0 e size v m xs → WF.ownsRow 0 e size v m xs := fun e size m v xs n1 n2 h => by
         have h13 := ownsRow_new h hx13
         have hY := ownsRow_fr h13 hmY (fun k hk hm => by
          rcases hm with hm | hm | hm
          · subst hm; exact own_blk_ne h13 HST13.out.blk n1 hk
          · subst hm; exact own_blk_ne h13 HS13.out.blk n2 hk
          · have := own_lt h13 k hk; omega)
         exact ownsRow_fr hY hFf (fun k hk hm => by
          rcases hm with hm | hm
          · subst hm; exact own_blk_ne hY HTY.out n2 hk
          · exact nD k hm (own_cells hY k hk))
        have r0 : WF.ownsRow 0 55 14 (.slice Ax (gpg lv R).length cx) (gpg lv R).length (((gpg lv R).map PgT.tr).flatMap TraceT.cells) := ownsRow_fr H2.out hFf (fun k hk hm => by
         rcases hm with hm | hm
         · subst hm; exact own_blk_ne H2.out HTY.out (by decide) hk
         · exact nD k hm (own_cells H2.out k hk))
        have hgr : (gpg lv R).map PgT.tr = groundsOf lv R := by rw [gpg_eq, List.map_map]; simp [Function.comp_def, pg]
        have hgrl : (gpg lv R).length = (groundsOf lv R).length := by rw [gpg_eq, List.length_map]
        rw [hgr, hgrl] at r0
        have r2 := rowY _ _ _ _ _ (by decide) (by decide) HSX.out.o2
        have r3 := rowY _ _ _ _ _ (by decide) (by decide) HSX.out.o3
        have cw : ∀ k, C k → WF.heap[k]? = X.heap[k]? := fun k hk => by
         have hKk := HSX.out.sub k hk
         have hlt := HSX.out.lt k hKk
         have hn := HCN.out k hk
         have n1 : k ≠ gp := fun e => by
          obtain ⟨_, _, _, _, _, _, g, _⟩ := HSX.out.map_
          exact g (e ▸ hKk)
         have n2 : k ≠ w5.heap.size := fun e => HSX.out.nog (e ▸ hKk)
         have e13 := hx13.block k hlt
         have eY := hmY.block k (by omega) (fun h => h.elim n1 (fun h => h.elim n2 (fun h => by omega)))
         have hcY : cellsAt Y k := by
          rcases HSX.out.cel k hk with h | ⟨c, t, f, hh⟩
          · omega
          · exact ⟨c, t, f, (eY.trans e13).trans hh⟩
         have eF := hFf.block k (by have := hmY.size; omega) (fun h => h.elim (fun e => by omega) (fun h => nD k h hcY))
         exact eF.trans (eY.trans e13)
        have hszX : X.heap.size ≤ WF.heap.size := by have := hmY.size; have := hFf.size; omega
        obtain ⟨css, q1, q2, q3⟩ := HSX.out.o1
        have r1' : OwnC (repHoleT n) 76 C WF (.slice Ax1 (R.flatMap fun p => p.2.holes).length cx1) (R.flatMap fun p => p.2.holes) := ⟨css, rowY _ _ _ _ _ (by decide) (by decide) q1, q2.imp fun a cs hr => (repHoleT n).keep hszX (fun k hk hl => ⟨hk, cw k hk⟩) hr, q3⟩
        have r1 : RowR (repHoleT n) (· < WF.heap.size) WF Ax1 cx1 (R.flatMap fun p => p.2.holes) := r1'.row (fun k hk => Nat.lt_of_lt_of_le (HSX.out.lt k (HSX.out.sub k hk)) hszX) (fun a ha => r1'.lt a.block (by subst ha; rfl))
        have hFall : Fr (fun k => k = bp ∨ k = w.heap.size + 1 ∨ w5.heap.size ≤ k) w5 WF := by
         have f1 : Fr (fun k => k = bp ∨ k = w.heap.size + 1 ∨ w5.heap.size ≤ k) w5 w13 := (HFRX.out.mono (fun k _ hk => hk.elim .inl (fun hk => .inr (.inr hk)))).into (Fr.of_new (M := fun _ => False) hx13) (fun _ h => h.elim)
         have hgpl : w5.heap.size ≤ gp := HGPL.out
         have f2 := f1.into hmY (fun k hk => by
          rcases hk with hk | hk | hk
          · exact .inl (.inr (.inr (by omega)))
          · exact .inl (.inr (.inr (by omega)))
          · exact .inl (.inr (.inr (by omega))))
         exact f2.into hFf (fun k hk => by
          rcases hk with hk | hk | hk
          · exact .inl (.inr (.inl hk))
          · exact .inl (.inr (.inr (by omega)))
          · exact .inl (.inr (.inr (by omega))))
        have hGF : G E done WF := HF.out.steady HP.out.g hFall (fun k hk => by
         rcases hk with hk | hk | hk
         · subst hk
           exact ⟨fun h => HPK.out (HP.out.sub _ h), Nat.le_of_not_lt fun h => HPK.out (HP.out.low _ h)⟩
         · subst hk
           exact ⟨fun h => HK2.out (HP.out.sub _ h), by omega⟩
         · exact ⟨fun h => by have := HP.out.lt _ (HP.out.sub _ h); omega, by omega⟩)
        have hFE : Fr E0 w WF := HFR.out.into hFall (fun k hk => by
         rcases hk with hk | hk | hk
         · subst hk
           exact .inr (Nat.le_of_not_lt fun h => HPK.out (HP.out.low _ h))
         · exact .inr (by omega)
         · exact .inr (by omega))
        have hfin : WalkPost n G look lv E0 done w (.returned (.agg #[.slice Ax (gpg lv R).length cx, .slice Ax1 (R.flatMap fun p => p.2.holes).length cx1, .slice Ax2 (R.flatMap fun p => p.2.aparts).length cx2, .slice Ax3 (newsOf R).length cx3, .int .i64 mm.length, .int .i64 (lostOf look done : Nat)])) WF := by
         unfold WalkPost trailV
         rw [← HR.out]
         refine ⟨Ax, cx, Ax1, cx1, Ax2, cx2, Ax3, cx3, E, ?_, own_row TraceT.cells_length r0, r1, own_row ApartT.cells_length r2, own_row Sym.cells_length r3, hGF, fun k hk => (HES.out k hk).imp id (fun h => by omega), hFE⟩
         rw [hgrl, ← hml]
        rw [← HFF.out]
        exact ⟨_, results_cell (t := 6) (T := 32) rfl _ _ (w.heap.size + 1) [.slice Ax (gpg lv R).length cx, .slice Ax1 (R.flatMap fun p => p.2.holes).length cx1, .slice Ax2 (R.flatMap fun p => p.2.aparts).length cx2, .slice Ax3 (newsOf R).length cx3, .int .i64 mm.length, .int .i64 (lostOf look done : Nat)] _ rfl hrF Try.underlying32 rfl (by kernel_rfl), hfin⟩
      · intro F2 D c pre post Y _ _ h
        exact h.elim
    · intro F D c pre post X _ _ h
      exact h.elim
  | cons k todo =>
    obtain ⟨b, off, x, rfl, hcp, hx0, hq0⟩ := hst.q.1.head
    have hx1 : x = .int .i64 k := by simpa [Int.cells1] using hx0.symm
    subst hx1
    have htail := QRow.tail (xs := todo.flatMap Int.cells1) (by have := hst.q.1; simpa [Int.cells1] using this)
    have hq1 : OTodo K wr (.slice (if cap = 1 then some ⟨b, off, none⟩ else some ⟨b, off + 1, none⟩) todo.length (cap - 1)) todo := ⟨htail, fun k' hk' => hst.q.2 k' (by split at hk' <;> exact hk')⟩
    have hbl := World.block_lt_of_cell? wr _ hq0
    have hst1 : St1 n w.heap.size look G K E done todo sb bm bp (.slice (if cap = 1 then some ⟨b, off, none⟩ else some ⟨b, off + 1, none⟩) todo.length (cap - 1)) wr := ⟨hst.p, hst.s, hst.m, hq1⟩
    have HST := Lib.hid hst1
    have i1 : (0 : Int) < ((todo.length + 1 : Nat) : Int) := by omega
    have i2 : (1 : Int) ≤ ((todo.length + 1 : Nat) : Int) := by omega
    have i3 : ((todo.length + 1 : Nat) : Int) ≤ (cap : Int) := by omega
    have i4 : (1 : Int) ≤ (cap : Int) := by omega
    clear htail hst hst1 hx0 hq1
    go_upto_region 8 with fail
    generalize (if cap = 1 then some (⟨b, off, none⟩ : Addr) else some ⟨b, off + 1, none⟩) = A1 at HST ⊢
    clear hq0 hbl i1 i2 i3 i4
    go_wp2_with fail
    refine (oput_Bnum k HST.out.s (Srt.puts tc_bnum done Srt.nil) HST.out.p.lt (by have := length_puts_le tc_bnum done (l := []) Srt.nil; have := HLEN.out; simp at *; omega)).mono ?_
    rintro e w5 ⟨rfl, hs5, hm5⟩
    have HX5 := Lib.hid (hm5.only _ _ _ (by decide) HX.out)
    have HT5 := Lib.hid (hm5.only _ _ _ (by decide) HT.out)
    have HFR5 := Lib.hid (HFR.out.into hm5.fr (fun j hj => .inr (Nat.le_of_not_lt fun hl => hj (HST.out.p.low j hl))))
    by_cases hd : k ∈ done
    · have hh : has cmpBnum (puts cmpBnum [] done) k = true := by rw [has_puts]; simpa using hd
      have hst5 : St1 n w.heap.size look G K E done todo sb bm bp (.slice A1 todo.length (cap - 1)) w5 := ⟨HST.out.p.mine HF.out hm5, by rw [put_has hh] at hs5; exact hs5, HST.out.m.mine hm5 (by decide) (by decide) (by decide), HST.out.q.mine hm5 (by decide)⟩
      have HST5 := Lib.hid hst5
      have HD := Lib.hid hd
      clear hst5 hs5 hm5 hd
      go_wp2_with fail
      go_roundg (cost look lv keys todo done)
      case measure => rw [HGN.out]; unfold cost; simp
      case rel => exact ⟨done, todo, K, E, rfl, HST5.out, by rw [← HRE.out, reach_seen look lv keys HD.out], rfl, by have := HLEN.out; rw [HGN.out] at this; unfold cost at this ⊢; simp at this; omega, HX5.out, HT5.out, HFR5.out, HES.out, HK1.out, HK2.out⟩
    · have hh : has cmpBnum (puts cmpBnum [] done) k = false := by rw [has_puts]; simpa using hd
      obtain ⟨s1, s2, s3, s4⟩ := HST.out.seen HF.out hs5 hm5
      have S1 := Lib.hid s1
      have S2 := Lib.hid s2
      have S3 := Lib.hid s3
      have S4 := Lib.hid s4
      have HD := Lib.hid hd
      clear hs5 hm5 s1 s2 s3 s4 hd
      go_wp2_with fail
      refine (HF.out.call k (by have := HLEN.out; omega) HD.out S1.out.g).mono ?_
      rintro e w6 ⟨E', g1, g2, g3, Az1, cz1, Az2, cz2, Az3, cz3, Az4, cz4, rfl, hra⟩
      obtain ⟨t1, t2, t3, t4⟩ := St1.found S1.out.sub S1.out S2.out S3.out S4.out g1 g2 g3
      have hEl := S1.out.sub
      have n1 : ¬ E w.heap.size := fun h => (HES.out _ h).elim (fun h => by have := HE0.out _ h; omega) (fun h => by omega)
      have n2 : ¬ E (w.heap.size + 1) := fun h => HK2.out (hEl _ h)
      have hx5l := HX5.out.lt
      have ht5l := HT5.out.lt
      have HX6 := Lib.hid (HX5.out.fr g3 n1)
      have HT6 := Lib.hid (HT5.out.fr g3 n2)
      have HFR6 := Lib.hid (HFR5.out.into g3 (fun j hj => (HES.out j hj).imp id (fun h => by omega)))
      have HES6 := Lib.hid (show ∀ j, E' j → E0 j ∨ w.heap.size + 2 ≤ j from fun j hj => (g2 j hj).elim (HES.out j) (fun h => .inr (by have := h.1; omega)))
      have HK16 := Lib.hid (show Plus K w5 w6 w.heap.size from .inl HK1.out)
      have HK26 := Lib.hid (show ¬ Plus K w5 w6 (w.heap.size + 1) from fun h => h.elim HK2.out (fun h => by have := h.1; omega))
      have hra2 : RecAt n (fun j => Plus K w5 w6 j ∧ ¬ E' j) w6 (look k).1 Az1 cz1 Az2 cz2 Az3 cz3 Az4 cz4 := hra.keep (Nat.le_refl _) (fun j hj _ => ⟨⟨.inr hj.1, hj.2⟩, rfl⟩)
      obtain ⟨K6, hK6⟩ : ∃ K6, K6 = Plus K w5 w6 := ⟨_, rfl⟩
      rw [← hK6] at t1 t2 t3 t4 HK16 HK26 hra2
      clear hK6
      obtain ⟨r, hr⟩ : ∃ r, r = (look k).1 := ⟨_, rfl⟩
      rw [← hr] at hra2 ⊢
      have hsr : SmR n r := by rw [hr]; exact HSM.out k
      have HR := Lib.hid hr
      have HSR := Lib.hid hsr
      have T1 := Lib.hid t1
      have T2 := Lib.hid t2
      have T3 := Lib.hid t3
      have T4 := Lib.hid t4
      have HRA := Lib.hid hra2
      clear hra g1 g2 g3 t1 t2 t3 t4 hra2 hEl n1 n2 hr hsr HST HX HT HFR HX5 HT5 HFR5 S1 S2 S3 S4
      cases hlk : (look k).2 with
      | false =>
        have HLK := Lib.hid hlk
        have hlo : ((lostOf look done : Nat) : Int) ≤ 100000 := by
         have : lostOf look done ≤ done.length := List.length_filter_le _ _
         have := HLEN.out
         omega
        go_upto_region 11 with fail
        obtain ⟨W7, hW7⟩ : ∃ W7, W7 = w6.alloc (.cells #[.int .i64 r.num, .int .i64 r.level, .slice Az1 r.elems.length cz1, .slice Az2 r.holes.length cz2, .slice Az3 r.aparts.length cz3, .slice Az4 r.news.length cz4] 47) := ⟨_, rfl⟩
        have hb7 : Below w6.heap.size w6 W7 := by rw [hW7]; exact (Below.refl _ _).alloc (Nat.le_refl _) _
        rw [← hW7]
        clear hW7
        have hst7 : St1 n w.heap.size look G K6 E' (done ++ [k]) todo sb bm bp (.slice A1 todo.length (cap - 1)) W7 := St1.new_ HF.out ⟨T1.out, T2.out, by rw [recsOf_snoc, addR, if_neg (by rw [HLK.out]; simp)]; exact T3.out, T4.out⟩ hb7
        have HST7 := Lib.hid hst7
        have HX7 := Lib.hid (HX6.out.new_ hb7)
        have HT7 := Lib.hid (HT6.out.new_ hb7)
        have HFR7 := Lib.hid (HFR6.out.into (Fr.of_new (M := fun _ => False) hb7) (fun _ h => h.elim))
        clear hst7 hb7 hlk
        go_wp2_with fail
        go_roundg (cost look lv keys todo (done ++ [k]))
        case measure =>
         have := left_le look lv keys done k
         rw [HGN.out]; unfold cost; simp; omega
        case rel =>
         have h1 := left_le look lv keys done k
         have h2 := HLEN.out
         rw [HGN.out] at h2
         unfold cost at h2
         refine ⟨done ++ [k], todo, K6, E', ?_, HST7.out, by rw [← HRE.out, reach_lost look lv keys HKEYS.out HD.out HLK.out], rfl, by unfold cost; simp at h2 ⊢; omega, HX7.out, HT7.out, HFR7.out, HES6.out, HK16.out, HK26.out⟩
         rw [lostOf_snoc, if_neg (by rw [HLK.out]; simp)]
         go_num
      | true =>
        have HLK := Lib.hid hlk
        go_upto_region 12 with fail
        obtain ⟨W7, hW7⟩ : ∃ W7, W7 = w6.alloc (.cells #[.int .i64 r.num, .int .i64 r.level, .slice Az1 r.elems.length cz1, .slice Az2 r.holes.length cz2, .slice Az3 r.aparts.length cz3, .slice Az4 r.news.length cz4] 47) := ⟨_, rfl⟩
        have hb7 : Below w6.heap.size w6 W7 := by rw [hW7]; exact (Below.refl _ _).alloc (Nat.le_refl _) _
        have hr7 : Blk W7 w6.heap.size 47 #[.int .i64 r.num, .int .i64 r.level, .slice Az1 r.elems.length cz1, .slice Az2 r.holes.length cz2, .slice Az3 r.aparts.length cz3, .slice Az4 r.news.length cz4] := by rw [hW7]; exact Blk.new _ _ _
        rw [← hW7]
        clear hW7
        have hm7 : Mine [] K6 w6 W7 := Mine.new_ hb7
        have U1 := Lib.hid (T1.out.mine HF.out hm7)
        have U2 := Lib.hid (T2.out.mine hm7 (by simp) (by simp))
        have U4 := Lib.hid (T4.out.mine hm7 (by simp))
        have U3 := Lib.hid (T3.out.mine hm7 (by simp) (by simp) (by simp))
        have HX7 := Lib.hid (HX6.out.new_ hb7)
        have HT7 := Lib.hid (HT6.out.new_ hb7)
        have HFR7 := Lib.hid (HFR6.out.into (Fr.of_new (M := fun _ => False) hb7) (fun _ h => h.elim))
        have HRA7 := Lib.hid (HRA.out.keep hb7.size (fun j hj hl => ⟨hj, hb7.block j hl⟩))
        have hnK : ¬ K6 w6.heap.size := fun h => by have := T1.out.lt _ h; omega
        have HNK := Lib.hid hnK
        obtain ⟨y0, y1, y2, y3, y4, y5⟩ := hr7.c6
        have hyl := hr7.lt
        have HR7 := Lib.hid hr7
        clear hlk hb7 hr7 hm7 hnK T1 T2 T3 T4 HX6 HT6 HFR6 HRA
        go_wp2_with fail
        refine (opages_put (k := k) (r := r) U3.out U1.out.lt (by have := len_recs look done; have := HLEN.out; omega) (has_recs HD.out _) HRA7.out).mono ?_
        rintro e w8 ⟨rfl, g3, g4⟩
        have hst8 : St1 n w.heap.size look G K6 E' (done ++ [k]) (todo ++ pushesTo lv r.elems 0) sb bm bp (.slice A1 todo.length (cap - 1)) w8 := by
         rw [pushesTo_zero, List.append_nil]
         exact ⟨U1.out.mine HF.out g4, U2.out.mine g4 (by decide) (by decide), by rw [recsOf_snoc, addR, if_pos HLK.out, ← HR.out]; exact g3, U4.out.mine g4 (by decide)⟩
        have hr8 := g4.only _ _ _ (by decide) HR7.out
        have HST8 := Lib.hid hst8
        have HX8 := Lib.hid (g4.only _ _ _ (by decide) HX7.out)
        have HT8 := Lib.hid (g4.only _ _ _ (by decide) HT7.out)
        have HFR8 := Lib.hid (HFR7.out.into g4.fr (fun j hj => .inr (Nat.le_of_not_lt fun hl => hj (U1.out.low j hl))))
        have HRE8 := Lib.hid (HRA7.out.1.keep (D' := fun j => K6 j ∧ ¬ E' j) g4.fr.size (fun j hj hl => ⟨hj, g4.fr.block j hl (fun h => h hj.1)⟩))
        have HSL := Lib.hid (show r.elems.length ≤ 1000 from HSR.out.1)
        obtain ⟨y0, y1, y2, y3, y4, y5⟩ := hr8.c6
        have hyl := hr8.lt
        have HLV := Lib.hid (show Value.slice A1 todo.length (cap - 1) = .slice A1 (todo ++ pushesTo lv r.elems 0).length (cap - 1) by rw [pushesTo_zero, List.append_nil])
        clear g3 g4 hst8 hr8 U1 U2 U3 U4 HX7 HT7 HFR7 HRA7 HR7
        have hce := HRE8.out.cap
        go_wp2_with fail
        clear y0 y1 y2 y3 y4 y5 hyl
        go_loopw [9, 64] (fun v i wr => ∃ m : Nat, i = .int .i64 m ∧ m ≤ r.elems.length ∧ St1 n w.heap.size look G K6 E' (done ++ [k]) (todo ++ pushesTo lv r.elems m) sb bm bp v wr ∧ Blk wr w.heap.size 3 #[.int .i64 lv] ∧ Blk wr (w.heap.size + 1) 32 #[.slice none 0 0, .slice none 0 0, .slice none 0 0, .slice none 0 0, .int .i64 0, .int .i64 0] ∧ Fr E0 w wr ∧ RowR repTraceT (fun j => K6 j ∧ ¬ E' j) wr Az1 cz1 r.elems) (fun v i wr => r.elems.length - (intOf i).toNat)
        case atStart => exact ⟨0, rfl, Nat.zero_le _, HST8.out, HX8.out, HT8.out, HFR8.out, HRE8.out⟩
        case round =>
         obtain ⟨m, rfl, hm, hst, hx, ht, hfr, hre⟩ := hrel
         obtain ⟨A, cap, rfl, hcap1, hcap2⟩ := hst.q.1.form
         by_cases hlt : m < r.elems.length
         · obtain ⟨e0, he0⟩ : ∃ e0, e0 = r.elems[m] := ⟨_, rfl⟩
           obtain ⟨ge, oe, hA0, hDe, hge, q0, q1, q2, q3, q4, q5, q6, q7, q8, q9, q10, q11, q12, q13⟩ := at_TraceT hre hlt
           subst hA0
           rw [← he0] at q0 q1 q2 q3 q4 q5 q6 q7 q8 q9 q10 q11 q12 q13
           have b1 : (0 : Int) ≤ (m : Int) := by omega
           have b2 : (m : Int) < (r.elems.length : Int) := by omega
           have HE0e := Lib.hid he0
           have HST := Lib.hid hst
           have HX := Lib.hid hx
           have HT := Lib.hid ht
           have HFRq := Lib.hid hfr
           have HREq := Lib.hid hre
           clear he0 hst hx ht hfr hre
           go_upto_region 16 with fail
           obtain ⟨W9, hW9⟩ : ∃ W9, W9 = wr.alloc (.cells #[.int .i64 e0.elem.id.kind, .string e0.elem.id.text, .int .i64 e0.elem.id.n, .int .i64 e0.elem.attr.kind, .string e0.elem.attr.text, .int .i64 e0.elem.attr.n, .int .i64 e0.elem.value.kind, .string e0.elem.value.text, .int .i64 e0.elem.value.n, .bool e0.elem.acc, .bool e0.elem.goal, .int .i64 e0.elem.tag, .int .i64 e0.level, .int .i64 e0.cause] 55) := ⟨_, rfl⟩
           have hb9 : Below wr.heap.size wr W9 := by rw [hW9]; exact (Below.refl _ _).alloc (Nat.le_refl _) _
           have hx9 : Blk W9 wr.heap.size 55 #[.int .i64 e0.elem.id.kind, .string e0.elem.id.text, .int .i64 e0.elem.id.n, .int .i64 e0.elem.attr.kind, .string e0.elem.attr.text, .int .i64 e0.elem.attr.n, .int .i64 e0.elem.value.kind, .string e0.elem.value.text, .int .i64 e0.elem.value.n, .bool e0.elem.acc, .bool e0.elem.goal, .int .i64 e0.elem.tag, .int .i64 e0.level, .int .i64 e0.cause] := by rw [hW9]; exact Blk.new _ _ _
           rw [← hW9]
           clear hW9 q0 q1 q2 q3 q4 q5 q6 q7 q8 q9 q10 q11 q12 q13
           have HST9 := Lib.hid (St1.new_ HF.out HST.out hb9)
           have HX9 := Lib.hid (HX.out.new_ hb9)
           have HT9 := Lib.hid (HT.out.new_ hb9)
           have HFR9 := Lib.hid (HFRq.out.into (Fr.of_new (M := fun _ => False) hb9) (fun _ h => h.elim))
           have HRE9 := Lib.hid (HREq.out.new_ hb9)
           have c12 := (hx9.cell 12).trans rfl
           have c13 := (hx9.cell 13).trans rfl
           have l0 := HX9.out.c1
           have hxl9 := hx9.lt
           have hll9 := HX9.out.lt
           have hhx9 := Lib.hid hx9
           clear hb9 hx9 HST HX HT HFRq HREq
           by_cases hp1 : lv ≤ e0.level
           · have d1 : decide (lv ≤ e0.level) = true := by simpa using hp1
             by_cases hp2 : 0 < e0.cause
             · have d2 : decide (0 < e0.cause) = true := by simpa using hp2
               have HPU := Lib.hid (show pushesTo lv r.elems (m + 1) = pushesTo lv r.elems m ++ [e0.cause] by rw [HE0e.out]; exact pushesTo_yes hlt (by rw [← HE0e.out]; exact hp1) (by rw [← HE0e.out]; exact hp2))
               have hpl : (pushesTo lv r.elems m).length ≤ 1000 := by
                have : (pushesTo lv r.elems m).length ≤ r.elems.length := by
                 unfold pushesTo
                 rw [List.length_map]
                 exact Nat.le_trans (List.length_filter_le _ _) (by simp; omega)
                have := HSL.out
                omega
               have htl : todo.length ≤ 100000 := by
                have h2 := HLEN.out
                rw [HGN.out] at h2
                unfold cost at h2
                simp at h2
                omega
               have htlen : (todo ++ pushesTo lv r.elems m).length ≤ 110000 := by rw [List.length_append]; omega
               have HTL := Lib.hid htlen
               clear hp1 hp2 hpl htl htlen
               go_upto_region 17 with fail
               go_upto_region 18 with (at_builtin; refine wpList_append_Q _ rfl _ _ 22 rfl 3 i0 _ 1 8 Try.underlying22 hi0 hz0 hz1 hz2 rfl (by omega) (.slice A (todo ++ pushesTo lv r.elems m).length cap) (todo ++ pushesTo lv r.elems m).length ((todo ++ pushesTo lv r.elems m).flatMap Int.cells1) rfl (HST9.out.q.1.new_ ((Below.refl _ _).alloc (Nat.le_refl _) _) (fun k hk => (HST9.out.q.2 k hk).1)) ⟨W9.heap.size, 0, none⟩ 1 [.int .i64 e0.cause] rfl rfl (World.news_of_block (heap_alloc_new _ _)) (by intro u hu; simp at hu; subst hu; rfl) (by have := HTL.out; unfold maxLen; omega) (by have := HTL.out; omega) ?_; intro v' w10 hq hF10 hO10 hat10)
               obtain ⟨A', cap', rfl, -, -⟩ := hq.form
               have hb9b : Below W9.heap.size W9 (W9.alloc (.cells #[.int .i64 e0.cause] 3)) := (Below.refl _ _).alloc (Nat.le_refl _) _
               have hm10 : Mine [3] K6 W9 w10 := (Mine.new_ hb9b).trans ⟨fun g t cs hn hb => hO10 g t cs (fun e => hn (by simp [e])) hb, hF10.mono (fun k _ hk => (HST9.out.q.2 k hk).2)⟩
               have hnx : (Value.slice A (todo ++ pushesTo lv r.elems m).length cap).ownBlock ≠ some w.heap.size := fun h => (HST9.out.q.2 _ h).2 HK16.out
               have hz10 := hF10.size
               have hq10 : OTodo K6 w10 (.slice A' ((todo ++ pushesTo lv r.elems m).length + 1) cap') (todo ++ pushesTo lv r.elems (m + 1)) := by
                have e : todo ++ pushesTo lv r.elems (m + 1) = (todo ++ pushesTo lv r.elems m) ++ [e0.cause] := by rw [HPU.out, List.append_assoc]
                have e1 : ((todo ++ pushesTo lv r.elems m) ++ [e0.cause]).length = (todo ++ pushesTo lv r.elems m).length + 1 := by rw [List.length_append]; rfl
                rw [e]
                refine ⟨by rw [e1, List.flatMap_append]; exact hq, fun k hk => ?_⟩
                rcases hat10 with h | h
                · rw [h] at hk
                  have := HST9.out.q.2 k hk
                  exact ⟨by have := this.1; simp at hz10; omega, this.2⟩
                · have h2 := h k hk
                  refine ⟨h2.2, fun hK => ?_⟩
                  have := HST9.out.p.lt k hK
                  have := h2.1
                  simp at this
                  omega
               have hlen' : (todo ++ pushesTo lv r.elems (m + 1)).length = (todo ++ pushesTo lv r.elems m).length + 1 := by rw [HPU.out]; simp; omega
               have hst10 : St1 n w.heap.size look G K6 E' (done ++ [k]) (todo ++ pushesTo lv r.elems (m + 1)) sb bm bp (.slice A' ((todo ++ pushesTo lv r.elems m).length + 1) cap') w10 := ⟨HST9.out.p.mine HF.out hm10, HST9.out.s.mine hm10 (by decide) (by decide), HST9.out.m.mine hm10 (by decide) (by decide) (by decide), hq10⟩
               have HST10 := Lib.hid hst10
               have HX10 := Lib.hid ((HX9.out.new_ hb9b).fr hF10 hnx)
               have HT10 := Lib.hid (hm10.only _ _ _ (by decide) HT9.out)
               have HFR10 := Lib.hid (HFR9.out.into hm10.fr (fun j hj => .inr (Nat.le_of_not_lt fun hl => hj (HST9.out.p.low j hl))))
               have HRE10 := Lib.hid (HRE9.out.keep (D' := fun j => K6 j ∧ ¬ E' j) hm10.fr.size (fun j hj hl => ⟨hj, hm10.fr.block j hl (fun h => h hj.1)⟩))
               clear hq hF10 hO10 hat10 hb9b hm10 hnx hq10 hst10 hlen' HST9 HX9 HT9 HFR9 HRE9 c12 c13 l0
               go_wp2_with fail
               go_roundw
               case rel => exact ⟨m + 1, by go_num, by omega, HST10.out, HX10.out, HT10.out, HFR10.out, HRE10.out⟩
               case measure => simp [intOf]; omega
             · have d2 : decide (0 < e0.cause) = false := by simpa using hp2
               have HPU := Lib.hid (show pushesTo lv r.elems (m + 1) = pushesTo lv r.elems m by rw [HE0e.out] at hp2; exact pushesTo_no hlt (fun h => hp2 h.2))
               clear hp1 hp2
               go_wp2_with fail
               go_roundw
               case rel => exact ⟨m + 1, by go_num, by omega, by rw [HPU.out]; exact HST9.out, HX9.out, HT9.out, HFR9.out, HRE9.out⟩
               case measure => simp [intOf]; omega
           · have d1 : decide (lv ≤ e0.level) = false := by simpa using hp1
             have HPU := Lib.hid (show pushesTo lv r.elems (m + 1) = pushesTo lv r.elems m by rw [HE0e.out] at hp1; exact pushesTo_no hlt (fun h => hp1 h.1))
             clear hp1
             go_wp2_with fail
             go_roundw
             case rel => exact ⟨m + 1, by go_num, by omega, by rw [HPU.out]; exact HST9.out, HX9.out, HT9.out, HFR9.out, HRE9.out⟩
             case measure => simp [intOf]; omega
         · obtain rfl : m = r.elems.length := by omega
           rw [pushesTo_all] at hst
           have HST := Lib.hid hst
           have HX := Lib.hid hx
           have HT := Lib.hid ht
           have HFRq := Lib.hid hfr
           have HPL := Lib.hid (pushesTo_all lv r)
           clear hst hx ht hfr hre
           go_wp2_with fail
           go_roundg (cost look lv keys (todo ++ pushes lv r) (done ++ [k]))
           case measure =>
            have := cost_new look lv keys HKEYS.out (todo := todo) HD.out HLK.out
            rw [← HR.out] at this
            rw [HGN.out]; omega
           case rel =>
            have h1 := cost_new look lv keys HKEYS.out (todo := todo) HD.out HLK.out
            rw [← HR.out] at h1
            have h2 := HLEN.out
            rw [HGN.out] at h2
            refine ⟨done ++ [k], todo ++ pushes lv r, K6, E', ?_, by rw [HPL.out]; exact HST.out, by rw [← HRE.out, reach_new look lv keys HKEYS.out HD.out HLK.out, HR.out], rfl, by simp; omega, HX.out, HT.out, HFRq.out, HES6.out, HK16.out, HK26.out⟩
            rw [lostOf_snoc, if_pos HLK.out]; rfl
end Go.Proofs.Ytnfgilbaglfkeaa
