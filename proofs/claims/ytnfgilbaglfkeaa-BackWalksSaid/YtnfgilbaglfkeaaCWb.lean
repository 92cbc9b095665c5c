/-
  Texts put together: RefBk4.
-/
import Derived.Test.YtnfgilbaglfkeaaBa
import Derived.Test.YtnfgilbaglfkeaaBb
import Derived.Test.YtnfgilbaglfkeaaBc
import Derived.Test.YtnfgilbaglfkeaaBd
import Derived.Test.YtnfgilbaglfkeaaBe
import Derived.Test.YtnfgilbaglfkeaaBf
import Derived.Test.YtnfgilbaglfkeaaBg
import Derived.Test.YtnfgilbaglfkeaaBh
import Derived.Test.YtnfgilbaglfkeaaBi
import Derived.Test.YtnfgilbaglfkeaaBj
import Derived.Test.YtnfgilbaglfkeaaBk
import Derived.Test.YtnfgilbaglfkeaaCWa
import Derived.Maps.RangeWalk
namespace Go.Proofs.Ytnfgilbaglfkeaa
open Go.RowKit Go.Shelf
theorem own_take {α : Type} {cells : α → List Value} {w : World} {e : TypeId} {size : Nat} (hsz : ∀ x, (cells x).length = size) (h0 : 0 < size) {l : List α} {A : Option Addr} {c : Nat} (h : w.ownsRow 0 e size (.slice A l.length c) l.length (l.flatMap cells)) (i : Nat) (hi : i ≤ l.length) :
 w.ownsRow 0 e size (.slice A (l.take i).length c) (l.take i).length ((l.take i).flatMap cells) := by
 have e1 : (l.take i).length = i := by rw [List.length_take]; omega
 rw [e1]
 rcases ownsRow_form h with ⟨hv, hn, _⟩ | ⟨g, cap, hv, _⟩
 · injection hv with hA _ hc
   subst hA
   subst hc
   have hl : l = [] := List.eq_nil_of_length_eq_zero hn
   subst hl
   obtain rfl : i = 0 := by simpa using hi
   exact owns_nilC _ _ _
 · injection hv with hA
   subst hA
   exact ownsRow_prefix hsz h0 h hi rfl
theorem own_one {w : World} {e : TypeId} {size : Nat} (cs : List Value) (hcs : cs.length = size) : (w.alloc (.cells cs.toArray e)).ownsRow 0 e size (.slice (some ⟨w.heap.size, 0, none⟩) 1 1) 1 cs := by
 refine ownsRow_of ⟨cs.toArray, heap_alloc_new w _, by simp [hcs]⟩ (Nat.le_refl _) (by unfold maxLen; omega) (by simp [hcs]) (fun i u hu => ?_)
 simpa using hu
theorem grown_any {α : Type} {cells : α → List Value} {e : TypeId} {size B : Nat} {w w' : World} {A : Option Addr} {n c : Nat} {xs ys : List α} {v : Value} (hown : w'.ownsRow 0 e size v (xs.length + ys.length) (xs.flatMap cells ++ ys.flatMap cells)) (hg : w.grownBy w' (Value.slice A n c).ownBlock)
 (hat : v.ownBlock = (Value.slice A n c).ownBlock ∨ v.ownBlock = some w.heap.size) (hA : ∀ k, (Value.slice A n c).ownBlock = some k → B ≤ k) (hB : B ≤ w.heap.size) :
 ∃ A' c', v = .slice A' (xs ++ ys).length c' ∧ w'.ownsRow 0 e size (.slice A' (xs ++ ys).length c') (xs ++ ys).length ((xs ++ ys).flatMap cells) ∧ (∀ k, (Value.slice A' (xs ++ ys).length c').ownBlock = some k → B ≤ k) ∧ Below B w w' := by
 rw [← List.length_append, ← List.flatMap_append] at hown
 obtain ⟨A', c', rfl, _⟩ := own_form2 hown
 refine ⟨A', c', rfl, hown, fun k hk => ?_, (Below.refl B w).grown hg hB hA⟩
 rcases hat with h | h
 · exact hA k (h ▸ hk)
 · rw [h] at hk; injection hk with hk; omega
theorem run_slR_from {n c j : Nat} (A : Option Addr) (hj : j ≤ n) (Y : World) : (Instr.slice 23 (.slice A n c) (some (.int .i64 (j : Int))) none none).run Try.prog Y = .ok (.slice (if c = j then A else A.map (·.add (j * 6))) (n - j) (c - j)) Y := by
 have hl0 : (0 : Int) ≤ (j : Int) := by omega
 have hl1 : (j : Int) ≤ (n : Int) := by omega
 go_simp
theorem run_slR_to {n c j : Nat} (A : Option Addr) (hj : j ≤ c) (Y : World) : (Instr.slice 23 (.slice A n c) none (some (.int .i64 (j : Int))) none).run Try.prog Y = .ok (.slice A j c) Y := by
 have hl0 : (0 : Int) ≤ (j : Int) := by omega
 have hl1 : (j : Int) ≤ (c : Int) := by omega
 go_simp
theorem ownBlock_len {A : Option Addr} {n n' c c' : Nat} : (Value.slice A n c).ownBlock = (Value.slice A n' c').ownBlock := by cases A <;> rfl
theorem RecAt.frB {n B : Nat} {D M : Nat → Prop} {w w' : World} {r : RecordT} {A1 : Option Addr} {c1 : Nat} {A2 : Option Addr} {c2 : Nat} {A3 : Option Addr} {c3 : Nat} {A4 : Option Addr} {c4 : Nat} (h : RecAt n D w r A1 c1 A2 c2 A3 c3 A4 c4) (hF : Fr M w w') (hM : ∀ g, M g → B ≤ g) (hD : ∀ k, D k → k < B) : RecAt n D w' r A1 c1 A2 c2 A3 c3 A4 c4 :=
 h.keep hF.size (fun j hj hl => ⟨hj, hF.block j hl (fun e => by have := hM j e; have := hD j hj; omega)⟩)
theorem recs_ins {R : List KR} (hs : Srt cmpKR R) {k : Int} (r : RecordT) {m : Nat} (hm : m ≤ R.length) (h1 : ∀ j, (h : j < R.length) → m ≤ j → k < R[j].1) (h2 : ∀ h : 0 < m, R[m - 1].1 < k) : put cmpKR R (k, r) = R.take m ++ (k, r) :: R.drop m := by
 have lt : ∀ {a b : KR}, cmpKR a b < 0 ↔ a.1 < b.1 := fun {a b} => by
  unfold cmpKR cmpInt
  constructor
  · intro h; split at h
    · assumption
    · split at h <;> omega
  · intro h; rw [if_pos h]; omega
 have g1 : ∀ i, (h : i < R.length) → i < m → cmpKR R[i] (k, r) < 0 := fun i h hi => by
  rw [lt]
  have h3 := h2 (by omega)
  rcases Nat.lt_or_ge i (m - 1) with h4 | h4
  · have := lt.1 (hs.lt h4 (by omega))
    show R[i].1 < k
    omega
  · obtain rfl : i = m - 1 := by omega
    exact h3
 have g2 : ∀ i, (h : i < R.length) → m ≤ i → 0 < cmpKR R[i] (k, r) := fun i h hi => by
  rw [← tc_kr.symm, lt]; exact h1 i h hi
 rw [put_eq tc_kr hs (at_none g1 g2).2.2, rank_none hm g1 g2]
set_option maxRecDepth 100000 in
set_option maxHeartbeats 64000000 in
theorem rwalk_is (n : Nat) {l : List RecordT} (lv : Int) {nums : List Int} (A1 A2 : Option Addr) (c1 c2 : Nat) {D : Nat → Prop} (w : World) (hi : RowRd w 1 Int.cells1 A1 c1 nums) (hr : RowR (repRecordT n) D w A2 c2 l) (hD : ∀ k, D k → k < w.heap.size) (hl : l.length ≤ 20 ∧ ∀ r ∈ l, SmR n r ∧ r.elems.length ≤ 20) (hn : nums.length ≤ 100) :
 Calls Try.prog 14 #[.int .i64 lv, .slice A1 nums.length c1, .slice A2 l.length c2] w (TrailPost n (trailL l lv nums) w) := by
 obtain ⟨i0, hi0, hz0, hz1, hz2⟩ := infp inf_Int
 obtain ⟨j0, hj0, hy0, hy1, hy2⟩ := infp inf_Record
 obtain ⟨iy0, hy0_, hy1_, hy2_, hy3_⟩ := infp inf_Sym
 obtain ⟨ih0, hh0_, hh1_, hh2_, hh3_⟩ := infp inf_Hole
 obtain ⟨ia0, hp0_, hp1_, hp2_, hp3_⟩ := infp inf_Apart
 have hcost := light_cost (l := l) hl.1 (fun r hr => (hl.2 r hr).2) lv nums hn
 obtain ⟨FF, hFF⟩ : ∃ FF, FF = reach (lookR l) lv (l.map RecordT.num) nums [] := ⟨_, rfl⟩
 obtain ⟨T, hT⟩ : ∃ T, T = trailL l lv nums := ⟨_, rfl⟩
 have HTT := Lib.hid (show T = trailV (lookR l) lv FF by rw [hT, hFF]; rfl)
 rw [← hT]
 rw [← hFF] at hcost
 have HCOST := Lib.hid hcost
 have HFF := Lib.hid hFF
 have HI := Lib.hid hi
 have HR := Lib.hid hr
 have HDD := Lib.hid hD
 have HSM := Lib.hid (lookR_all (l := l) (smR_zero n) (fun r hr => (hl.2 r hr).1))
 have HE20 := Lib.hid (lookR_all (l := l) (Q := fun r => r.elems.length ≤ 20) (by simp [zRec]) (fun r hr => (hl.2 r hr).2))
 have HKEYS := Lib.hid (lookR_keys l)
 have hic := hi.cap
 have hrc := hr.cap
 clear hcost hFF hi hr hD hl hT
 go_enter Try.func14, Try.ntmps14
 go_upto_region 1 with fail
 obtain ⟨W1, hW1⟩ : ∃ W1, W1 = w.alloc (.cells #[.slice none 0 0, .slice none 0 0, .slice none 0 0, .slice none 0 0, .int .i64 0, .int .i64 0] 37) := ⟨_, rfl⟩
 have hB1 : Below w.heap.size w W1 := by rw [hW1]; exact (Below.refl _ _).alloc (Nat.le_refl _) _
 have hX1 : Blk W1 w.heap.size 37 #[.slice none 0 0, .slice none 0 0, .slice none 0 0, .slice none 0 0, .int .i64 0, .int .i64 0] := by rw [hW1]; exact Blk.new _ _ _
 have hz1' : W1.heap.size = w.heap.size + 1 := by rw [hW1]; simp
 rw [← hW1]
 clear hW1
 have HB1 := Lib.hid hB1
 have HX1 := Lib.hid hX1
 have HZ1 := Lib.hid hz1'
 clear hB1 hX1 hz1'
 go_wp2_with fail
 go_loopw [7, 10] (fun v s wr => ∃ (i : Nat) (p : List Int) (A : Option Addr) (cp : Nat), s = .int .i64 i ∧ v = .slice A p.length cp ∧ i ≤ nums.length ∧ p = nums.take i ∧ wr.ownsRow 0 3 1 (.slice A p.length cp) p.length (p.flatMap Int.cells1) ∧ (∀ k, (Value.slice A p.length cp).ownBlock = some k → W1.heap.size ≤ k) ∧ Below W1.heap.size W1 wr) (fun v s wr => nums.length - (intOf s).toNat)
 case atStart => exact ⟨0, [], none, 0, rfl, rfl, Nat.zero_le _, rfl, owns_nilC _ _ _, (fun k hk => by cases hk), Below.refl _ _⟩
 case round =>
  obtain ⟨i, p, A, cp, rfl, rfl, hi, hp, ho, hA, hB⟩ := hrel
  have HP := Lib.hid hp
  have HO := Lib.hid ho
  have HA := Lib.hid hA
  have HB := Lib.hid hB
  clear hp ho hA hB
  by_cases hlt : i < nums.length
  · obtain ⟨b, off, hA0, hb, hc⟩ := int_at (HI.out.new_ (HB1.out.trans (HB.out.mono (by have := HZ1.out; omega)))) hlt
    subst hA0
    obtain ⟨x, hx⟩ : ∃ x, x = nums[i] := ⟨_, rfl⟩
    rw [← hx] at hc
    have HPN := Lib.hid (show p ++ [x] = nums.take (i + 1) by rw [HP.out, hx]; exact take_snoc hlt)
    have hpl : p.length ≤ 100 := by rw [HP.out]; exact Nat.le_trans (List.length_take_le _ _) (by omega)
    have j1 : (0 : Int) ≤ (i : Int) := by omega
    have j2 : (i : Int) < (nums.length : Int) := by omega
    obtain ⟨Y9, hY9⟩ : ∃ Y9, Y9 = wr.alloc (.cells #[.int .i64 x] 3) := ⟨_, rfl⟩
    have hb9 : Below wr.heap.size wr Y9 := by rw [hY9]; exact (Below.refl _ _).alloc (Nat.le_refl _) _
    have HY9 := Lib.hid hY9
    have HB9 := Lib.hid (HB.out.trans (hb9.mono HB.out.size))
    have HO9 := Lib.hid (ownsRow_new HO.out hb9)
    have HW9 := Lib.hid (show 0 < 1 → ∃ ad, (some (⟨wr.heap.size, 0, none⟩ : Addr)) = some ad ∧ ∀ j u, ([x].flatMap Int.cells1)[j]? = some u → Y9.cell? (ad.add j) = some u from fun _ => ⟨_, rfl, by rw [hY9]; exact World.news_of_block (heap_alloc_new _ _)⟩)
    clear hx hY9 hb9
    go_wp2_with (at_builtin; rw [← HY9.out]; refine wpList_append_src Y9 rfl (.tmp 28) (.tmp 33) 22 rfl 3 i0 _ 1 8 Try.underlying22 hi0 hz0 hz1 hz2 rfl (by omega) (.slice A p.length cp) p.length (p.flatMap Int.cells1) rfl HO9.out (some ⟨wr.heap.size, 0, none⟩) 1 1 ([x].flatMap Int.cells1) rfl rfl HW9.out (one_Int _) (by unfold maxLen; omega) (by omega) ?_; intro v1 w4 hown1 hg1 hnil1 hat1; obtain ⟨A', c', rfl, ho4, hA4, hb4⟩ := grown_any (ys := [x]) hown1 hg1 hat1 HA.out HB9.out.size; have HO4 := Lib.hid ho4; have HA4 := Lib.hid hA4; have HB4 := Lib.hid (HB9.out.trans hb4); clear hown1 hg1 hnil1 hat1 ho4 hA4 hb4)
    go_roundw
    case rel => exact ⟨i + 1, p ++ [x], A', c', by go_num, by simp, by omega, HPN.out, HO4.out, HA4.out, HB4.out⟩
    case measure => simp [intOf] <;> omega
  · obtain rfl : i = nums.length := by omega
    obtain rfl : p = nums := by rw [HP.out, List.take_length]
    have HR1 := Lib.hid (show R1 n W1.heap.size D W1 p [] [] [] (.slice A p.length cp) (.slice none 0 0) (.slice none 0 0) (.slice none 0 0) wr from
     ⟨QRow.of_own HO.out, owns_nilC _ _ _, owns_nilC _ _ _, ⟨[], owns_nilC _ _ _, .nil⟩, fun k hk => ⟨HA.out k hk, own_lt HO.out k hk⟩, (fun k hk => by cases hk), (fun k hk => by cases hk), (fun k hk => by cases hk), (fun k _ => ⟨(fun e => by cases e), (fun e => by cases e), (fun e => by cases e)⟩), (fun k hk => by cases hk), fun k hk => by have := HDD.out k hk; have := HZ1.out; omega, HB.out⟩)
    clear HO HA HP
    go_wp2_with fail
    go_loopg [7, 8, 9, 11, 12] (cost (lookR l) lv (l.map RecordT.num) p []) (fun gn v7 v8 v9 lost v12 wr => ∃ (todo done : List Int), lost = .int .i64 (lostOf (lookR l) done : Nat) ∧ R1 n W1.heap.size D W1 todo done ((recsOf (lookR l) done).map (·.1)) (recsOf (lookR l) done) v7 v8 v9 v12 wr ∧ reach (lookR l) lv (l.map RecordT.num) todo done = FF ∧ gn = cost (lookR l) lv (l.map RecordT.num) todo done ∧ done.length + gn ≤ 100000)
    case atStart => exact ⟨p, [], rfl, HR1.out, HFF.out.symm, rfl, by simpa using HCOST.out.1⟩
    case round =>
     clear HR1 HB
     obtain ⟨todo, done, rfl, hr1, hre, hgn, hlen⟩ := hrel
     obtain ⟨R, hR⟩ : ∃ R, R = recsOf (lookR l) done := ⟨_, rfl⟩
     obtain ⟨ask, has⟩ : ∃ ask, ask = R.map (·.1) := ⟨_, rfl⟩
     rw [← hR, ← has] at hr1
     have HRR := Lib.hid hR
     have HAS := Lib.hid has
     clear hR has
     obtain ⟨A7, c7, rfl, hc71, hc72⟩ := hr1.q.form
     obtain ⟨A8, c8, rfl, _⟩ := own_form2 hr1.d
     obtain ⟨A9, c9, rfl, hc91, hc92, _⟩ := own_form2 hr1.a
     obtain ⟨mm, hmo, hme⟩ := hr1.r
     obtain ⟨A12, c12, rfl, hc121, hc122, _⟩ := own_form2 hmo
     have hml := hme.length
     have HR1 := Lib.hid hr1
     have HRE := Lib.hid hre
     have HGN := Lib.hid hgn
     have HLEN := Lib.hid hlen
     have HMO := Lib.hid hmo
     have HME := Lib.hid hme
     have HML := Lib.hid hml
     have hB1w : W1.heap.size ≤ wr.heap.size := hr1.bel.size
     clear hr1 hre hgn hlen hmo hme hml
     cases todo with
     | nil =>
       have HDF := Lib.hid (show done = FF by have := HRE.out; rwa [reach_nil] at this)
       have HR5 := Lib.hid (show R.length ≤ 500 by have := HCOST.out.2; rw [← HDF.out, ← HRR.out] at this; exact this)
       have HPR := Lib.hid (show ∀ p ∈ R, SmR n p.2 ∧ p.2.elems.length ≤ 20 from fun p hp => by
        rw [HRR.out] at hp
        obtain ⟨_, _, e⟩ := mem_recs hp
        rw [e]
        exact ⟨HSM.out p.1, HE20.out p.1⟩)
       obtain ⟨lo, hlo⟩ : ∃ lo, lo = lostOf (lookR l) done := ⟨_, rfl⟩
       have hlo1 : lo ≤ 100000 := by
        have h1 : lostOf (lookR l) done ≤ done.length := List.length_filter_le _ _
        have h2 := HLEN.out
        omega
       have hml5 : mm.length ≤ 500 := by have := HR5.out; have := HML.out; omega
       rw [← hlo]
       have HLO := Lib.hid hlo
       obtain ⟨W2, hW2⟩ : ∃ W2, W2 = wr.alloc (.cells #[.slice none 0 0, .slice none 0 0, .slice none 0 0, .slice none 0 0, .int .i64 (mm.length : Int), .int .i64 (lo : Int)] 37) := ⟨_, rfl⟩
       have hb2 : Below wr.heap.size wr W2 := by rw [hW2]; exact (Below.refl _ _).alloc (Nat.le_refl _) _
       have H2 := Lib.hid (show R2 n W1.heap.size D W1 wr.heap.size (mm.length : Int) (lo : Int) R mm (.slice A12 mm.length c12) (fun _ => False) none 0 [] (.slice none 0 0) [] (.slice none 0 0) [] (.slice none 0 0) [] W2 from
        ⟨by rw [hW2]; exact Blk.new _ _ _, RowR.nil _ _ _, ⟨[], owns_nilC _ _ _, .nil⟩, owns_nilC _ _ _, owns_nilC _ _ _, ownsRow_new HMO.out hb2, HME.out.imp (fun _ _ hx => hx.keep (D' := D) hb2.size (fun j hj hl => ⟨hj, hb2.block j hl⟩)), hB1w, (fun k hk => by cases hk), (fun k hk => by cases hk), (fun k hk => by cases hk), (fun k hk => hk.elim), HR1.out.dB, HR1.out.bel.trans (hb2.mono hB1w)⟩)
       clear hlo hc71 hc72 hc91 hc92 hb2 HRE HLEN HGN HMO HME HR1 HCOST HSM HE20
       go_upto_region 27 with fail
       rw [← hW2]
       clear hW2
       generalize wr.heap.size = tb at H2 ⊢
       clear hB1w
       go_wp2_with fail
       go_loopw [19] (fun s wq => ∃ (i : Nat) (E : Nat → Prop) (Ae : Option Addr) (ce : Nat) (vh va vn : Value), s = .int .i64 i ∧ i ≤ mm.length ∧ R2 n W1.heap.size D W1 tb (mm.length : Int) (lo : Int) R mm (.slice A12 mm.length c12) E Ae ce (groundsOf lv (R.take i)) vh ((R.take i).flatMap fun p => p.2.holes) va ((R.take i).flatMap fun p => p.2.aparts) vn (newsOf (R.take i)) wq) (fun s wq => mm.length - (intOf s).toNat)
       case atStart => exact ⟨0, _, none, 0, _, _, _, rfl, Nat.zero_le _, H2.out⟩
       case round =>
        clear H2
        obtain ⟨i, E, Ae, ce, vh, va, vn, rfl, hi, h2⟩ := hrel
        by_cases hlt : i < mm.length
        · have hiR : i < R.length := by have := HML.out; omega
          obtain ⟨x, hx⟩ : ∃ x, mm[i] = x := ⟨_, rfl⟩
          obtain ⟨k0, r, hp⟩ : ∃ k0 r, R[i] = (k0, r) := ⟨_, _, rfl⟩
          obtain ⟨g, off, hA, hg, z2, z3, z4, z5, hra⟩ := h2.at_ hlt hiR hx hp
          subst hA
          have HP := Lib.hid hp
          have HXM := Lib.hid hx
          have HSR := Lib.hid (HPR.out (k0, r) (by rw [← hp]; exact List.getElem_mem hiR))
          have hts : (R.take i).length ≤ 500 := by have := HR5.out; rw [List.length_take]; omega
          have hNl0 : (newsOf (R.take i)).length ≤ 1000 * 500 := Nat.le_trans (len_news (fun p hp => (HPR.out p (List.mem_of_mem_take hp)).1.2.2.2.1)) (Nat.mul_le_mul_left _ hts)
          have hHl0 : ((R.take i).flatMap fun p => p.2.holes).length ≤ 1000 * 500 := Nat.le_trans (flat_le (fun p : KR => p.2.holes) 1000 _ (fun p hp => (HPR.out p (List.mem_of_mem_take hp)).1.2.1)) (Nat.mul_le_mul_left _ hts)
          have hAl0 : ((R.take i).flatMap fun p => p.2.aparts).length ≤ 1000 * 500 := Nat.le_trans (flat_le (fun p : KR => p.2.aparts) 1000 _ (fun p hp => (HPR.out p (List.mem_of_mem_take hp)).1.2.2.1)) (Nat.mul_le_mul_left _ hts)
          have hEl0 : (groundsOf lv (R.take i)).length ≤ 20 * 500 := Nat.le_trans (grounds_len (fun p hp => (HPR.out p (List.mem_of_mem_take hp)).2)) (Nat.mul_le_mul_left _ hts)
          obtain ⟨es, hes⟩ : ∃ es, es = groundsOf lv (R.take i) := ⟨_, rfl⟩
          obtain ⟨hs, hhs⟩ : ∃ hs, hs = (R.take i).flatMap fun p => p.2.holes := ⟨_, rfl⟩
          obtain ⟨ap, hap⟩ : ∃ ap, ap = (R.take i).flatMap fun p => p.2.aparts := ⟨_, rfl⟩
          obtain ⟨nw, hnw⟩ : ∃ nw, nw = newsOf (R.take i) := ⟨_, rfl⟩
          rw [← hes, ← hhs, ← hap, ← hnw] at h2
          rw [← hes] at hEl0
          rw [← hhs] at hHl0
          rw [← hap] at hAl0
          rw [← hnw] at hNl0
          have HES := Lib.hid hes
          have HHS := Lib.hid hhs
          have HAP := Lib.hid hap
          have HNW := Lib.hid hnw
          have H2 := Lib.hid h2
          have k1 : (0 : Int) ≤ (i : Int) := by omega
          have k2 : (i : Int) < (mm.length : Int) := by omega
          have hcn := hra.2.2.2.cap
          have hce := hra.1.cap
          have hsr1 := HSR.out.1.1
          have hsr2 := HSR.out.1.2.1
          have hsr3 := HSR.out.1.2.2.1
          have hsr4 := HSR.out.1.2.2.2.1
          clear h2 hp hx hes hhs hap hnw z2 z3 z4 hra hts
          go_wp2_with fail
          clear z5 hg
          go_loopw [20] (fun s wq => ∃ (j : Nat) (vn : Value), s = .int .i64 j ∧ j ≤ r.news.length ∧ R2 n W1.heap.size D W1 tb (mm.length : Int) (lo : Int) R mm (.slice (some ⟨g, off, none⟩) mm.length c12) E Ae ce es vh hs va ap vn ((r.news.take j).foldl once nw) wq) (fun s wq => r.news.length - (intOf s).toNat)
          case atStart => exact ⟨0, vn, rfl, Nat.zero_le _, H2.out⟩
          case round =>
           clear H2
           obtain ⟨j, vn, rfl, hj, h2⟩ := hrel
           have hB2 : W1.heap.size ≤ wr.heap.size := h2.bel.size
           by_cases hlt2 : j < r.news.length
           · obtain ⟨N, hN⟩ : ∃ N, N = (r.news.take j).foldl once nw := ⟨_, rfl⟩
             rw [← hN] at h2
             have hNl : N.length ≤ 501000 := by
              have := once_len (r.news.take j) nw
              rw [← hN, List.length_take] at this
              omega
             obtain ⟨s, hs_⟩ : ∃ s, s = r.news[j] := ⟨_, rfl⟩
             have HS := Lib.hid hs_
             have HN := Lib.hid hN
             have HFO := Lib.hid (show (r.news.take (j + 1)).foldl once nw = once N s by rw [hN, hs_, ← take_snoc hlt2, List.foldl_append]; rfl)
             obtain ⟨An, cn, hv, hcn1, hcn2, _⟩ := own_form2 h2.nn
             subst hv
             obtain ⟨hh, hhe⟩ : ∃ b, b = has cmpSym N s := ⟨_, rfl⟩
             have HH := Lib.hid hhe
             have H2 := Lib.hid h2
             have HROW := Lib.hid (show RowRd wr 3 Sym.cells An cn N from ownsRow_rd Sym.cells_length h2.nn)
             have l1 : (0 : Int) ≤ (j : Int) := by omega
             have l2 : (j : Int) < (r.news.length : Int) := by omega
             clear h2 hN hs_ hhe
             obtain ⟨g_, off_, hA_, hg, z2, z3, z4, z5, hra⟩ := (H2.out).at_ hlt hiR HXM.out HP.out
             injection hA_ with hA_
             injection hA_ with eg_ eo_
             subst eg_
             subst eo_
             obtain ⟨t0, t1, t2, t3, t4, t5⟩ := (H2.out).blk.c6
             have htl := (H2.out).blk.lt
             obtain ⟨gs, os, hA4, hgs, s0, s1, s2⟩ := sym_at (RowR.rd (hs := Sym.cells_length) hra.2.2.2) hlt2
             rw [hA4] at z5
             rw [← HS.out] at s0 s1 s2
             go_upto_region 33 with fail
             refine wp_region_E (fun w9 => Below wr.heap.size wr w9) [(0, 0), (1, 1), (2, 0), (3, 0), (4, 0), (5, 0), (6, 1), (7, 0), (8, 0), (9, 1), (10, 2), (11, 0)] (by kernel_rfl) (by kernel_rfl) (fun KK hKK => ?_)
             simp only [beside, List.filterMap_cons, List.filterMap_nil, List.getElem?_toArray, List.getElem?_cons_zero, List.getElem?_cons_succ, Option.map_some]
             repeat ((first | (refine wpX_w ?_ (Or.inl ⟨by rfl, fun w9 => ?_⟩) ?_; rotate_left 1; go_simp; with_reducible rfl) | (refine wpX_l ?_ (((Below.refl _ _).drew)) (Or.inl ⟨by rfl, fun w9 hw9 => ?_⟩) ?_; rotate_left 1; obtain ⟨hc9, hf9⟩ := bcell hw9; go_simp; with_reducible rfl) | refine wpX_w undef (Or.inr ⟨by rfl, rfl⟩) ?_ | refine wpX_l undef (((Below.refl _ _).drew)) (Or.inr ⟨by rfl, rfl⟩) ?_); go_frame)
             refine wpX_es (fun K9_ hK9_ => ?_)
             go_simp
             refine (has_is An cn N s _ (HROW.out.new_ ((Below.refl _ _).drew))).mono ?_
             rintro e wa ⟨rfl, hba⟩
             rw [← HH.out]
             have HBa := Lib.hid (show Below wr.heap.size wr wa from ((Below.refl _ _).drew).trans hba)
             clear hba
             refine hK9_ _ _ HBa.out ?_
             clear hK9_ K9_
             repeat ((first | (refine wpX_w ?_ (Or.inl ⟨by rfl, fun w9 => ?_⟩) ?_; rotate_left 1; go_simp; with_reducible rfl) | (refine wpX_l ?_ (HBa.out) (Or.inl ⟨by rfl, fun w9 hw9 => ?_⟩) ?_; rotate_left 1; obtain ⟨hc9, hf9⟩ := bcell hw9; go_simp; with_reducible rfl) | refine wpX_w undef (Or.inr ⟨by rfl, rfl⟩) ?_ | refine wpX_l undef (HBa.out) (Or.inr ⟨by rfl, rfl⟩) ?_); go_frame)
             refine wpX_nil ?_
             simp only [OnlyN_normal]
             refine hKK _ _ ?_
             clear hKK KK
             clear t0 t1 t2 t3 t4 t5 htl z2 z3 z4 z5 hg hra hA4 hgs s0 s1 s2
             have H3 := Lib.hid (H2.out.new_ HBa.out hB2)
             have hB3 : W1.heap.size ≤ wa.heap.size := H3.out.bel.size
             clear H2 HROW hB2
             cases hh
             · have HIN := Lib.hid (show s ∉ N from fun h => by have := HH.out; rw [has_sym, decide_eq_true h] at this; cases this)
               obtain ⟨g_, off_, hA_, hg, z2, z3, z4, z5, hra⟩ := (H3.out).at_ hlt hiR HXM.out HP.out
               injection hA_ with hA_
               injection hA_ with eg_ eo_
               subst eg_
               subst eo_
               obtain ⟨t0, t1, t2, t3, t4, t5⟩ := (H3.out).blk.c6
               have htl := (H3.out).blk.lt
               obtain ⟨gs, os, hA4, hgs, s0, s1, s2⟩ := sym_at (RowR.rd (hs := Sym.cells_length) hra.2.2.2) hlt2
               rw [hA4] at z5
               rw [← HS.out] at s0 s1 s2
               go_upto_region 34 with fail
               refine wp_region_E (fun w9 => Below wa.heap.size wa w9) [(0, 0), (1, 1), (2, 0), (3, 0), (4, 0), (5, 0), (6, 1), (7, 0), (8, 0), (9, 1), (10, 2), (11, 2), (12, 0), (13, 2)] (by kernel_rfl) (by kernel_rfl) (fun KK hKK => ?_)
               simp only [beside, List.filterMap_cons, List.filterMap_nil, List.getElem?_toArray, List.getElem?_cons_zero, List.getElem?_cons_succ, Option.map_some]
               repeat ((first | (refine wpX_w ?_ (Or.inl ⟨by rfl, fun w9 => ?_⟩) ?_; rotate_left 1; go_simp; with_reducible rfl) | (refine wpX_l ?_ (((Below.refl _ _).drew)) (Or.inl ⟨by rfl, fun w9 hw9 => ?_⟩) ?_; rotate_left 1; obtain ⟨hc9, hf9⟩ := bcell hw9; go_simp; with_reducible rfl) | refine wpX_w undef (Or.inr ⟨by rfl, rfl⟩) ?_ | refine wpX_l undef (((Below.refl _ _).drew)) (Or.inr ⟨by rfl, rfl⟩) ?_); go_frame)
               refine wpX_es (fun K9_ hK9_ => ?_)
               go_simp
               obtain ⟨wb, hwb⟩ : ∃ wb, wb = (wa.alloc (.cells #[.int .i64 s.kind, .string s.text, .int .i64 s.n] 51)).drew := ⟨_, rfl⟩
               have hbb : Below wa.heap.size wa wb := by rw [hwb]; exact Below.drew ((Below.refl _ _).alloc (Nat.le_refl _) _)
               have HXL := Lib.hid (show [s].flatMap Sym.cells = [.int .i64 s.kind, .string s.text, .int .i64 s.n] from rfl)
               have HOb := Lib.hid (show wb.ownsRow 0 51 3 (.slice (some ⟨wa.heap.size, 0, none⟩) [s].length 1) [s].length ([s].flatMap Sym.cells) by
                rw [hwb, HXL.out]; exact ownsRow_new (own_one [.int .i64 s.kind, .string s.text, .int .i64 s.n] rfl) ((Below.refl _ _).drew))
               have HBb := Lib.hid hbb
               rw [← hwb]
               clear hwb hbb
               refine hK9_ _ _ HBb.out ?_
               clear hK9_ K9_
               refine wpX_e (by kernel_rfl) (fun K9_ hK9_ => ?_)
               refine step_append_src _ rfl _ _ 30 rfl 51 iy0 _ 3 32 Try.underlying30 hy0_ hy1_ hy2_ hy3_ rfl (by omega) (.slice An N.length cn) N.length (N.flatMap Sym.cells) rfl (ownsRow_new H3.out.nn HBb.out) (some ⟨wa.heap.size, 0, none⟩) 1 1 ([s].flatMap Sym.cells) rfl rfl ((ownsRow_rd Sym.cells_length HOb.out).news Sym.cells_length (by simp)) (one_Sym _) (by unfold maxLen; omega) (by omega) ?_
               intro vb wc hown1 hg1 hnil1 hat1
               obtain ⟨N2, hN2⟩ : ∃ N2, N2 = N ++ [s] := ⟨_, rfl⟩
               have hown2 : wc.ownsRow 0 51 3 vb N2.length (N2.flatMap Sym.cells) := by rw [hN2, List.length_append, List.flatMap_append]; exact hown1
               obtain ⟨An2, cn2, rfl, _⟩ := own_form2 hown2
               have hB4 : W1.heap.size ≤ wb.heap.size := Nat.le_trans hB3 HBb.out.size
               have H4 := Lib.hid ((H3.out.new_ HBb.out hB3).news_ hB4 hown2 hg1 hat1)
               have hblk := (H3.out.new_ HBb.out hB3).blk.grown hg1 (H3.out.new_ HBb.out hB3).nth.2.2.1
               have u3 := (hblk.cell 3).trans rfl
               have f3 := hblk.frozen 3
               have hul := hblk.lt
               have HN2 := Lib.hid hN2
               clear hown1 hown2 hg1 hnil1 hat1 hblk hN2 hB4
               refine hK9_ _ _ ?_
               clear hK9_ K9_
               repeat ((first | (refine wpX_w ?_ (Or.inl ⟨by rfl, fun w9 => ?_⟩) ?_; rotate_left 1; go_simp; with_reducible rfl) | (refine wpX_l ?_ (HBb.out) (Or.inl ⟨by rfl, fun w9 hw9 => ?_⟩) ?_; rotate_left 1; obtain ⟨hc9, hf9⟩ := bcell hw9; go_simp; with_reducible rfl) | refine wpX_w undef (Or.inr ⟨by rfl, rfl⟩) ?_ | refine wpX_l undef (HBb.out) (Or.inr ⟨by rfl, rfl⟩) ?_); go_frame)
               refine wpX_e (by kernel_rfl) (fun K9_ hK9_ => ?_)
               go_simp
               refine hK9_ _ _ ?_
               clear hK9_ K9_
               refine wpX_nil ?_
               simp only [OnlyN_normal]
               refine hKK _ _ ?_
               clear hKK KK
               clear t0 t1 t2 t3 t4 t5 htl z2 z3 z4 z5 hg hra hA4 hgs s0 s1 s2 u3 f3 hul HOb
               go_wp2_with fail
               go_roundw
               case rel => exact ⟨j + 1, _, by go_num, by omega, by rw [HFO.out, once, if_neg HIN.out, ← HN2.out]; exact H4.out⟩
               case measure => simp [intOf]; omega
             · have HIN := Lib.hid (show s ∈ N by have := HH.out; rw [has_sym] at this; exact of_decide_eq_true this.symm)
               go_wp2_with fail
               go_roundw
               case rel => exact ⟨j + 1, _, by go_num, by omega, by rw [HFO.out, once, if_pos HIN.out]; exact H3.out⟩
               case measure => simp [intOf]; omega
           · obtain rfl : j = r.news.length := by omega
             rw [List.take_length] at h2
             obtain ⟨nw2, hnw2⟩ : ∃ nw2, nw2 = r.news.foldl once nw := ⟨_, rfl⟩
             rw [← hnw2] at h2
             have HNW2 := Lib.hid hnw2
             obtain ⟨xs, hx, hxr⟩ := h2.h
             obtain ⟨Ah, ch, hv, hch1, hch2, _⟩ := own_form2 hx
             subst hv
             have hxl : xs.length ≤ 501000 := by have := hxr.length; omega
             have HX := Lib.hid hx
             have HXR := Lib.hid hxr
             have H2 := Lib.hid h2
             clear h2 hnw2 hx hxr
             obtain ⟨g_, off_, hA_, hg, z2, z3, z4, z5, hra⟩ := (H2.out).at_ hlt hiR HXM.out HP.out
             injection hA_ with hA_
             injection hA_ with eg_ eo_
             subst eg_
             subst eo_
             obtain ⟨t0, t1, t2, t3, t4, t5⟩ := (H2.out).blk.c6
             have htl := (H2.out).blk.lt
             have t1 := (H2.out.blk.cell 1).trans rfl
             obtain ⟨ys, hyr, hyo⟩ := raw_holes hra.2.1
             have hyl := hyr.length
             have hyl2 : ys.length ≤ 1000 := by omega
             rw [hyl] at z3
             have HYR := Lib.hid hyr
             have HYO := Lib.hid hyo
             clear hyr hyo
             go_upto_region 35 with fail
             refine wp_region_E (fun w9 => Below wr.heap.size wr w9) [(0, 0), (1, 1), (2, 0), (3, 0), (4, 0), (5, 0), (6, 1), (7, 2), (8, 0), (9, 2)] (by kernel_rfl) (by kernel_rfl) (fun KK hKK => ?_)
             simp only [beside, List.filterMap_cons, List.filterMap_nil, List.getElem?_toArray, List.getElem?_cons_zero, List.getElem?_cons_succ, Option.map_some]
             repeat ((first | (refine wpX_w ?_ (Or.inl ⟨by rfl, fun w9 => ?_⟩) ?_; rotate_left 1; go_simp; with_reducible rfl) | (refine wpX_l ?_ (((Below.refl _ _).drew)) (Or.inl ⟨by rfl, fun w9 hw9 => ?_⟩) ?_; rotate_left 1; obtain ⟨hc9, hf9⟩ := bcell hw9; go_simp; with_reducible rfl) | refine wpX_w undef (Or.inr ⟨by rfl, rfl⟩) ?_ | refine wpX_l undef (((Below.refl _ _).drew)) (Or.inr ⟨by rfl, rfl⟩) ?_); go_frame)
             refine wpX_e (by kernel_rfl) (fun K9_ hK9_ => ?_)
             refine step_append_src _ rfl _ _ 28 rfl 76 ih0 _ 8 136 Try.underlying28 hh0_ hh1_ hh2_ hh3_ rfl (by omega) (.slice Ah xs.length ch) xs.length (xs.flatMap (fun v : V8 => v.1)) rfl (ownsRow_new HX.out ((Below.refl _ _).drew)) x.h.A ys.length x.h.c (ys.flatMap (fun v : V8 => v.1)) rfl (flat_length v8_len _) ((HYO.out.new_ ((Below.refl _ _).drew)).news v8_len (by omega)) (v8_one _) (by unfold maxLen; omega) (by omega) ?_
             intro vb wc hown1 hg1 hnil1 hat1
             obtain ⟨xs2, hxs2⟩ : ∃ xs2, xs2 = xs ++ ys := ⟨_, rfl⟩
             have hown2 : wc.ownsRow 0 76 8 vb xs2.length (xs2.flatMap (fun v : V8 => v.1)) := by rw [hxs2, List.length_append, List.flatMap_append]; exact hown1
             obtain ⟨Ah2, ch2, rfl, _⟩ := own_form2 hown2
             have hdr : Below wr.heap.size wr wr.drew := (Below.refl _ _).drew
             have h3 := H2.out.new_ hdr hB2
             have hrl := H2.out.relH (M := fun _ => False) (Fr.of_new hdr) (fun _ e => e.elim) (HXR.out.append HYR.out)
             rw [← hxs2] at hrl
             have H4 := Lib.hid (h3.holes_ (l' := hs ++ r.holes) hB2 hrl hown2 hg1 hat1)
             have hblk := h3.blk.grown hg1 h3.nth.1
             have u1 := (hblk.cell 1).trans rfl
             have f1 := hblk.frozen 1
             have hul := hblk.lt
             clear hown1 hown2 hg1 hnil1 hat1 hblk hxs2 hrl h3 hdr
             refine hK9_ _ _ ?_
             clear hK9_ K9_
             repeat ((first | (refine wpX_w ?_ (Or.inl ⟨by rfl, fun w9 => ?_⟩) ?_; rotate_left 1; go_simp; with_reducible rfl) | (refine wpX_l ?_ (((Below.refl _ _).drew)) (Or.inl ⟨by rfl, fun w9 hw9 => ?_⟩) ?_; rotate_left 1; obtain ⟨hc9, hf9⟩ := bcell hw9; go_simp; with_reducible rfl) | refine wpX_w undef (Or.inr ⟨by rfl, rfl⟩) ?_ | refine wpX_l undef (((Below.refl _ _).drew)) (Or.inr ⟨by rfl, rfl⟩) ?_); go_frame)
             refine wpX_e (by kernel_rfl) (fun K9_ hK9_ => ?_)
             go_simp
             refine hK9_ _ _ ?_
             clear hK9_ K9_
             refine wpX_nil ?_
             simp only [OnlyN_normal]
             refine hKK _ _ ?_
             clear hKK KK
             clear t0 t1 t2 t3 t4 t5 htl z2 z3 z4 z5 hg hra u1 f1 hul HX HXR HYR HYO H2 hB2 hyl hyl2 hxl hch1 hch2
             obtain ⟨Y, hY⟩ : ∃ Y, Y = wc.setCell ⟨tb, 1, none⟩ (.slice Ah2 xs2.length ch2) := ⟨_, rfl⟩
             rw [← hY] at H4 ⊢
             clear hY
             have hB2 : W1.heap.size ≤ Y.heap.size := H4.out.bel.size
             obtain ⟨Aa, ca, hv, hca1, hca2, _⟩ := own_form2 H4.out.a
             subst hv
             obtain ⟨g_, off_, hA_, hg, z2, z3, z4, z5, hra⟩ := (H4.out).at_ hlt hiR HXM.out HP.out
             injection hA_ with hA_
             injection hA_ with eg_ eo_
             subst eg_
             subst eo_
             obtain ⟨t0, t1, t2, t3, t4, t5⟩ := (H4.out).blk.c6
             have htl := (H4.out).blk.lt
             have HYO := Lib.hid (show RowRd Y 7 ApartT.cells x.a.A x.a.c r.aparts from RowR.rd (hs := ApartT.cells_length) hra.2.2.1)
             go_upto_region 36 with fail
             refine wp_region_E (fun w9 => Below Y.heap.size Y w9) [(0, 0), (1, 1), (2, 0), (3, 0), (4, 0), (5, 0), (6, 1), (7, 2), (8, 0), (9, 2)] (by kernel_rfl) (by kernel_rfl) (fun KK hKK => ?_)
             simp only [beside, List.filterMap_cons, List.filterMap_nil, List.getElem?_toArray, List.getElem?_cons_zero, List.getElem?_cons_succ, Option.map_some]
             repeat ((first | (refine wpX_w ?_ (Or.inl ⟨by rfl, fun w9 => ?_⟩) ?_; rotate_left 1; go_simp; with_reducible rfl) | (refine wpX_l ?_ (((Below.refl _ _).drew)) (Or.inl ⟨by rfl, fun w9 hw9 => ?_⟩) ?_; rotate_left 1; obtain ⟨hc9, hf9⟩ := bcell hw9; go_simp; with_reducible rfl) | refine wpX_w undef (Or.inr ⟨by rfl, rfl⟩) ?_ | refine wpX_l undef (((Below.refl _ _).drew)) (Or.inr ⟨by rfl, rfl⟩) ?_); go_frame)
             refine wpX_e (by kernel_rfl) (fun K9_ hK9_ => ?_)
             refine step_append_src _ rfl _ _ 29 rfl 111 ia0 _ 7 72 Try.underlying29 hp0_ hp1_ hp2_ hp3_ rfl (by omega) (.slice Aa ap.length ca) ap.length (ap.flatMap ApartT.cells) rfl (ownsRow_new H4.out.a ((Below.refl _ _).drew)) x.a.A r.aparts.length x.a.c (r.aparts.flatMap ApartT.cells) rfl (flat_length ApartT.cells_length _) ((HYO.out.new_ ((Below.refl _ _).drew)).news ApartT.cells_length (by omega)) (one_Apart _) (by unfold maxLen; omega) (by omega) ?_
             intro vb wd hown1 hg1 hnil1 hat1
             obtain ⟨ap2, hap2⟩ : ∃ ap2, ap2 = ap ++ r.aparts := ⟨_, rfl⟩
             have hown2 : wd.ownsRow 0 111 7 vb ap2.length (ap2.flatMap ApartT.cells) := by rw [hap2, List.length_append, List.flatMap_append]; exact hown1
             obtain ⟨Aa2, ca2, rfl, _⟩ := own_form2 hown2
             have hdr : Below Y.heap.size Y Y.drew := (Below.refl _ _).drew
             have h3 := H4.out.new_ hdr hB2
             have H5 := Lib.hid (h3.aparts_ hB2 hown2 hg1 hat1)
             have hblk := h3.blk.grown hg1 h3.nth.2.1
             have u2 := (hblk.cell 2).trans rfl
             have f2 := hblk.frozen 2
             have hul := hblk.lt
             have HAP2 := Lib.hid hap2
             clear hown1 hown2 hg1 hnil1 hat1 hblk h3 hdr hap2
             refine hK9_ _ _ ?_
             clear hK9_ K9_
             repeat ((first | (refine wpX_w ?_ (Or.inl ⟨by rfl, fun w9 => ?_⟩) ?_; rotate_left 1; go_simp; with_reducible rfl) | (refine wpX_l ?_ (((Below.refl _ _).drew)) (Or.inl ⟨by rfl, fun w9 hw9 => ?_⟩) ?_; rotate_left 1; obtain ⟨hc9, hf9⟩ := bcell hw9; go_simp; with_reducible rfl) | refine wpX_w undef (Or.inr ⟨by rfl, rfl⟩) ?_ | refine wpX_l undef (((Below.refl _ _).drew)) (Or.inr ⟨by rfl, rfl⟩) ?_); go_frame)
             refine wpX_e (by kernel_rfl) (fun K9_ hK9_ => ?_)
             go_simp
             refine hK9_ _ _ ?_
             clear hK9_ K9_
             refine wpX_nil ?_
             simp only [OnlyN_normal]
             refine hKK _ _ ?_
             clear hKK KK
             clear t0 t1 t2 t3 t4 t5 htl z2 z3 z4 z5 hg hra u2 f2 hul HYO H4 hB2 hca1 hca2
             obtain ⟨Y2, hY2⟩ : ∃ Y2, Y2 = wd.setCell ⟨tb, 2, none⟩ (.slice Aa2 ap2.length ca2) := ⟨_, rfl⟩
             rw [← hY2] at H5 ⊢
             clear hY2
             obtain ⟨g_, off_, hA_, hg, z2, z3, z4, z5, hra⟩ := (H5.out).at_ hlt hiR HXM.out HP.out
             injection hA_ with hA_
             injection hA_ with eg_ eo_
             subst eg_
             subst eo_
             obtain ⟨t0, t1, t2, t3, t4, t5⟩ := (H5.out).blk.c6
             have htl := (H5.out).blk.lt
             clear hra
             go_wp2_with fail
             clear t0 t1 t2 t3 t4 t5 htl z2 z3 z4 z5 hg
             go_loopw [21] (fun s wq => ∃ (j : Nat) (E : Nat → Prop) (Ae : Option Addr) (ce : Nat), s = .int .i64 j ∧ j ≤ r.elems.length ∧ R2 n W1.heap.size D W1 tb (mm.length : Int) (lo : Int) R mm (.slice (some ⟨g, off, none⟩) mm.length c12) E Ae ce (puts cmpTag es (lowsTo lv r.elems j)) (.slice Ah2 xs2.length ch2) (hs ++ r.holes) (.slice Aa2 ap2.length ca2) ap2 vn nw2 wq) (fun s wq => r.elems.length - (intOf s).toNat)
             case atStart => exact ⟨0, E, Ae, ce, rfl, Nat.zero_le _, by rw [lowsTo_zero]; exact H5.out⟩
             case round =>
              clear H5
              obtain ⟨j, E, Ae, ce, rfl, hj, h2⟩ := hrel
              have hB2 : W1.heap.size ≤ wr.heap.size := h2.bel.size
              have H2 := Lib.hid h2
              clear h2
              by_cases hlt2 : j < r.elems.length
              · obtain ⟨es2, hes2⟩ : ∃ es2, es2 = puts cmpTag es (lowsTo lv r.elems j) := ⟨_, rfl⟩
                have hel : es2.length ≤ 20000 := by
                 have h1 := length_puts_le tc_tag (lowsTo lv r.elems j) (l := es) (by rw [HES.out]; exact srt_grounds _ _)
                 have h2 := lowsTo_len lv r.elems j
                 rw [← hes2] at h1
                 omega
                have HSR2 := Lib.hid (show Srt cmpTag es2 by rw [hes2, HES.out]; exact (srt_grounds _ _).puts tc_tag _)
                have H3 := Lib.hid (show R2 n W1.heap.size D W1 tb (mm.length : Int) (lo : Int) R mm (.slice (some ⟨g, off, none⟩) mm.length c12) E Ae ce es2 (.slice Ah2 xs2.length ch2) (hs ++ r.holes) (.slice Aa2 ap2.length ca2) ap2 vn nw2 wr by rw [hes2]; exact H2.out)
                have HES2 := Lib.hid hes2
                clear hes2 H2
                obtain ⟨e0, he0⟩ : ∃ e0, e0 = r.elems[j] := ⟨_, rfl⟩
                obtain ⟨g_, off_, hA_, hg, z2, z3, z4, z5, hra⟩ := (H3.out).at_ hlt hiR HXM.out HP.out
                injection hA_ with hA_
                injection hA_ with eg_ eo_
                subst eg_
                subst eo_
                obtain ⟨t0, t1, t2, t3, t4, t5⟩ := (H3.out).blk.c6
                have htl := (H3.out).blk.lt
                obtain ⟨ge, oe, hA4, _, hge, q0, q1, q2, q3, q4, q5, q6, q7, q8, q9, q10, q11, q12, q13⟩ := at_TraceT hra.1 hlt2
                rw [hA4] at z2
                rw [← he0] at q0 q1 q2 q3 q4 q5 q6 q7 q8 q9 q10 q11 q12 q13
                have HE0 := Lib.hid he0
                have HCE := Lib.hid H3.out.e
                have l1 : (0 : Int) ≤ (j : Int) := by omega
                have l2 : (j : Int) < (r.elems.length : Int) := by omega
                clear he0 hra hA4
                by_cases hp1 : e0.level < lv
                · have d1 : decide (e0.level < lv) = true := by simpa using hp1
                  have HLT := Lib.hid (show lowsTo lv r.elems (j + 1) = lowsTo lv r.elems j ++ [bare e0] by rw [HE0.out]; exact lowsTo_yes hlt2 (by rw [← HE0.out]; exact hp1))
                  clear hp1
                  go_upto_region 41 with fail
                  clear d1
                  refine wp_region_E (fun w9 => Below wr.heap.size wr w9) [(0, 0), (1, 1), (2, 0), (3, 0), (4, 0), (5, 0), (6, 1), (7, 0), (8, 0), (9, 1), (10, 2), (11, 0), (12, 2)] (by kernel_rfl) (by kernel_rfl) (fun KK hKK => ?_)
                  simp only [beside, List.filterMap_cons, List.filterMap_nil, List.getElem?_toArray, List.getElem?_cons_zero, List.getElem?_cons_succ, Option.map_some]
                  repeat ((first | (refine wpX_w ?_ (Or.inl ⟨by rfl, fun w9 => ?_⟩) ?_; rotate_left 1; go_simp; with_reducible rfl) | (refine wpX_l ?_ (((Below.refl _ _).drew)) (Or.inl ⟨by rfl, fun w9 hw9 => ?_⟩) ?_; rotate_left 1; obtain ⟨hc9, hf9⟩ := bcell hw9; go_simp; with_reducible rfl) | refine wpX_w undef (Or.inr ⟨by rfl, rfl⟩) ?_ | refine wpX_l undef (((Below.refl _ _).drew)) (Or.inr ⟨by rfl, rfl⟩) ?_); go_frame)
                  refine wpX_es (fun K9_ hK9_ => ?_)
                  go_simp
                  refine (ground21_is es2 e0 Ae ce _ (HCE.out.new_ ((Below.refl _ _).drew)) HSR2.out (by omega)).mono ?_
                  rintro e wa ⟨Ae2, ce2, rfl, hro, hba⟩
                  obtain ⟨es3, hes3⟩ : ∃ es3, es3 = put cmpTag es2 (bare e0) := ⟨_, rfl⟩
                  rw [← hes3] at hro ⊢
                  have hbw : Below wr.heap.size wr wa := ((Below.refl _ _).drew).trans hba
                  have hblk := H3.out.blk.new_ hbw
                  have u0 := (hblk.cell 0).trans rfl
                  have f0 := hblk.frozen 0
                  have hul := hblk.lt
                  have HBa := Lib.hid hbw
                  have H4 := Lib.hid (H3.out.elems_ hbw hB2 hro)
                  have HES3 := Lib.hid hes3
                  clear hba hbw hblk hro hes3
                  refine hK9_ _ _ HBa.out ?_
                  clear hK9_ K9_
                  repeat ((first | (refine wpX_w ?_ (Or.inl ⟨by rfl, fun w9 => ?_⟩) ?_; rotate_left 1; go_simp; with_reducible rfl) | (refine wpX_l ?_ (HBa.out) (Or.inl ⟨by rfl, fun w9 hw9 => ?_⟩) ?_; rotate_left 1; obtain ⟨hc9, hf9⟩ := bcell hw9; go_simp; with_reducible rfl) | refine wpX_w undef (Or.inr ⟨by rfl, rfl⟩) ?_ | refine wpX_l undef (HBa.out) (Or.inr ⟨by rfl, rfl⟩) ?_); go_frame)
                  refine wpX_e (by kernel_rfl) (fun K9_ hK9_ => ?_)
                  go_simp
                  refine hK9_ _ _ ?_
                  clear hK9_ K9_
                  refine wpX_nil ?_
                  simp only [OnlyN_normal]
                  refine hKK _ _ ?_
                  clear hKK KK
                  clear t0 t1 t2 t3 t4 t5 htl z2 z3 z4 z5 hg hge q0 q1 q2 q3 q4 q5 q6 q7 q8 q9 q10 q11 q12 q13 u0 f0 hul
                  go_wp2_with fail
                  go_roundw
                  case rel => exact ⟨j + 1, _, _, _, by go_num, by omega, by rw [HLT.out, puts_snoc, ← HES2.out, ← HES3.out]; exact H4.out⟩
                  case measure => simp [intOf]; omega
                · have d1 : decide (e0.level < lv) = false := by simpa using hp1
                  have HLT := Lib.hid (show lowsTo lv r.elems (j + 1) = lowsTo lv r.elems j by rw [HE0.out] at hp1; exact lowsTo_no hlt2 hp1)
                  clear hp1
                  go_wp2_with fail
                  go_roundw
                  case rel => exact ⟨j + 1, E, Ae, ce, by go_num, by omega, by rw [HLT.out, ← HES2.out]; exact H3.out⟩
                  case measure => simp [intOf]; omega
              · obtain ⟨es2, hes2⟩ : ∃ es2, es2 = puts cmpTag es (lowsTo lv r.elems j) := ⟨_, rfl⟩
                obtain rfl : j = r.elems.length := by omega
                have H3 := Lib.hid (show R2 n W1.heap.size D W1 tb (mm.length : Int) (lo : Int) R mm (.slice (some ⟨g, off, none⟩) mm.length c12) E Ae ce es2 (.slice Ah2 xs2.length ch2) (hs ++ r.holes) (.slice Aa2 ap2.length ca2) ap2 vn nw2 wr by rw [hes2]; exact H2.out)
                have HES2 := Lib.hid (show es2 = puts cmpTag es (lows lv r) by rw [hes2, lowsTo_all])
                clear hes2 H2
                obtain ⟨g_, off_, hA_, hg, z2, z3, z4, z5, hra⟩ := (H3.out).at_ hlt hiR HXM.out HP.out
                injection hA_ with hA_
                injection hA_ with eg_ eo_
                subst eg_
                subst eo_
                obtain ⟨t0, t1, t2, t3, t4, t5⟩ := (H3.out).blk.c6
                have htl := (H3.out).blk.lt
                clear hra t0 t1 t2 t3 t4 t5 htl z3 z4 z5
                go_wp2_with fail
                have HTS := Lib.hid (show R.take (i + 1) = R.take i ++ [(k0, r)] by rw [← HP.out, take_snoc hiR])
                have HR9 := Lib.hid (show R2 n W1.heap.size D W1 tb (mm.length : Int) (lo : Int) R mm (.slice (some ⟨g, off, none⟩) mm.length c12) E Ae ce (groundsOf lv (R.take (i + 1))) (.slice Ah2 xs2.length ch2) ((R.take (i + 1)).flatMap fun p => p.2.holes) (.slice Aa2 ap2.length ca2) ((R.take (i + 1)).flatMap fun p => p.2.aparts) vn (newsOf (R.take (i + 1))) wr by
                 have g1 : groundsOf lv (R.take (i + 1)) = es2 := by rw [HTS.out, grounds_snoc, ← HES.out, HES2.out]
                 have g2 : ((R.take (i + 1)).flatMap fun p => p.2.holes) = hs ++ r.holes := by rw [HTS.out, List.flatMap_append, ← HHS.out]; simp
                 have g3 : ((R.take (i + 1)).flatMap fun p => p.2.aparts) = ap2 := by rw [HTS.out, List.flatMap_append, ← HAP.out, HAP2.out]; simp
                 have g4 : newsOf (R.take (i + 1)) = nw2 := by rw [HTS.out, newsOf_snoc, ← HNW.out, HNW2.out]
                 rw [g1, g2, g3, g4]
                 exact H3.out)
                refine ⟨?_, ?_⟩
                · (repeat apply Exists.intro)
                  refine ⟨?_, rfl⟩
                  exact ⟨i + 1, E, Ae, ce, _, _, _, by go_num, by omega, HR9.out⟩
                · simp [intOf]; omega
        · obtain rfl : i = mm.length := by omega
          rw [← HML.out, List.take_length] at h2
          rw [HML.out] at h2
          obtain ⟨xs, hx, hxr⟩ := h2.h
          have hxl := hxr.length
          obtain ⟨Ah, ch, hv, _⟩ := own_form2 hx
          subst hv
          obtain ⟨Aa, ca, hv, _⟩ := own_form2 h2.a
          subst hv
          obtain ⟨An, cn, hv, _⟩ := own_form2 h2.nn
          subst hv
          obtain ⟨es, hes⟩ : ∃ es, es = groundsOf lv R := ⟨_, rfl⟩
          obtain ⟨hs, hhs⟩ : ∃ hs, hs = R.flatMap fun p => p.2.holes := ⟨_, rfl⟩
          obtain ⟨ap, hap⟩ : ∃ ap, ap = R.flatMap fun p => p.2.aparts := ⟨_, rfl⟩
          obtain ⟨nw, hnw⟩ : ∃ nw, nw = newsOf R := ⟨_, rfl⟩
          have HTE := Lib.hid (show T = ⟨es, hs, ap, nw, mm.length, lo⟩ by
           rw [HTT.out, ← HDF.out, hes, hhs, hap, hnw, HLO.out, ← HML.out, HRR.out]
           rfl)
          rw [← hes, ← hhs, ← hap, ← hnw] at h2
          rw [← hhs] at hxr hxl
          obtain ⟨t0, t1, t2, t3, t4, t5⟩ := h2.blk.c6
          have htl := h2.blk.lt
          have hX := HX1.out.new_ h2.bel
          have HXT := Lib.hid (show wr.there w.heap.size 0 (#[Value.slice Ae es.length ce, Value.slice Ah xs.length ch, Value.slice Aa ap.length ca, Value.slice An nw.length cn, Value.int IntKind.i64 (mm.length : Int), Value.int IntKind.i64 (lo : Int)] : Array Value).size from hX.there)
          have HXB := Lib.hid hX
          have HX := Lib.hid hx
          have HXR := Lib.hid hxr
          have HXL := Lib.hid hxl
          have H2 := Lib.hid h2
          have HBB := Lib.hid (show Below w.heap.size w wr from HB1.out.trans (h2.bel.mono (by have := HZ1.out; omega)))
          clear h2 hX hx hxr hxl hes hhs hap hnw
          go_wp2_with (with_reducible refine wpList_store_mid rfl 37 _ _ rfl w.heap.size 0 #[Value.slice Ae es.length ce, Value.slice Ah xs.length ch, Value.slice Aa ap.length ca, Value.slice An nw.length cn, Value.int IntKind.i64 (mm.length : Int), Value.int IntKind.i64 (lo : Int)] rfl rfl HXT.out (by kernel_rfl) (by kernel_rfl) ?_)
          try simp only [Exit.inBlock, Exit.then]
          refine bodyPost_ret (v := .agg #[.slice Ae es.length ce, .slice Ah xs.length ch, .slice Aa ap.length ca, .slice An nw.length cn, .int .i64 (mm.length : Int), .int .i64 (lo : Int)]) ?_ rfl ?_
          · exact results_cell (t := 6) (T := 37) rfl _ _ w.heap.size [Value.slice Ae es.length ce, Value.slice Ah xs.length ch, Value.slice Aa ap.length ca, Value.slice An nw.length cn, Value.int IntKind.i64 (mm.length : Int), Value.int IntKind.i64 (lo : Int)] _ rfl (World.rangeAt_setCells_same wr w.heap.size 0 [Value.slice Ae es.length ce, Value.slice Ah xs.length ch, Value.slice Aa ap.length ca, Value.slice An nw.length cn, Value.int IntKind.i64 (mm.length : Int), Value.int IntKind.i64 (lo : Int)] HXT.out) Try.underlying37 rfl (by kernel_rfl)
          · rw [HTE.out]
            have hEk : ∀ k, E k → k ≠ w.heap.size := fun k hk => by have := (H2.out.eE k hk).1; have := HZ1.out; omega
            have hoa := own_setCells H2.out.a HXB.out (by decide) 0 [Value.slice Ae es.length ce, Value.slice Ah xs.length ch, Value.slice Aa ap.length ca, Value.slice An nw.length cn, Value.int IntKind.i64 (mm.length : Int), Value.int IntKind.i64 (lo : Int)]
            have hon := own_setCells H2.out.nn HXB.out (by decide) 0 [Value.slice Ae es.length ce, Value.slice Ah xs.length ch, Value.slice Aa ap.length ca, Value.slice An nw.length cn, Value.int IntKind.i64 (mm.length : Int), Value.int IntKind.i64 (lo : Int)]
            have hox := own_setCells HX.out HXB.out (by decide) 0 [Value.slice Ae es.length ce, Value.slice Ah xs.length ch, Value.slice Aa ap.length ca, Value.slice An nw.length cn, Value.int IntKind.i64 (mm.length : Int), Value.int IntKind.i64 (lo : Int)]
            have hxr2 : Each2 (HoleRel n D (wr.setCells w.heap.size 0 [Value.slice Ae es.length ce, Value.slice Ah xs.length ch, Value.slice Aa ap.length ca, Value.slice An nw.length cn, Value.int IntKind.i64 (mm.length : Int), Value.int IntKind.i64 (lo : Int)])) hs xs := HXR.out.imp fun _ _ hx => (repHoleT n).keep (by rw [size_setCells]; exact Nat.le_refl _) (fun g hg hl => ⟨hg, blk_setCells _ _ _ _ _ (by have := HDD.out g hg; omega)⟩) hx
            have hal : ∀ {A : Option Addr} {nn c : Nat} {e : TypeId} {sz : Nat} {zs : List Value}, (wr.setCells w.heap.size 0 [Value.slice Ae es.length ce, Value.slice Ah xs.length ch, Value.slice Aa ap.length ca, Value.slice An nw.length cn, Value.int IntKind.i64 (mm.length : Int), Value.int IntKind.i64 (lo : Int)]).ownsRow 0 e sz (.slice A nn c) nn zs → AIn A (· < (wr.setCells w.heap.size 0 [Value.slice Ae es.length ce, Value.slice Ah xs.length ch, Value.slice Aa ap.length ca, Value.slice An nw.length cn, Value.int IntKind.i64 (mm.length : Int), Value.int IntKind.i64 (lo : Int)]).heap.size) := fun h a ha => own_lt h a.block (by subst ha; rfl)
            refine ⟨Ae, ce, Ah, ch, Aa, ca, An, cn, by rw [HXL.out], ⟨?_, ?_, ?_, ?_⟩, Below.setCells' _ _ HBB.out (Nat.le_refl _)⟩
            · exact H2.out.e.keep (by rw [size_setCells]; exact Nat.le_refl _) (fun k hk hl => ⟨by rw [size_setCells]; exact hl, blk_setCells _ _ _ _ _ (hEk k hk)⟩)
            · exact holes_row hxr2 (ownsRow_rd v8_len hox) (fun k hk => by have := HDD.out k hk; have := HBB.out.size; rw [size_setCells]; omega) (hal hox)
            · exact RowR.of_rd (ownsRow_rd ApartT.cells_length hoa) (hal hoa)
            · exact RowR.of_rd (ownsRow_rd Sym.cells_length hon) (hal hon)
     | cons k todo =>
       obtain ⟨b, off, x, rfl, hcp, hx0, hq0⟩ := HR1.out.q.head
       have hx1 : x = .int .i64 k := by simpa [Int.cells1] using hx0.symm
       subst hx1
       have HR2 := Lib.hid HR1.out.pop_
       have hbl := World.block_lt_of_cell? wr _ hq0
       have i1 : (0 : Int) < ((todo.length + 1 : Nat) : Int) := by omega
       have i2 : (1 : Int) ≤ ((todo.length + 1 : Nat) : Int) := by omega
       have i3 : ((todo.length + 1 : Nat) : Int) ≤ (c7 : Int) := by omega
       have i4 : (1 : Int) ≤ (c7 : Int) := by omega
       clear hx0 HR1
       go_upto_region 11 with fail
       generalize (if c7 = 1 then some (⟨b, off, none⟩ : Addr) else some ⟨b, off + 1, none⟩) = A7 at HR2 ⊢
       clear hq0 hbl i1 i2 i3 i4
       have HHAS := Lib.hid (has10_is A8 c8 done k wr (ownsRow_rd Int.cells1_length HR2.out.d))
       obtain ⟨hk, hhk⟩ : ∃ hk, hk = decide (k ∈ done) := ⟨_, rfl⟩
       rw [← hhk] at HHAS
       have HHK := Lib.hid hhk
       clear hhk
       go_wp2_with fail
       refine HHAS.out.mono ?_
       rintro e w0 ⟨rfl, rfl⟩
       cases hk
       · have HD := Lib.hid (show k ∉ done by simpa using HHK.out)
         clear HHK HHAS
         have hdl : done.length ≤ 100000 := by have := HLEN.out; omega
         obtain ⟨Y9, hY9⟩ : ∃ Y9, Y9 = wr.alloc (.cells #[.int .i64 k] 3) := ⟨_, rfl⟩
         have hb9 : Below wr.heap.size wr Y9 := by rw [hY9]; exact (Below.refl _ _).alloc (Nat.le_refl _) _
         have hB9 : W1.heap.size ≤ Y9.heap.size := Nat.le_trans hB1w hb9.size
         have HY9 := Lib.hid hY9
         have HR9 := Lib.hid (HR2.out.new_ hb9 hB1w)
         have HW9 := Lib.hid (show 0 < 1 → ∃ ad, (some (⟨wr.heap.size, 0, none⟩ : Addr)) = some ad ∧ ∀ j u, ([k].flatMap Int.cells1)[j]? = some u → Y9.cell? (ad.add j) = some u from fun _ => ⟨_, rfl, by rw [hY9]; exact World.news_of_block (heap_alloc_new _ _)⟩)
         clear hY9 hb9 HR2 HMO HME
         go_upto_region 13 with (at_builtin; rw [← HY9.out]; refine wpList_append_src Y9 rfl (.tmp 46) (.tmp 48) 22 rfl 3 i0 _ 1 8 Try.underlying22 hi0 hz0 hz1 hz2 rfl (by omega) (.slice A8 done.length c8) done.length (done.flatMap Int.cells1) rfl HR9.out.d (some ⟨wr.heap.size, 0, none⟩) 1 1 ([k].flatMap Int.cells1) rfl rfl HW9.out (one_Int _) (by unfold maxLen; omega) (by omega) ?_; intro v1 w4 hown1 hg1 hnil1 hat1; have hr4 := HR9.out.done_ hB9 hown1 hg1 hat1; obtain ⟨A8n, c8n, rfl, _⟩ := own_form2 hr4.d; obtain ⟨dn, hdn⟩ : ∃ dn, dn = done ++ [k] := ⟨_, rfl⟩; rw [← hdn] at hr4 ⊢; have HDN := Lib.hid hdn; have HR4 := Lib.hid hr4; have hB4 : W1.heap.size ≤ w4.heap.size := hr4.bel.size; clear hown1 hg1 hnil1 hat1 hr4 hdn)
         have hBW4 : Below w.heap.size w w4 := HB1.out.trans (HR4.out.bel.mono (by have := HZ1.out; omega))
         have hfind := rfind21_is n l A2 c2 k w4 (HR.out.new_ hBW4)
         obtain ⟨⟨r, bb⟩, hx⟩ : ∃ x, x = lookR l k := ⟨_, rfl⟩
         rw [← hx] at hfind
         have HX := Lib.hid hx
         have HFIND := Lib.hid hfind
         clear hfind hx hBW4 HR9 HY9 HW9
         go_wp2_with fail
         refine HFIND.out.mono ?_
         rintro e w6 ⟨hb6, Az1, cz1, Az2, cz2, Az3, cz3, Az4, cz4, rfl, hra⟩
         dsimp only at hra ⊢
         obtain ⟨W7, hW7⟩ : ∃ W7, W7 = w6.alloc (.cells #[.int .i64 r.num, .int .i64 r.level, .slice Az1 r.elems.length cz1, .slice Az2 r.holes.length cz2, .slice Az3 r.aparts.length cz3, .slice Az4 r.news.length cz4] 47) := ⟨_, rfl⟩
         have hb67 : Below w6.heap.size w6 W7 := by rw [hW7]; exact (Below.refl _ _).alloc (Nat.le_refl _) _
         have K7 := Lib.hid (show Blk W7 w6.heap.size 47 #[.int .i64 r.num, .int .i64 r.level, .slice Az1 r.elems.length cz1, .slice Az2 r.holes.length cz2, .slice Az3 r.aparts.length cz3, .slice Az4 r.news.length cz4] by rw [hW7]; exact Blk.new _ _ _)
         have hB7 : W1.heap.size ≤ W7.heap.size := Nat.le_trans hB4 (Nat.le_trans hb6.size hb67.size)
         have HR7 := Lib.hid ((HR4.out.new_ hb6 hB4).new_ hb67 (Nat.le_trans hB4 hb6.size))
         have HRA := Lib.hid (hra.keep (D' := D) hb67.size (fun j hj hl => ⟨hj, hb67.block j hl⟩))
         have hK7B : W1.heap.size ≤ w6.heap.size := Nat.le_trans hB4 hb6.size
         obtain ⟨m9, ho9, he9⟩ := (HR4.out.new_ hb6 hB4).r
         have hm9 : m9.length = mm.length := by
          obtain ⟨_, _, hv, _⟩ := own_form2 ho9
          injection hv with _ hv2
          exact hv2.symm
         rw [hm9] at ho9
         have HNK := Lib.hid (own_lt ho9)
         have HM9 := Lib.hid hm9
         have HO9 := Lib.hid (ownsRow_new ho9 hb67)
         have HE9 := Lib.hid (he9.imp fun _ _ hx => hx.keep (D' := D) hb67.size (fun j hj hl => ⟨hj, hb67.block j hl⟩))
         clear hb6 hra hb67 HFIND HR4 ho9 he9 hm9
         go_upto_region 14 with fail
         rw [← hW7]
         clear hW7
         generalize w6.heap.size = tk at K7 hK7B HNK ⊢
         have hls : lostOf (lookR l) done ≤ 100000 := by
          have : lostOf (lookR l) done ≤ done.length := List.length_filter_le _ _
          omega
         cases bb
         · have HLK := Lib.hid (show (lookR l k).2 = false by rw [← HX.out])
           go_wp2_with fail
           go_roundg (cost (lookR l) lv (l.map RecordT.num) todo (done ++ [k]))
           case measure =>
            have := left_le (lookR l) lv (l.map RecordT.num) done k
            rw [HGN.out]; unfold cost; simp; omega
           case rel =>
            have h1 := left_le (lookR l) lv (l.map RecordT.num) done k
            have h2 := HLEN.out
            rw [HGN.out] at h2
            unfold cost at h2
            refine ⟨todo, done ++ [k], ?_, ?_, by rw [← HRE.out, reach_lost (lookR l) lv (l.map RecordT.num) HKEYS.out HD.out HLK.out], rfl, by unfold cost; simp at h2 ⊢; omega⟩
            · rw [lostOf_snoc, if_neg (by rw [HLK.out]; simp)]
              go_num
            · rw [recsOf_snoc, addR, if_neg (by rw [HLK.out]; simp), ← HRR.out, ← HAS.out, ← HDN.out]
              exact HR7.out
         · have HLK := Lib.hid (show (lookR l k).2 = true by rw [← HX.out])
           have HRK := Lib.hid (show r = (lookR l k).1 by rw [← HX.out])
           have hml9 : mm.length ≤ 100000 := by have := HML.out; have := len_recs (lookR l) done; rw [← HRR.out] at this; omega
           have hak9 : ask.length = mm.length := by rw [HAS.out, List.length_map, HML.out]
           have HAK := Lib.hid hak9
           have hak10 : ask.length ≤ 100000 := by omega
           clear hak9 hc71 hc72
           go_wp2_with fail
           have HAG := Lib.hid (show ∀ j, (h : j < ask.length) → (h' : j < R.length) → ask[j] = R[j].1 from fun j h h' => by simp only [HAS.out, List.getElem_map])
           have HRD9 := Lib.hid (show RowRd W7 1 Int.cells1 A9 c9 ask from ownsRow_rd Int.cells1_length HR7.out.a)
           go_loopw [16] (fun s wq => ∃ m : Nat, s = .int .i64 m ∧ m ≤ mm.length ∧ (∀ j, (h : j < ask.length) → m ≤ j → k < ask[j]) ∧ wq = W7) (fun s wq => (intOf s).toNat)
           case atStart => exact ⟨mm.length, rfl, Nat.le_refl _, fun j h hj => absurd h (by have := HAK.out; omega), rfl⟩
           case round =>
            obtain ⟨m, rfl, hm, hno, rfl⟩ := hrel
            have HNO := Lib.hid hno
            clear hno
            by_cases h0 : 0 < m
            · have d0 : decide ((0 : Int) < (m : Int)) = true := by simpa using h0
              have d0' : decide (0 < m) = true := by simpa using h0
              obtain ⟨q, hq⟩ : ∃ q, q + 1 = m := ⟨m - 1, by omega⟩
              have hql : q < ask.length := by have := HAK.out; omega
              obtain ⟨b9, of9, hA9, hb9, hc9⟩ := int_at HRD9.out hql
              subst hA9
              obtain ⟨t, ht⟩ : ∃ t, t = ask[q] := ⟨_, rfl⟩
              rw [← ht] at hc9
              have v1 : IntKind.i64.wrap ((m : Int) - 1) = (q : Int) := by rw [show ((m : Int) - 1) = (q : Int) by omega]; exact IntWalk.i64_in _ (by omega)
              have v1' : (m : Int) - 1 = (q : Int) := by omega
              have j1 : (0 : Int) ≤ (q : Int) := by omega
              have j2 : (q : Int) < (ask.length : Int) := by omega
              have HTK := Lib.hid ht
              have HQ := Lib.hid hq
              clear ht hq h0
              by_cases hgt : k < t
              · have d1 : decide (k < t) = true := by simpa using hgt
                have HGT := Lib.hid hgt
                clear hgt
                go_wp2_with fail
                go_roundw
                case rel =>
                 refine ⟨q, rfl, by have := HQ.out; omega, fun j h hj => ?_, trivial⟩
                 rcases Nat.lt_or_ge j m with h2 | h2
                 · obtain rfl : j = q := by have := HQ.out; omega
                   rw [← HTK.out]; exact HGT.out
                 · exact HNO.out j h h2
                case measure => simp [intOf]; have := HQ.out; omega
              · have d1 : decide (k < t) = false := by simpa using hgt
                have HINS := Lib.hid (show put cmpKR R (k, r) = R.take m ++ (k, r) :: R.drop m from recs_ins (by rw [HRR.out]; exact srt_recs _ _) r (by have := HML.out; omega) (fun j h hj => by
                 rw [← HAG.out j (by have := HAK.out; have := HML.out; omega) h]; exact HNO.out j _ hj) (fun h => by
                 have e3 : m - 1 = q := by have := HQ.out; omega
                 have hqR : q < R.length := by have := HML.out; have := HAK.out; omega
                 have e4 : R[q].1 = t := by rw [HTK.out, HAG.out q hql hqR]
                 have e5 : R[q].1 ∈ done := (mem_recs (by rw [← HRR.out]; exact List.getElem_mem hqR)).1
                 have e6 : t ≠ k := fun e => HD.out (by rw [← e, ← e4]; exact e5)
                 simp only [e3, e4]
                 omega))
                clear hgt
                go_upto_region 19 with fail
                clear d0 d0' d1 v1 v1' j1 j2 hc9 hb9
                obtain ⟨tk1, htk1⟩ : ∃ x, x = m9.take m := ⟨_, rfl⟩
                obtain ⟨dk1, hdk1⟩ : ∃ x, x = m9.drop m := ⟨_, rfl⟩
                obtain ⟨As1, hAs1⟩ : ∃ As : Option Addr, As = (if c12 = m then A12 else Option.map (fun a : Addr => a.add (m * 6)) A12) := ⟨_, rfl⟩
                obtain ⟨tk2, htk2⟩ : ∃ x, x = ask.take m := ⟨_, rfl⟩
                obtain ⟨dk2, hdk2⟩ : ∃ x, x = ask.drop m := ⟨_, rfl⟩
                obtain ⟨As2, hAs2⟩ : ∃ As : Option Addr, As = (if c9 = m then (some ⟨b9, of9, none⟩) else Option.map (fun a : Addr => a.add (m * 1)) (some ⟨b9, of9, none⟩)) := ⟨_, rfl⟩
                have hma : m ≤ ask.length := by have := HAK.out; omega
                have l1 : tk1.length = m := by rw [htk1, List.length_take]; have := HM9.out; omega
                have l2 : mm.length - m = dk1.length := by rw [hdk1, List.length_drop]; have := HM9.out; omega
                have l3 : tk2.length = m := by rw [htk2, List.length_take]; omega
                have l4 : ask.length - m = dk2.length := by rw [hdk2, List.length_drop]
                have hsl1 : ∀ Y, (Instr.slice 23 (.slice A12 mm.length c12) none (some (.int .i64 (m : Int))) none).run Try.prog Y = .ok (.slice A12 tk1.length c12) Y := fun Y => by rw [l1]; exact run_slR_to A12 (by omega) Y
                have hsl2 : ∀ Y, (Instr.slice 23 (.slice A12 mm.length c12) (some (.int .i64 (m : Int))) none none).run Try.prog Y = .ok (.slice As1 dk1.length (c12 - m)) Y := fun Y => by rw [← l2, hAs1]; exact run_slR_from A12 hm Y
                have hsl3 : ∀ Y, (Instr.slice 22 (.slice (some ⟨b9, of9, none⟩) ask.length c9) none (some (.int .i64 (m : Int))) none).run Try.prog Y = .ok (.slice (some ⟨b9, of9, none⟩) tk2.length c9) Y := fun Y => by rw [l3]; exact run_sl_to (some ⟨b9, of9, none⟩) (by omega) Y
                have hsl4 : ∀ Y, (Instr.slice 22 (.slice (some ⟨b9, of9, none⟩) ask.length c9) (some (.int .i64 (m : Int))) none none).run Try.prog Y = .ok (.slice As2 dk2.length (c9 - m)) Y := fun Y => by rw [← l4, hAs2, Nat.mul_one]; exact run_sl_from (some ⟨b9, of9, none⟩) hma Y
                have t1 : tk1.length ≤ 100000 := by omega
                have t2 : dk1.length ≤ 100000 := by omega
                have t3 : tk2.length ≤ 100000 := by omega
                have t4 : dk2.length ≤ 100000 := by omega
                have hkl := K7.out.lt
                obtain ⟨xr, hxr⟩ : ∃ xr : RecC, xr = ⟨r.num, r.level, ⟨Az1, r.elems.length, cz1⟩, ⟨Az2, r.holes.length, cz2⟩, ⟨Az3, r.aparts.length, cz3⟩, ⟨Az4, r.news.length, cz4⟩⟩ := ⟨_, rfl⟩
                have HXR := Lib.hid (show [xr].flatMap RecC.cells = [.int .i64 r.num, .int .i64 r.level, .slice Az1 r.elems.length cz1, .slice Az2 r.holes.length cz2, .slice Az3 r.aparts.length cz3, .slice Az4 r.news.length cz4] by rw [hxr]; rfl)
                have HXX := Lib.hid (show ∀ Y, RecAt n D Y r Az1 cz1 Az2 cz2 Az3 cz3 Az4 cz4 → RcRel n D Y (k, r) xr from fun Y h => by rw [hxr]; exact ⟨rfl, rfl, rfl, rfl, rfl, rfl, h⟩)
                have HDK1 := Lib.hid (show RowRd wr 6 RecC.cells As1 (c12 - m) dk1 by
                 rw [hdk1, hAs1]
                 have h := HO9.out
                 rw [← HM9.out] at h
                 exact (ownsRow_rd RecC.cells_length h).suffix m (by rw [HM9.out]; exact hm))
                have HTK1 := Lib.hid (show wr.ownsRow 0 47 6 (.slice A12 tk1.length c12) tk1.length (tk1.flatMap RecC.cells) by
                 rw [htk1]
                 have h := HO9.out
                 rw [← HM9.out] at h
                 exact own_take RecC.cells_length (by decide) h m (by rw [HM9.out]; exact hm))
                have HEP := Lib.hid (show ∀ Y, Each2 (RcRel n D Y) R m9 → RcRel n D Y (k, r) xr → Each2 (RcRel n D Y) (put cmpKR R (k, r)) (tk1 ++ ([xr] ++ dk1)) from fun Y h1 h2 => by
                 rw [HINS.out, htk1, hdk1]
                 exact (h1.take_ m).append (.cons h2 (h1.drop_ m)))
                have HD2E := Lib.hid hdk2
                have HA2E := Lib.hid hAs2
                have HT2E := Lib.hid htk2
                have HAP := Lib.hid (show tk2 ++ ([k] ++ dk2) = (put cmpKR R (k, r)).map (·.1) by
                 rw [HINS.out, htk2, hdk2, HAS.out, List.map_append, List.map_cons, List.map_take, List.map_drop]
                 rfl)
                obtain ⟨z0, z1, z2, z3, z4, z5⟩ := K7.out.c6
                clear l1 l2 l3 l4 htk1 hdk1 htk2 hdk2 hAs1 hAs2 hxr
                have HXL1 := HXR
                refine wp_region_E (fun w9 => Below wr.heap.size wr w9) [(0, 0), (1, 0), (2, 0), (3, 1), (5, 0), (6, 0), (7, 0), (4, 2), (8, 2), (9, 2), (10, 0)] (by kernel_rfl) (by kernel_rfl) (fun KK hKK => ?_)
                simp only [beside, List.filterMap_cons, List.filterMap_nil, List.getElem?_toArray, List.getElem?_cons_zero, List.getElem?_cons_succ, Option.map_some]
                repeat ((first | (refine wpX_w ?_ (Or.inl ⟨by rfl, fun w9 => ?_⟩) ?_; rotate_left 1; go_simp; with_reducible rfl) | (refine wpX_l ?_ (((Below.refl _ _).drew)) (Or.inl ⟨by rfl, fun w9 hw9 => ?_⟩) ?_; rotate_left 1; obtain ⟨hc9, hf9⟩ := bcell hw9; go_simp; with_reducible rfl) | refine wpX_w undef (Or.inr ⟨by rfl, rfl⟩) ?_ | refine wpX_l undef (((Below.refl _ _).drew)) (Or.inr ⟨by rfl, rfl⟩) ?_); go_frame)
                refine wpX_es (fun K9_ hK9_ => ?_)
                go_simp
                obtain ⟨wa1, hwa⟩ : ∃ wa, wa = (wr.alloc (.cells #[.int .i64 r.num, .int .i64 r.level, .slice Az1 r.elems.length cz1, .slice Az2 r.holes.length cz2, .slice Az3 r.aparts.length cz3, .slice Az4 r.news.length cz4] 47)).drew := ⟨_, rfl⟩
                have hba : Below wr.heap.size wr wa1 := by rw [hwa]; exact Below.drew ((Below.refl _ _).alloc (Nat.le_refl _) _)
                have HOa1 := Lib.hid (show wa1.ownsRow 0 47 6 (.slice (some ⟨wr.heap.size, 0, none⟩) 1 1) 1 ([xr].flatMap RecC.cells) by
                 rw [hwa, HXL1.out]; exact ownsRow_new (own_one [.int .i64 r.num, .int .i64 r.level, .slice Az1 r.elems.length cz1, .slice Az2 r.holes.length cz2, .slice Az3 r.aparts.length cz3, .slice Az4 r.news.length cz4] rfl) ((Below.refl _ _).drew))
                have HBa1 := Lib.hid hba
                rw [← hwa]
                clear hwa hba
                refine hK9_ _ _ HBa1.out ?_
                clear hK9_ K9_
                refine wpX_es (fun K9_ hK9_ => ?_)
                refine step_append_src _ rfl _ _ 23 rfl 47 j0 _ 6 112 Try.underlying23 hj0 hy0 hy1 hy2 rfl (by omega) (.slice (some ⟨wr.heap.size, 0, none⟩) 1 1) 1 ([xr].flatMap RecC.cells) rfl HOa1.out As1 dk1.length (c12 - m) (dk1.flatMap RecC.cells) rfl (flat_length RecC.cells_length _) ((HDK1.out.new_ HBa1.out).news RecC.cells_length (by omega)) (one_RecC _) (by unfold maxLen; omega) (by omega) ?_
                intro vb wb1 hown1 hg1 hnil1 hat1
                obtain ⟨AS, cS, rfl, hoS, hAS, hbS⟩ := grown_any (xs := [xr]) (B := wr.heap.size) hown1 hg1 hat1 (fun g hg => by simp only [Value.ownBlock, Option.some.injEq] at hg; omega) HBa1.out.size
                obtain ⟨sl, hsl⟩ : ∃ sl, sl = [xr] ++ dk1 := ⟨_, rfl⟩
                rw [← hsl] at hoS ⊢
                have hsln : sl.length ≤ 100001 := by rw [hsl, List.length_append]; simp; omega
                have HSL1 := Lib.hid hsl
                have HOS1 := Lib.hid hoS
                have HBb1 := Lib.hid (HBa1.out.trans hbS)
                clear hown1 hg1 hnil1 hat1 hoS hAS hbS hsl
                refine hK9_ _ _ HBb1.out ?_
                clear hK9_ K9_
                refine wpX_e (by kernel_rfl) (fun K9_ hK9_ => ?_)
                refine step_append_src _ rfl _ _ 23 rfl 47 j0 _ 6 112 Try.underlying23 hj0 hy0 hy1 hy2 rfl (by omega) (.slice A12 tk1.length c12) tk1.length (tk1.flatMap RecC.cells) rfl (ownsRow_new HTK1.out HBb1.out) AS sl.length cS (sl.flatMap RecC.cells) rfl (flat_length RecC.cells_length _) ((ownsRow_rd RecC.cells_length HOS1.out).news RecC.cells_length (by omega)) (one_RecC _) (by unfold maxLen; omega) (by omega) ?_
                intro vb wc1 hown1 hg1 hnil1 hat1
                obtain ⟨An1, cn1, rfl, hoN, hAN, hbN⟩ := grown_any (B := W1.heap.size) hown1 hg1 hat1 (fun g hg => HR7.out.b12 g (by rw [← hg]; exact ownBlock_len)) (by have := HBb1.out.size; omega)
                obtain ⟨nl1, hnl⟩ : ∃ nl, nl = tk1 ++ sl := ⟨_, rfl⟩
                rw [← hnl] at hoN hAN hat1 ⊢
                have HNL1 := Lib.hid (show nl1 = tk1 ++ ([xr] ++ dk1) by rw [hnl, HSL1.out])
                have hFN : Fr (fun g => (Value.slice A12 tk1.length c12).ownBlock = some g) wb1 wc1 := (Fr.refl _ _).grown hg1 (fun g hg => .inl hg)
                have hvN : ∀ g, (Value.slice An1 nl1.length cn1).ownBlock = some g → (Value.slice A12 tk1.length c12).ownBlock = some g ∨ wb1.heap.size ≤ g := fun g hg => by
                 rcases hat1 with h | h
                 · exact .inl (h ▸ hg)
                 · rw [h] at hg; injection hg with hg; exact .inr (by omega)
                have hB8 : W1.heap.size ≤ wb1.heap.size := Nat.le_trans hB7 HBb1.out.size
                have HR8 := Lib.hid ((HR7.out.new_ HBb1.out hB7).recs_ hB8 hoN (by rw [HNL1.out]; exact HEP.out wb1 (HE9.out.imp fun _ _ hx => hx.keep (D' := D) HBb1.out.size (fun j hj hl => ⟨hj, HBb1.out.block j hl⟩)) (HXX.out _ (HRA.out.keep (D' := D) HBb1.out.size (fun j hj hl => ⟨hj, HBb1.out.block j hl⟩)))) (hFN.mono (fun g _ hg => by rw [← hg]; exact ownBlock_len)) (fun g hg => (hvN g hg).imp (fun h => by rw [← h]; exact ownBlock_len) id))
                have HK8 := Lib.hid ((K7.out.new_ HBb1.out).fr hFN (fun e => by have := HNK.out tk (by rw [← e]; exact ownBlock_len); omega))
                have HRA8 := Lib.hid ((HRA.out.keep (D' := D) HBb1.out.size (fun j hj hl => ⟨hj, HBb1.out.block j hl⟩)).frB hFN (fun g hg => HR7.out.b12 g (by rw [← hg]; exact ownBlock_len)) HR7.out.dB)
                have hB9c : W1.heap.size ≤ wc1.heap.size := HR8.out.bel.size
                clear hown1 hg1 hnil1 hat1 hoN hAN hbN hFN hvN hnl
                refine hK9_ _ _ ?_
                clear hK9_ K9_
                repeat ((first | (refine wpX_w ?_ (Or.inl ⟨by rfl, fun w9 => ?_⟩) ?_; rotate_left 1; go_simp; with_reducible rfl) | (refine wpX_l ?_ (HBb1.out) (Or.inl ⟨by rfl, fun w9 hw9 => ?_⟩) ?_; rotate_left 1; obtain ⟨hc9, hf9⟩ := bcell hw9; go_simp; with_reducible rfl) | refine wpX_w undef (Or.inr ⟨by rfl, rfl⟩) ?_ | refine wpX_l undef (HBb1.out) (Or.inr ⟨by rfl, rfl⟩) ?_); go_frame)
                refine wpX_nil ?_
                simp only [OnlyN_normal]
                refine hKK _ _ ?_
                clear hKK KK
                have HDK2 := Lib.hid (show RowRd wc1 1 Int.cells1 As2 (c9 - m) dk2 by rw [HD2E.out, HA2E.out]; exact (ownsRow_rd Int.cells1_length HR8.out.a).suffix m hma)
                have HTK2 := Lib.hid (show wc1.ownsRow 0 3 1 (.slice (some ⟨b9, of9, none⟩) tk2.length c9) tk2.length (tk2.flatMap Int.cells1) by
                 rw [HT2E.out]
                 exact own_take Int.cells1_length (by decide) HR8.out.a m hma)
                have HXL2 := Lib.hid (show [k].flatMap Int.cells1 = [.int .i64 k] from rfl)
                clear z0 z1 z2 z3 z4 z5 hsl1 hsl2 HO9 HE9 HM9 HR7 K7 HRA HXL1 HXR HXX HDK1 HTK1 HEP HOa1 HOS1 HBa1 HBb1 HRD9
                go_upto_region 20 with fail
                refine wp_region_E (fun w9 => Below wc1.heap.size wc1 w9) [(0, 0), (1, 0), (2, 0), (3, 0), (5, 0), (6, 0), (7, 0), (4, 2), (8, 2), (9, 2), (10, 0)] (by kernel_rfl) (by kernel_rfl) (fun KK hKK => ?_)
                simp only [beside, List.filterMap_cons, List.filterMap_nil, List.getElem?_toArray, List.getElem?_cons_zero, List.getElem?_cons_succ, Option.map_some]
                repeat ((first | (refine wpX_w ?_ (Or.inl ⟨by rfl, fun w9 => ?_⟩) ?_; rotate_left 1; go_simp; with_reducible rfl) | (refine wpX_l ?_ (((Below.refl _ _).drew)) (Or.inl ⟨by rfl, fun w9 hw9 => ?_⟩) ?_; rotate_left 1; obtain ⟨hc9, hf9⟩ := bcell hw9; go_simp; with_reducible rfl) | refine wpX_w undef (Or.inr ⟨by rfl, rfl⟩) ?_ | refine wpX_l undef (((Below.refl _ _).drew)) (Or.inr ⟨by rfl, rfl⟩) ?_); go_frame)
                refine wpX_es (fun K9_ hK9_ => ?_)
                go_simp
                obtain ⟨wa2, hwa⟩ : ∃ wa, wa = (wc1.alloc (.cells #[.int .i64 k] 3)).drew := ⟨_, rfl⟩
                have hba : Below wc1.heap.size wc1 wa2 := by rw [hwa]; exact Below.drew ((Below.refl _ _).alloc (Nat.le_refl _) _)
                have HOa2 := Lib.hid (show wa2.ownsRow 0 3 1 (.slice (some ⟨wc1.heap.size, 0, none⟩) 1 1) 1 ([k].flatMap Int.cells1) by
                 rw [hwa, HXL2.out]; exact ownsRow_new (own_one [.int .i64 k] rfl) ((Below.refl _ _).drew))
                have HBa2 := Lib.hid hba
                rw [← hwa]
                clear hwa hba
                refine hK9_ _ _ HBa2.out ?_
                clear hK9_ K9_
                refine wpX_es (fun K9_ hK9_ => ?_)
                refine step_append_src _ rfl _ _ 22 rfl 3 i0 _ 1 8 Try.underlying22 hi0 hz0 hz1 hz2 rfl (by omega) (.slice (some ⟨wc1.heap.size, 0, none⟩) 1 1) 1 ([k].flatMap Int.cells1) rfl HOa2.out As2 dk2.length (c9 - m) (dk2.flatMap Int.cells1) rfl (flat_length Int.cells1_length _) ((HDK2.out.new_ HBa2.out).news Int.cells1_length (by omega)) (one_Int _) (by unfold maxLen; omega) (by omega) ?_
                intro vb wb2 hown1 hg1 hnil1 hat1
                obtain ⟨AS, cS, rfl, hoS, hAS, hbS⟩ := grown_any (xs := [k]) (B := wc1.heap.size) hown1 hg1 hat1 (fun g hg => by simp only [Value.ownBlock, Option.some.injEq] at hg; omega) HBa2.out.size
                obtain ⟨sl, hsl⟩ : ∃ sl, sl = [k] ++ dk2 := ⟨_, rfl⟩
                rw [← hsl] at hoS ⊢
                have hsln : sl.length ≤ 100001 := by rw [hsl, List.length_append]; simp; omega
                have HSL2 := Lib.hid hsl
                have HOS2 := Lib.hid hoS
                have HBb2 := Lib.hid (HBa2.out.trans hbS)
                clear hown1 hg1 hnil1 hat1 hoS hAS hbS hsl
                refine hK9_ _ _ HBb2.out ?_
                clear hK9_ K9_
                refine wpX_e (by kernel_rfl) (fun K9_ hK9_ => ?_)
                refine step_append_src _ rfl _ _ 22 rfl 3 i0 _ 1 8 Try.underlying22 hi0 hz0 hz1 hz2 rfl (by omega) (.slice (some ⟨b9, of9, none⟩) tk2.length c9) tk2.length (tk2.flatMap Int.cells1) rfl (ownsRow_new HTK2.out HBb2.out) AS sl.length cS (sl.flatMap Int.cells1) rfl (flat_length Int.cells1_length _) ((ownsRow_rd Int.cells1_length HOS2.out).news Int.cells1_length (by omega)) (one_Int _) (by unfold maxLen; omega) (by omega) ?_
                intro vb wc2 hown1 hg1 hnil1 hat1
                obtain ⟨An2, cn2, rfl, hoN, hAN, hbN⟩ := grown_any (B := W1.heap.size) hown1 hg1 hat1 (fun g hg => HR8.out.b9 g (by rw [← hg]; exact ownBlock_len)) (by have := HBb2.out.size; omega)
                obtain ⟨nl2, hnl⟩ : ∃ nl, nl = tk2 ++ sl := ⟨_, rfl⟩
                rw [← hnl] at hoN hAN hat1 ⊢
                have HNL2 := Lib.hid (show nl2 = tk2 ++ ([k] ++ dk2) by rw [hnl, HSL2.out])
                have hFN : Fr (fun g => (Value.slice (some ⟨b9, of9, none⟩) tk2.length c9).ownBlock = some g) wb2 wc2 := (Fr.refl _ _).grown hg1 (fun g hg => .inl hg)
                have hvN : ∀ g, (Value.slice An2 nl2.length cn2).ownBlock = some g → (Value.slice (some ⟨b9, of9, none⟩) tk2.length c9).ownBlock = some g ∨ wb2.heap.size ≤ g := fun g hg => by
                 rcases hat1 with h | h
                 · exact .inl (h ▸ hg)
                 · rw [h] at hg; injection hg with hg; exact .inr (by omega)
                have hB10 : W1.heap.size ≤ wb2.heap.size := Nat.le_trans hB9c HBb2.out.size
                have HR9 := Lib.hid ((HR8.out.new_ HBb2.out hB9c).asked_ hB10 hoN (hFN.mono (fun g _ hg => by rw [← hg]; exact ownBlock_len)) (fun g hg => (hvN g hg).imp (fun h => by rw [← h]; exact ownBlock_len) id))
                have HK9 := Lib.hid ((HK8.out.new_ HBb2.out).fr hFN (fun e => own_blk_ne (HR8.out.new_ HBb2.out hB9c).a (HK8.out.new_ HBb2.out) (by decide) (by rw [← e]; exact ownBlock_len)))
                have HRA9 := Lib.hid ((HRA8.out.keep (D' := D) HBb2.out.size (fun j hj hl => ⟨hj, HBb2.out.block j hl⟩)).frB hFN (fun g hg => HR8.out.b9 g (by rw [← hg]; exact ownBlock_len)) HR8.out.dB)
                clear hown1 hg1 hnil1 hat1 hoN hAN hbN hFN hvN hnl
                refine hK9_ _ _ ?_
                clear hK9_ K9_
                repeat ((first | (refine wpX_w ?_ (Or.inl ⟨by rfl, fun w9 => ?_⟩) ?_; rotate_left 1; go_simp; with_reducible rfl) | (refine wpX_l ?_ (HBb2.out) (Or.inl ⟨by rfl, fun w9 hw9 => ?_⟩) ?_; rotate_left 1; obtain ⟨hc9, hf9⟩ := bcell hw9; go_simp; with_reducible rfl) | refine wpX_w undef (Or.inr ⟨by rfl, rfl⟩) ?_ | refine wpX_l undef (HBb2.out) (Or.inr ⟨by rfl, rfl⟩) ?_); go_frame)
                refine wpX_nil ?_
                simp only [OnlyN_normal]
                refine hKK _ _ ?_
                clear hKK KK
                have HR9 := Lib.hid (show R1 n W1.heap.size D W1 todo dn ((put cmpKR R (k, r)).map (·.1)) (put cmpKR R (k, r)) (.slice A7 todo.length (c7 - 1)) (.slice A8n dn.length c8n) (.slice An2 nl2.length cn2) (.slice An1 nl1.length cn1) wc2 by rw [← HAP.out, ← HNL2.out]; exact HR9.out)
                have hB10 : W1.heap.size ≤ wc2.heap.size := HR9.out.bel.size
                obtain ⟨y0, y1, y2, y3, y4, y5⟩ := HK9.out.c6
                have hyl := HK9.out.lt
                have hec := HRA9.out.1.cap
                have hel := (HSM.out k).1
                rw [← HRK.out] at hel
                clear HDK2 HTK2 HD2E HA2E HT2E HXL2 HR8 HK8 HRA8 HOa2 HOS2 HBa2 HBb2 hsl3 hsl4 HINS HAP
                go_wp2_with fail
                clear y0 y1 y2 y3 y4 y5 hyl
                go_loopw [7, 17] (fun v s wq => ∃ i : Nat, s = .int .i64 i ∧ i ≤ r.elems.length ∧ R1 n W1.heap.size D W1 (todo ++ pushesTo lv r.elems i) dn ((put cmpKR R (k, r)).map (·.1)) (put cmpKR R (k, r)) v (.slice A8n dn.length c8n) (.slice An2 nl2.length cn2) (.slice An1 nl1.length cn1) wq ∧ Blk wq tk 47 #[.int .i64 r.num, .int .i64 r.level, .slice Az1 r.elems.length cz1, .slice Az2 r.holes.length cz2, .slice Az3 r.aparts.length cz3, .slice Az4 r.news.length cz4] ∧ RecAt n D wq r Az1 cz1 Az2 cz2 Az3 cz3 Az4 cz4) (fun v s wq => r.elems.length - (intOf s).toNat)
                case atStart => exact ⟨0, rfl, Nat.zero_le _, by rw [pushesTo_zero, List.append_nil]; exact HR9.out, HK9.out, HRA9.out⟩
                case round =>
                 clear HR9 HK9 HRA9 hB10
                 obtain ⟨i, rfl, hi, hr, hk9, hra⟩ := hrel
                 obtain ⟨A7, c7, rfl, _, _⟩ := hr.q.form
                 have HRq := Lib.hid hr
                 have HKq := Lib.hid hk9
                 have HRAq := Lib.hid hra
                 have hBq : W1.heap.size ≤ wr.heap.size := hr.bel.size
                 clear hr
                 by_cases hlt : i < r.elems.length
                 · obtain ⟨e0, he0⟩ : ∃ e0, e0 = r.elems[i] := ⟨_, rfl⟩
                   obtain ⟨ge, oe, hA0, _, hge, -, -, -, -, -, -, -, -, -, -, -, -, q12, q13⟩ := at_TraceT hra.1 hlt
                   subst hA0
                   rw [← he0] at q12 q13
                   obtain ⟨-, -, y2, -, -, -⟩ := hk9.c6
                   have hyl := hk9.lt
                   have HE0 := Lib.hid he0
                   have j1 : (0 : Int) ≤ (i : Int) := by omega
                   have j2 : (i : Int) < (r.elems.length : Int) := by omega
                   clear he0 hk9 hra
                   by_cases hp1 : lv ≤ e0.level
                   · have d1 : decide (lv ≤ e0.level) = true := by simpa using hp1
                     by_cases hp2 : 0 < e0.cause
                     · have d2 : decide (0 < e0.cause) = true := by simpa using hp2
                       have HPU := Lib.hid (show pushesTo lv r.elems (i + 1) = pushesTo lv r.elems i ++ [e0.cause] by rw [HE0.out]; exact pushesTo_yes hlt (by rw [← HE0.out]; exact hp1) (by rw [← HE0.out]; exact hp2))
                       have hpl : (pushesTo lv r.elems i).length ≤ 1000 := by
                        have : (pushesTo lv r.elems i).length ≤ r.elems.length := by
                         unfold pushesTo
                         rw [List.length_map]
                         exact Nat.le_trans (List.length_filter_le _ _) (by simp; omega)
                        omega
                       have htl : todo.length ≤ 100000 := by
                        have h2 := HLEN.out
                        rw [HGN.out] at h2
                        unfold cost at h2
                        simp at h2
                        omega
                       have htlen : (todo ++ pushesTo lv r.elems i).length ≤ 110000 := by rw [List.length_append]; omega
                       obtain ⟨td, htd⟩ : ∃ td, td = todo ++ pushesTo lv r.elems i := ⟨_, rfl⟩
                       rw [← htd] at HRq htlen
                       obtain ⟨Y9, hY9⟩ : ∃ Y9, Y9 = wr.alloc (.cells #[.int .i64 e0.cause] 3) := ⟨_, rfl⟩
                       have hb9 : Below wr.heap.size wr Y9 := by rw [hY9]; exact (Below.refl _ _).alloc (Nat.le_refl _) _
                       have HY9 := Lib.hid hY9
                       have HRn := Lib.hid (HRq.out.new_ hb9 hBq)
                       have hBn : W1.heap.size ≤ Y9.heap.size := Nat.le_trans hBq hb9.size
                       have HKn := Lib.hid (HKq.out.new_ hb9)
                       have HRAn := Lib.hid (HRAq.out.keep (D' := D) hb9.size (fun j hj hl => ⟨hj, hb9.block j hl⟩))
                       have HNn := Lib.hid (show ∀ j u, ([.int .i64 e0.cause] : List Value)[j]? = some u → Y9.cell? ((⟨wr.heap.size, 0, none⟩ : Addr).add j) = some u by rw [hY9]; exact World.news_of_block (heap_alloc_new _ _))
                       have HTD := Lib.hid htd
                       have HSV := Lib.hid (show (.slice A7 (todo ++ pushesTo lv r.elems i).length c7 : Value) = .slice A7 td.length c7 by rw [htd])
                       clear hp1 hp2 hpl htl hY9 hb9 htd
                       go_wp2_with (at_builtin; rw [← HY9.out]; refine wpList_append_Q Y9 rfl (.tmp 119) (.tmp 126) 22 rfl 3 i0 _ 1 8 Try.underlying22 hi0 hz0 hz1 hz2 rfl (by omega) (.slice A7 td.length c7) td.length (td.flatMap Int.cells1) (by rw [HTD.out]; rfl) HRn.out.q ⟨wr.heap.size, 0, none⟩ 1 [.int .i64 e0.cause] rfl rfl HNn.out (by intro u hu; simp only [List.mem_cons, List.not_mem_nil, or_false] at hu; subst hu; rfl) (by unfold maxLen; omega) (by omega) ?_; intro v1 w9 hq hf hon hat1; have HRz := Lib.hid (HRn.out.todo_ hBn hq hf hat1); have HKz := Lib.hid (hon _ _ _ (by decide) HKn.out); have HRAz := Lib.hid (HRAn.out.frB hf (fun g hg => (HRn.out.b7 g hg).1) HRn.out.dB); clear hq hf hon hat1)
                       go_roundw
                       case rel => exact ⟨i + 1, by go_num, by omega, by rw [HPU.out, ← List.append_assoc, ← HTD.out]; exact HRz.out, HKz.out, HRAz.out⟩
                       case measure => simp [intOf] <;> omega
                     · have d2 : decide (0 < e0.cause) = false := by simpa using hp2
                       have HPU := Lib.hid (show pushesTo lv r.elems (i + 1) = pushesTo lv r.elems i by rw [HE0.out] at hp2; exact pushesTo_no hlt (fun h => hp2 h.2))
                       clear hp1 hp2
                       go_wp2_with fail
                       go_roundw
                       case rel => exact ⟨i + 1, by go_num, by omega, by rw [HPU.out]; exact HRq.out, HKq.out, HRAq.out⟩
                       case measure => simp [intOf] <;> omega
                   · have d1 : decide (lv ≤ e0.level) = false := by simpa using hp1
                     have HPU := Lib.hid (show pushesTo lv r.elems (i + 1) = pushesTo lv r.elems i by rw [HE0.out] at hp1; exact pushesTo_no hlt (fun h => hp1 h.1))
                     clear hp1
                     go_wp2_with fail
                     go_roundw
                     case rel => exact ⟨i + 1, by go_num, by omega, by rw [HPU.out]; exact HRq.out, HKq.out, HRAq.out⟩
                     case measure => simp [intOf] <;> omega
                 · obtain rfl : i = r.elems.length := by omega
                   obtain ⟨-, -, y2, -, -, -⟩ := hk9.c6
                   have hyl := hk9.lt
                   have HPA := Lib.hid (pushesTo_all lv r)
                   clear hk9 hra
                   go_wp2_with fail
                   go_roundg (cost (lookR l) lv (l.map RecordT.num) (todo ++ pushes lv r) (done ++ [k]))
                   case measure =>
                    have := cost_new (lookR l) lv (l.map RecordT.num) HKEYS.out (todo := todo) HD.out HLK.out
                    rw [← HRK.out] at this
                    rw [HGN.out]; omega
                   case rel =>
                    have h1 := cost_new (lookR l) lv (l.map RecordT.num) HKEYS.out (todo := todo) HD.out HLK.out
                    rw [← HRK.out] at h1
                    have h2 := HLEN.out
                    rw [HGN.out] at h2
                    refine ⟨todo ++ pushes lv r, done ++ [k], ?_, ?_, by rw [← HRE.out, reach_new (lookR l) lv (l.map RecordT.num) HKEYS.out HD.out HLK.out, HRK.out], rfl, by simp; omega⟩
                    · rw [lostOf_snoc, if_pos HLK.out]; rfl
                    · rw [recsOf_snoc, addR, if_pos HLK.out, ← HRR.out, ← HRK.out, ← HDN.out, ← HPA.out]
                      exact HRq.out
            · have d0 : decide ((0 : Int) < (m : Int)) = false := by simp; omega
              have d0' : decide (0 < m) = false := by simp; omega
              have HINS := Lib.hid (show put cmpKR R (k, r) = R.take m ++ (k, r) :: R.drop m from recs_ins (by rw [HRR.out]; exact srt_recs _ _) r (by have := HML.out; omega) (fun j h hj => by
               rw [← HAG.out j (by have := HAK.out; have := HML.out; omega) h]; exact HNO.out j _ hj) (fun h => absurd h h0))
              clear h0
              go_upto_region 19 with fail
              clear d0 d0'
              obtain ⟨tk1, htk1⟩ : ∃ x, x = m9.take m := ⟨_, rfl⟩
              obtain ⟨dk1, hdk1⟩ : ∃ x, x = m9.drop m := ⟨_, rfl⟩
              obtain ⟨As1, hAs1⟩ : ∃ As : Option Addr, As = (if c12 = m then A12 else Option.map (fun a : Addr => a.add (m * 6)) A12) := ⟨_, rfl⟩
              obtain ⟨tk2, htk2⟩ : ∃ x, x = ask.take m := ⟨_, rfl⟩
              obtain ⟨dk2, hdk2⟩ : ∃ x, x = ask.drop m := ⟨_, rfl⟩
              obtain ⟨As2, hAs2⟩ : ∃ As : Option Addr, As = (if c9 = m then A9 else Option.map (fun a : Addr => a.add (m * 1)) A9) := ⟨_, rfl⟩
              have hma : m ≤ ask.length := by have := HAK.out; omega
              have l1 : tk1.length = m := by rw [htk1, List.length_take]; have := HM9.out; omega
              have l2 : mm.length - m = dk1.length := by rw [hdk1, List.length_drop]; have := HM9.out; omega
              have l3 : tk2.length = m := by rw [htk2, List.length_take]; omega
              have l4 : ask.length - m = dk2.length := by rw [hdk2, List.length_drop]
              have hsl1 : ∀ Y, (Instr.slice 23 (.slice A12 mm.length c12) none (some (.int .i64 (m : Int))) none).run Try.prog Y = .ok (.slice A12 tk1.length c12) Y := fun Y => by rw [l1]; exact run_slR_to A12 (by omega) Y
              have hsl2 : ∀ Y, (Instr.slice 23 (.slice A12 mm.length c12) (some (.int .i64 (m : Int))) none none).run Try.prog Y = .ok (.slice As1 dk1.length (c12 - m)) Y := fun Y => by rw [← l2, hAs1]; exact run_slR_from A12 hm Y
              have hsl3 : ∀ Y, (Instr.slice 22 (.slice A9 ask.length c9) none (some (.int .i64 (m : Int))) none).run Try.prog Y = .ok (.slice A9 tk2.length c9) Y := fun Y => by rw [l3]; exact run_sl_to A9 (by omega) Y
              have hsl4 : ∀ Y, (Instr.slice 22 (.slice A9 ask.length c9) (some (.int .i64 (m : Int))) none none).run Try.prog Y = .ok (.slice As2 dk2.length (c9 - m)) Y := fun Y => by rw [← l4, hAs2, Nat.mul_one]; exact run_sl_from A9 hma Y
              have t1 : tk1.length ≤ 100000 := by omega
              have t2 : dk1.length ≤ 100000 := by omega
              have t3 : tk2.length ≤ 100000 := by omega
              have t4 : dk2.length ≤ 100000 := by omega
              have hkl := K7.out.lt
              obtain ⟨xr, hxr⟩ : ∃ xr : RecC, xr = ⟨r.num, r.level, ⟨Az1, r.elems.length, cz1⟩, ⟨Az2, r.holes.length, cz2⟩, ⟨Az3, r.aparts.length, cz3⟩, ⟨Az4, r.news.length, cz4⟩⟩ := ⟨_, rfl⟩
              have HXR := Lib.hid (show [xr].flatMap RecC.cells = [.int .i64 r.num, .int .i64 r.level, .slice Az1 r.elems.length cz1, .slice Az2 r.holes.length cz2, .slice Az3 r.aparts.length cz3, .slice Az4 r.news.length cz4] by rw [hxr]; rfl)
              have HXX := Lib.hid (show ∀ Y, RecAt n D Y r Az1 cz1 Az2 cz2 Az3 cz3 Az4 cz4 → RcRel n D Y (k, r) xr from fun Y h => by rw [hxr]; exact ⟨rfl, rfl, rfl, rfl, rfl, rfl, h⟩)
              have HDK1 := Lib.hid (show RowRd wr 6 RecC.cells As1 (c12 - m) dk1 by
               rw [hdk1, hAs1]
               have h := HO9.out
               rw [← HM9.out] at h
               exact (ownsRow_rd RecC.cells_length h).suffix m (by rw [HM9.out]; exact hm))
              have HTK1 := Lib.hid (show wr.ownsRow 0 47 6 (.slice A12 tk1.length c12) tk1.length (tk1.flatMap RecC.cells) by
               rw [htk1]
               have h := HO9.out
               rw [← HM9.out] at h
               exact own_take RecC.cells_length (by decide) h m (by rw [HM9.out]; exact hm))
              have HEP := Lib.hid (show ∀ Y, Each2 (RcRel n D Y) R m9 → RcRel n D Y (k, r) xr → Each2 (RcRel n D Y) (put cmpKR R (k, r)) (tk1 ++ ([xr] ++ dk1)) from fun Y h1 h2 => by
               rw [HINS.out, htk1, hdk1]
               exact (h1.take_ m).append (.cons h2 (h1.drop_ m)))
              have HD2E := Lib.hid hdk2
              have HA2E := Lib.hid hAs2
              have HT2E := Lib.hid htk2
              have HAP := Lib.hid (show tk2 ++ ([k] ++ dk2) = (put cmpKR R (k, r)).map (·.1) by
               rw [HINS.out, htk2, hdk2, HAS.out, List.map_append, List.map_cons, List.map_take, List.map_drop]
               rfl)
              obtain ⟨z0, z1, z2, z3, z4, z5⟩ := K7.out.c6
              clear l1 l2 l3 l4 htk1 hdk1 htk2 hdk2 hAs1 hAs2 hxr
              have HXL1 := HXR
              refine wp_region_E (fun w9 => Below wr.heap.size wr w9) [(0, 0), (1, 0), (2, 0), (3, 1), (5, 0), (6, 0), (7, 0), (4, 2), (8, 2), (9, 2), (10, 0)] (by kernel_rfl) (by kernel_rfl) (fun KK hKK => ?_)
              simp only [beside, List.filterMap_cons, List.filterMap_nil, List.getElem?_toArray, List.getElem?_cons_zero, List.getElem?_cons_succ, Option.map_some]
              repeat ((first | (refine wpX_w ?_ (Or.inl ⟨by rfl, fun w9 => ?_⟩) ?_; rotate_left 1; go_simp; with_reducible rfl) | (refine wpX_l ?_ (((Below.refl _ _).drew)) (Or.inl ⟨by rfl, fun w9 hw9 => ?_⟩) ?_; rotate_left 1; obtain ⟨hc9, hf9⟩ := bcell hw9; go_simp; with_reducible rfl) | refine wpX_w undef (Or.inr ⟨by rfl, rfl⟩) ?_ | refine wpX_l undef (((Below.refl _ _).drew)) (Or.inr ⟨by rfl, rfl⟩) ?_); go_frame)
              refine wpX_es (fun K9_ hK9_ => ?_)
              go_simp
              obtain ⟨wa1, hwa⟩ : ∃ wa, wa = (wr.alloc (.cells #[.int .i64 r.num, .int .i64 r.level, .slice Az1 r.elems.length cz1, .slice Az2 r.holes.length cz2, .slice Az3 r.aparts.length cz3, .slice Az4 r.news.length cz4] 47)).drew := ⟨_, rfl⟩
              have hba : Below wr.heap.size wr wa1 := by rw [hwa]; exact Below.drew ((Below.refl _ _).alloc (Nat.le_refl _) _)
              have HOa1 := Lib.hid (show wa1.ownsRow 0 47 6 (.slice (some ⟨wr.heap.size, 0, none⟩) 1 1) 1 ([xr].flatMap RecC.cells) by
               rw [hwa, HXL1.out]; exact ownsRow_new (own_one [.int .i64 r.num, .int .i64 r.level, .slice Az1 r.elems.length cz1, .slice Az2 r.holes.length cz2, .slice Az3 r.aparts.length cz3, .slice Az4 r.news.length cz4] rfl) ((Below.refl _ _).drew))
              have HBa1 := Lib.hid hba
              rw [← hwa]
              clear hwa hba
              refine hK9_ _ _ HBa1.out ?_
              clear hK9_ K9_
              refine wpX_es (fun K9_ hK9_ => ?_)
              refine step_append_src _ rfl _ _ 23 rfl 47 j0 _ 6 112 Try.underlying23 hj0 hy0 hy1 hy2 rfl (by omega) (.slice (some ⟨wr.heap.size, 0, none⟩) 1 1) 1 ([xr].flatMap RecC.cells) rfl HOa1.out As1 dk1.length (c12 - m) (dk1.flatMap RecC.cells) rfl (flat_length RecC.cells_length _) ((HDK1.out.new_ HBa1.out).news RecC.cells_length (by omega)) (one_RecC _) (by unfold maxLen; omega) (by omega) ?_
              intro vb wb1 hown1 hg1 hnil1 hat1
              obtain ⟨AS, cS, rfl, hoS, hAS, hbS⟩ := grown_any (xs := [xr]) (B := wr.heap.size) hown1 hg1 hat1 (fun g hg => by simp only [Value.ownBlock, Option.some.injEq] at hg; omega) HBa1.out.size
              obtain ⟨sl, hsl⟩ : ∃ sl, sl = [xr] ++ dk1 := ⟨_, rfl⟩
              rw [← hsl] at hoS ⊢
              have hsln : sl.length ≤ 100001 := by rw [hsl, List.length_append]; simp; omega
              have HSL1 := Lib.hid hsl
              have HOS1 := Lib.hid hoS
              have HBb1 := Lib.hid (HBa1.out.trans hbS)
              clear hown1 hg1 hnil1 hat1 hoS hAS hbS hsl
              refine hK9_ _ _ HBb1.out ?_
              clear hK9_ K9_
              refine wpX_e (by kernel_rfl) (fun K9_ hK9_ => ?_)
              refine step_append_src _ rfl _ _ 23 rfl 47 j0 _ 6 112 Try.underlying23 hj0 hy0 hy1 hy2 rfl (by omega) (.slice A12 tk1.length c12) tk1.length (tk1.flatMap RecC.cells) rfl (ownsRow_new HTK1.out HBb1.out) AS sl.length cS (sl.flatMap RecC.cells) rfl (flat_length RecC.cells_length _) ((ownsRow_rd RecC.cells_length HOS1.out).news RecC.cells_length (by omega)) (one_RecC _) (by unfold maxLen; omega) (by omega) ?_
              intro vb wc1 hown1 hg1 hnil1 hat1
              obtain ⟨An1, cn1, rfl, hoN, hAN, hbN⟩ := grown_any (B := W1.heap.size) hown1 hg1 hat1 (fun g hg => HR7.out.b12 g (by rw [← hg]; exact ownBlock_len)) (by have := HBb1.out.size; omega)
              obtain ⟨nl1, hnl⟩ : ∃ nl, nl = tk1 ++ sl := ⟨_, rfl⟩
              rw [← hnl] at hoN hAN hat1 ⊢
              have HNL1 := Lib.hid (show nl1 = tk1 ++ ([xr] ++ dk1) by rw [hnl, HSL1.out])
              have hFN : Fr (fun g => (Value.slice A12 tk1.length c12).ownBlock = some g) wb1 wc1 := (Fr.refl _ _).grown hg1 (fun g hg => .inl hg)
              have hvN : ∀ g, (Value.slice An1 nl1.length cn1).ownBlock = some g → (Value.slice A12 tk1.length c12).ownBlock = some g ∨ wb1.heap.size ≤ g := fun g hg => by
               rcases hat1 with h | h
               · exact .inl (h ▸ hg)
               · rw [h] at hg; injection hg with hg; exact .inr (by omega)
              have hB8 : W1.heap.size ≤ wb1.heap.size := Nat.le_trans hB7 HBb1.out.size
              have HR8 := Lib.hid ((HR7.out.new_ HBb1.out hB7).recs_ hB8 hoN (by rw [HNL1.out]; exact HEP.out wb1 (HE9.out.imp fun _ _ hx => hx.keep (D' := D) HBb1.out.size (fun j hj hl => ⟨hj, HBb1.out.block j hl⟩)) (HXX.out _ (HRA.out.keep (D' := D) HBb1.out.size (fun j hj hl => ⟨hj, HBb1.out.block j hl⟩)))) (hFN.mono (fun g _ hg => by rw [← hg]; exact ownBlock_len)) (fun g hg => (hvN g hg).imp (fun h => by rw [← h]; exact ownBlock_len) id))
              have HK8 := Lib.hid ((K7.out.new_ HBb1.out).fr hFN (fun e => by have := HNK.out tk (by rw [← e]; exact ownBlock_len); omega))
              have HRA8 := Lib.hid ((HRA.out.keep (D' := D) HBb1.out.size (fun j hj hl => ⟨hj, HBb1.out.block j hl⟩)).frB hFN (fun g hg => HR7.out.b12 g (by rw [← hg]; exact ownBlock_len)) HR7.out.dB)
              have hB9c : W1.heap.size ≤ wc1.heap.size := HR8.out.bel.size
              clear hown1 hg1 hnil1 hat1 hoN hAN hbN hFN hvN hnl
              refine hK9_ _ _ ?_
              clear hK9_ K9_
              repeat ((first | (refine wpX_w ?_ (Or.inl ⟨by rfl, fun w9 => ?_⟩) ?_; rotate_left 1; go_simp; with_reducible rfl) | (refine wpX_l ?_ (HBb1.out) (Or.inl ⟨by rfl, fun w9 hw9 => ?_⟩) ?_; rotate_left 1; obtain ⟨hc9, hf9⟩ := bcell hw9; go_simp; with_reducible rfl) | refine wpX_w undef (Or.inr ⟨by rfl, rfl⟩) ?_ | refine wpX_l undef (HBb1.out) (Or.inr ⟨by rfl, rfl⟩) ?_); go_frame)
              refine wpX_nil ?_
              simp only [OnlyN_normal]
              refine hKK _ _ ?_
              clear hKK KK
              have HDK2 := Lib.hid (show RowRd wc1 1 Int.cells1 As2 (c9 - m) dk2 by rw [HD2E.out, HA2E.out]; exact (ownsRow_rd Int.cells1_length HR8.out.a).suffix m hma)
              have HTK2 := Lib.hid (show wc1.ownsRow 0 3 1 (.slice A9 tk2.length c9) tk2.length (tk2.flatMap Int.cells1) by
               rw [HT2E.out]
               exact own_take Int.cells1_length (by decide) HR8.out.a m hma)
              have HXL2 := Lib.hid (show [k].flatMap Int.cells1 = [.int .i64 k] from rfl)
              clear z0 z1 z2 z3 z4 z5 hsl1 hsl2 HO9 HE9 HM9 HR7 K7 HRA HXL1 HXR HXX HDK1 HTK1 HEP HOa1 HOS1 HBa1 HBb1 HRD9
              go_upto_region 20 with fail
              refine wp_region_E (fun w9 => Below wc1.heap.size wc1 w9) [(0, 0), (1, 0), (2, 0), (3, 0), (5, 0), (6, 0), (7, 0), (4, 2), (8, 2), (9, 2), (10, 0)] (by kernel_rfl) (by kernel_rfl) (fun KK hKK => ?_)
              simp only [beside, List.filterMap_cons, List.filterMap_nil, List.getElem?_toArray, List.getElem?_cons_zero, List.getElem?_cons_succ, Option.map_some]
              repeat ((first | (refine wpX_w ?_ (Or.inl ⟨by rfl, fun w9 => ?_⟩) ?_; rotate_left 1; go_simp; with_reducible rfl) | (refine wpX_l ?_ (((Below.refl _ _).drew)) (Or.inl ⟨by rfl, fun w9 hw9 => ?_⟩) ?_; rotate_left 1; obtain ⟨hc9, hf9⟩ := bcell hw9; go_simp; with_reducible rfl) | refine wpX_w undef (Or.inr ⟨by rfl, rfl⟩) ?_ | refine wpX_l undef (((Below.refl _ _).drew)) (Or.inr ⟨by rfl, rfl⟩) ?_); go_frame)
              refine wpX_es (fun K9_ hK9_ => ?_)
              go_simp
              obtain ⟨wa2, hwa⟩ : ∃ wa, wa = (wc1.alloc (.cells #[.int .i64 k] 3)).drew := ⟨_, rfl⟩
              have hba : Below wc1.heap.size wc1 wa2 := by rw [hwa]; exact Below.drew ((Below.refl _ _).alloc (Nat.le_refl _) _)
              have HOa2 := Lib.hid (show wa2.ownsRow 0 3 1 (.slice (some ⟨wc1.heap.size, 0, none⟩) 1 1) 1 ([k].flatMap Int.cells1) by
               rw [hwa, HXL2.out]; exact ownsRow_new (own_one [.int .i64 k] rfl) ((Below.refl _ _).drew))
              have HBa2 := Lib.hid hba
              rw [← hwa]
              clear hwa hba
              refine hK9_ _ _ HBa2.out ?_
              clear hK9_ K9_
              refine wpX_es (fun K9_ hK9_ => ?_)
              refine step_append_src _ rfl _ _ 22 rfl 3 i0 _ 1 8 Try.underlying22 hi0 hz0 hz1 hz2 rfl (by omega) (.slice (some ⟨wc1.heap.size, 0, none⟩) 1 1) 1 ([k].flatMap Int.cells1) rfl HOa2.out As2 dk2.length (c9 - m) (dk2.flatMap Int.cells1) rfl (flat_length Int.cells1_length _) ((HDK2.out.new_ HBa2.out).news Int.cells1_length (by omega)) (one_Int _) (by unfold maxLen; omega) (by omega) ?_
              intro vb wb2 hown1 hg1 hnil1 hat1
              obtain ⟨AS, cS, rfl, hoS, hAS, hbS⟩ := grown_any (xs := [k]) (B := wc1.heap.size) hown1 hg1 hat1 (fun g hg => by simp only [Value.ownBlock, Option.some.injEq] at hg; omega) HBa2.out.size
              obtain ⟨sl, hsl⟩ : ∃ sl, sl = [k] ++ dk2 := ⟨_, rfl⟩
              rw [← hsl] at hoS ⊢
              have hsln : sl.length ≤ 100001 := by rw [hsl, List.length_append]; simp; omega
              have HSL2 := Lib.hid hsl
              have HOS2 := Lib.hid hoS
              have HBb2 := Lib.hid (HBa2.out.trans hbS)
              clear hown1 hg1 hnil1 hat1 hoS hAS hbS hsl
              refine hK9_ _ _ HBb2.out ?_
              clear hK9_ K9_
              refine wpX_e (by kernel_rfl) (fun K9_ hK9_ => ?_)
              refine step_append_src _ rfl _ _ 22 rfl 3 i0 _ 1 8 Try.underlying22 hi0 hz0 hz1 hz2 rfl (by omega) (.slice A9 tk2.length c9) tk2.length (tk2.flatMap Int.cells1) rfl (ownsRow_new HTK2.out HBb2.out) AS sl.length cS (sl.flatMap Int.cells1) rfl (flat_length Int.cells1_length _) ((ownsRow_rd Int.cells1_length HOS2.out).news Int.cells1_length (by omega)) (one_Int _) (by unfold maxLen; omega) (by omega) ?_
              intro vb wc2 hown1 hg1 hnil1 hat1
              obtain ⟨An2, cn2, rfl, hoN, hAN, hbN⟩ := grown_any (B := W1.heap.size) hown1 hg1 hat1 (fun g hg => HR8.out.b9 g (by rw [← hg]; exact ownBlock_len)) (by have := HBb2.out.size; omega)
              obtain ⟨nl2, hnl⟩ : ∃ nl, nl = tk2 ++ sl := ⟨_, rfl⟩
              rw [← hnl] at hoN hAN hat1 ⊢
              have HNL2 := Lib.hid (show nl2 = tk2 ++ ([k] ++ dk2) by rw [hnl, HSL2.out])
              have hFN : Fr (fun g => (Value.slice A9 tk2.length c9).ownBlock = some g) wb2 wc2 := (Fr.refl _ _).grown hg1 (fun g hg => .inl hg)
              have hvN : ∀ g, (Value.slice An2 nl2.length cn2).ownBlock = some g → (Value.slice A9 tk2.length c9).ownBlock = some g ∨ wb2.heap.size ≤ g := fun g hg => by
               rcases hat1 with h | h
               · exact .inl (h ▸ hg)
               · rw [h] at hg; injection hg with hg; exact .inr (by omega)
              have hB10 : W1.heap.size ≤ wb2.heap.size := Nat.le_trans hB9c HBb2.out.size
              have HR9 := Lib.hid ((HR8.out.new_ HBb2.out hB9c).asked_ hB10 hoN (hFN.mono (fun g _ hg => by rw [← hg]; exact ownBlock_len)) (fun g hg => (hvN g hg).imp (fun h => by rw [← h]; exact ownBlock_len) id))
              have HK9 := Lib.hid ((HK8.out.new_ HBb2.out).fr hFN (fun e => own_blk_ne (HR8.out.new_ HBb2.out hB9c).a (HK8.out.new_ HBb2.out) (by decide) (by rw [← e]; exact ownBlock_len)))
              have HRA9 := Lib.hid ((HRA8.out.keep (D' := D) HBb2.out.size (fun j hj hl => ⟨hj, HBb2.out.block j hl⟩)).frB hFN (fun g hg => HR8.out.b9 g (by rw [← hg]; exact ownBlock_len)) HR8.out.dB)
              clear hown1 hg1 hnil1 hat1 hoN hAN hbN hFN hvN hnl
              refine hK9_ _ _ ?_
              clear hK9_ K9_
              repeat ((first | (refine wpX_w ?_ (Or.inl ⟨by rfl, fun w9 => ?_⟩) ?_; rotate_left 1; go_simp; with_reducible rfl) | (refine wpX_l ?_ (HBb2.out) (Or.inl ⟨by rfl, fun w9 hw9 => ?_⟩) ?_; rotate_left 1; obtain ⟨hc9, hf9⟩ := bcell hw9; go_simp; with_reducible rfl) | refine wpX_w undef (Or.inr ⟨by rfl, rfl⟩) ?_ | refine wpX_l undef (HBb2.out) (Or.inr ⟨by rfl, rfl⟩) ?_); go_frame)
              refine wpX_nil ?_
              simp only [OnlyN_normal]
              refine hKK _ _ ?_
              clear hKK KK
              have HR9 := Lib.hid (show R1 n W1.heap.size D W1 todo dn ((put cmpKR R (k, r)).map (·.1)) (put cmpKR R (k, r)) (.slice A7 todo.length (c7 - 1)) (.slice A8n dn.length c8n) (.slice An2 nl2.length cn2) (.slice An1 nl1.length cn1) wc2 by rw [← HAP.out, ← HNL2.out]; exact HR9.out)
              have hB10 : W1.heap.size ≤ wc2.heap.size := HR9.out.bel.size
              obtain ⟨y0, y1, y2, y3, y4, y5⟩ := HK9.out.c6
              have hyl := HK9.out.lt
              have hec := HRA9.out.1.cap
              have hel := (HSM.out k).1
              rw [← HRK.out] at hel
              clear HDK2 HTK2 HD2E HA2E HT2E HXL2 HR8 HK8 HRA8 HOa2 HOS2 HBa2 HBb2 hsl3 hsl4 HINS HAP
              go_wp2_with fail
              clear y0 y1 y2 y3 y4 y5 hyl
              go_loopw [7, 17] (fun v s wq => ∃ i : Nat, s = .int .i64 i ∧ i ≤ r.elems.length ∧ R1 n W1.heap.size D W1 (todo ++ pushesTo lv r.elems i) dn ((put cmpKR R (k, r)).map (·.1)) (put cmpKR R (k, r)) v (.slice A8n dn.length c8n) (.slice An2 nl2.length cn2) (.slice An1 nl1.length cn1) wq ∧ Blk wq tk 47 #[.int .i64 r.num, .int .i64 r.level, .slice Az1 r.elems.length cz1, .slice Az2 r.holes.length cz2, .slice Az3 r.aparts.length cz3, .slice Az4 r.news.length cz4] ∧ RecAt n D wq r Az1 cz1 Az2 cz2 Az3 cz3 Az4 cz4) (fun v s wq => r.elems.length - (intOf s).toNat)
              case atStart => exact ⟨0, rfl, Nat.zero_le _, by rw [pushesTo_zero, List.append_nil]; exact HR9.out, HK9.out, HRA9.out⟩
              case round =>
               clear HR9 HK9 HRA9 hB10
               obtain ⟨i, rfl, hi, hr, hk9, hra⟩ := hrel
               obtain ⟨A7, c7, rfl, _, _⟩ := hr.q.form
               have HRq := Lib.hid hr
               have HKq := Lib.hid hk9
               have HRAq := Lib.hid hra
               have hBq : W1.heap.size ≤ wr.heap.size := hr.bel.size
               clear hr
               by_cases hlt : i < r.elems.length
               · obtain ⟨e0, he0⟩ : ∃ e0, e0 = r.elems[i] := ⟨_, rfl⟩
                 obtain ⟨ge, oe, hA0, _, hge, -, -, -, -, -, -, -, -, -, -, -, -, q12, q13⟩ := at_TraceT hra.1 hlt
                 subst hA0
                 rw [← he0] at q12 q13
                 obtain ⟨-, -, y2, -, -, -⟩ := hk9.c6
                 have hyl := hk9.lt
                 have HE0 := Lib.hid he0
                 have j1 : (0 : Int) ≤ (i : Int) := by omega
                 have j2 : (i : Int) < (r.elems.length : Int) := by omega
                 clear he0 hk9 hra
                 by_cases hp1 : lv ≤ e0.level
                 · have d1 : decide (lv ≤ e0.level) = true := by simpa using hp1
                   by_cases hp2 : 0 < e0.cause
                   · have d2 : decide (0 < e0.cause) = true := by simpa using hp2
                     have HPU := Lib.hid (show pushesTo lv r.elems (i + 1) = pushesTo lv r.elems i ++ [e0.cause] by rw [HE0.out]; exact pushesTo_yes hlt (by rw [← HE0.out]; exact hp1) (by rw [← HE0.out]; exact hp2))
                     have hpl : (pushesTo lv r.elems i).length ≤ 1000 := by
                      have : (pushesTo lv r.elems i).length ≤ r.elems.length := by
                       unfold pushesTo
                       rw [List.length_map]
                       exact Nat.le_trans (List.length_filter_le _ _) (by simp; omega)
                      omega
                     have htl : todo.length ≤ 100000 := by
                      have h2 := HLEN.out
                      rw [HGN.out] at h2
                      unfold cost at h2
                      simp at h2
                      omega
                     have htlen : (todo ++ pushesTo lv r.elems i).length ≤ 110000 := by rw [List.length_append]; omega
                     obtain ⟨td, htd⟩ : ∃ td, td = todo ++ pushesTo lv r.elems i := ⟨_, rfl⟩
                     rw [← htd] at HRq htlen
                     obtain ⟨Y9, hY9⟩ : ∃ Y9, Y9 = wr.alloc (.cells #[.int .i64 e0.cause] 3) := ⟨_, rfl⟩
                     have hb9 : Below wr.heap.size wr Y9 := by rw [hY9]; exact (Below.refl _ _).alloc (Nat.le_refl _) _
                     have HY9 := Lib.hid hY9
                     have HRn := Lib.hid (HRq.out.new_ hb9 hBq)
                     have hBn : W1.heap.size ≤ Y9.heap.size := Nat.le_trans hBq hb9.size
                     have HKn := Lib.hid (HKq.out.new_ hb9)
                     have HRAn := Lib.hid (HRAq.out.keep (D' := D) hb9.size (fun j hj hl => ⟨hj, hb9.block j hl⟩))
                     have HNn := Lib.hid (show ∀ j u, ([.int .i64 e0.cause] : List Value)[j]? = some u → Y9.cell? ((⟨wr.heap.size, 0, none⟩ : Addr).add j) = some u by rw [hY9]; exact World.news_of_block (heap_alloc_new _ _))
                     have HTD := Lib.hid htd
                     have HSV := Lib.hid (show (.slice A7 (todo ++ pushesTo lv r.elems i).length c7 : Value) = .slice A7 td.length c7 by rw [htd])
                     clear hp1 hp2 hpl htl hY9 hb9 htd
                     go_wp2_with (at_builtin; rw [← HY9.out]; refine wpList_append_Q Y9 rfl (.tmp 119) (.tmp 126) 22 rfl 3 i0 _ 1 8 Try.underlying22 hi0 hz0 hz1 hz2 rfl (by omega) (.slice A7 td.length c7) td.length (td.flatMap Int.cells1) (by rw [HTD.out]; rfl) HRn.out.q ⟨wr.heap.size, 0, none⟩ 1 [.int .i64 e0.cause] rfl rfl HNn.out (by intro u hu; simp only [List.mem_cons, List.not_mem_nil, or_false] at hu; subst hu; rfl) (by unfold maxLen; omega) (by omega) ?_; intro v1 w9 hq hf hon hat1; have HRz := Lib.hid (HRn.out.todo_ hBn hq hf hat1); have HKz := Lib.hid (hon _ _ _ (by decide) HKn.out); have HRAz := Lib.hid (HRAn.out.frB hf (fun g hg => (HRn.out.b7 g hg).1) HRn.out.dB); clear hq hf hon hat1)
                     go_roundw
                     case rel => exact ⟨i + 1, by go_num, by omega, by rw [HPU.out, ← List.append_assoc, ← HTD.out]; exact HRz.out, HKz.out, HRAz.out⟩
                     case measure => simp [intOf] <;> omega
                   · have d2 : decide (0 < e0.cause) = false := by simpa using hp2
                     have HPU := Lib.hid (show pushesTo lv r.elems (i + 1) = pushesTo lv r.elems i by rw [HE0.out] at hp2; exact pushesTo_no hlt (fun h => hp2 h.2))
                     clear hp1 hp2
                     go_wp2_with fail
                     go_roundw
                     case rel => exact ⟨i + 1, by go_num, by omega, by rw [HPU.out]; exact HRq.out, HKq.out, HRAq.out⟩
                     case measure => simp [intOf] <;> omega
                 · have d1 : decide (lv ≤ e0.level) = false := by simpa using hp1
                   have HPU := Lib.hid (show pushesTo lv r.elems (i + 1) = pushesTo lv r.elems i by rw [HE0.out] at hp1; exact pushesTo_no hlt (fun h => hp1 h.1))
                   clear hp1
                   go_wp2_with fail
                   go_roundw
                   case rel => exact ⟨i + 1, by go_num, by omega, by rw [HPU.out]; exact HRq.out, HKq.out, HRAq.out⟩
                   case measure => simp [intOf] <;> omega
               · obtain rfl : i = r.elems.length := by omega
                 obtain ⟨-, -, y2, -, -, -⟩ := hk9.c6
                 have hyl := hk9.lt
                 have HPA := Lib.hid (pushesTo_all lv r)
                 clear hk9 hra
                 go_wp2_with fail
                 go_roundg (cost (lookR l) lv (l.map RecordT.num) (todo ++ pushes lv r) (done ++ [k]))
                 case measure =>
                  have := cost_new (lookR l) lv (l.map RecordT.num) HKEYS.out (todo := todo) HD.out HLK.out
                  rw [← HRK.out] at this
                  rw [HGN.out]; omega
                 case rel =>
                  have h1 := cost_new (lookR l) lv (l.map RecordT.num) HKEYS.out (todo := todo) HD.out HLK.out
                  rw [← HRK.out] at h1
                  have h2 := HLEN.out
                  rw [HGN.out] at h2
                  refine ⟨todo ++ pushes lv r, done ++ [k], ?_, ?_, by rw [← HRE.out, reach_new (lookR l) lv (l.map RecordT.num) HKEYS.out HD.out HLK.out, HRK.out], rfl, by simp; omega⟩
                  · rw [lostOf_snoc, if_pos HLK.out]; rfl
                  · rw [recsOf_snoc, addR, if_pos HLK.out, ← HRR.out, ← HRK.out, ← HDN.out, ← HPA.out]
                    exact HRq.out
       · have HD := Lib.hid (show k ∈ done by simpa using HHK.out)
         clear HHK HHAS
         go_wp2_with fail
         go_roundg (cost (lookR l) lv (l.map RecordT.num) todo done)
         case measure => rw [HGN.out]; unfold cost; simp
         case rel => exact ⟨todo, done, rfl, (by rw [← HRR.out, ← HAS.out]; exact HR2.out), by rw [← HRE.out, reach_seen (lookR l) lv (l.map RecordT.num) HD.out], rfl, by have := HLEN.out; rw [HGN.out] at this; unfold cost at this ⊢; simp at this; omega⟩
end Go.Proofs.Ytnfgilbaglfkeaa
