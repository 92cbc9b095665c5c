/-
  Texts put together: RefRen1, RefRen2.
-/
import Derived.Test.YtffemfglngikbaaGreatBg
import Derived.Test.YtffemfglngikbaaGreatBp
import Derived.Test.YtffemfglngikbaaGreatBd
namespace Go.Proofs.YtffemfglngikbaaGreat
open Go.RowKit Go.Shelf
def otherT : List ByteArray → List ByteArray → ByteArray → ByteArray
 | a :: l, b :: m, v => if a = v then b else otherT l m v
 | _, _, v => v
theorem otherT_step {l m : List ByteArray} {i : Nat} (h1 : i < l.length) (h2 : i < m.length) (v : ByteArray) : otherT (l.drop i) (m.drop i) v = if l[i] = v then m[i] else otherT (l.drop (i + 1)) (m.drop (i + 1)) v := by
 rw [List.drop_eq_getElem_cons h1, List.drop_eq_getElem_cons h2]; rfl
theorem otherT_end {l m : List ByteArray} {i : Nat} (h : ¬ (i < l.length ∧ i < m.length)) (v : ByteArray) : otherT (l.drop i) (m.drop i) v = v := by
 by_cases h1 : i < l.length
 · rw [List.drop_eq_nil_of_le (show m.length ≤ i by omega)]
   cases l.drop i <;> rfl
 · rw [List.drop_eq_nil_of_le (show l.length ≤ i by omega)]; rfl
theorem empty_of {v : ByteArray} (h : v.toList = []) : v = ⟨#[]⟩ := by
 apply Go.WideShapes.bytes_inj
 rw [ByteArray.toList_eq] at h
 rw [h]
theorem toList_ne {u v : ByteArray} (h : ¬ u = v) : ¬ u.toList = v.toList := fun e => h (Go.WideShapes.bytes_inj (by rw [ByteArray.toList_eq, ByteArray.toList_eq] at e; exact e))
set_option maxRecDepth 100000 in
set_option maxHeartbeats 4000000 in
theorem otherR_is {D D' : Nat → Prop} (v : ByteArray) (l m : List ByteArray) (A B : Option Addr) (c d : Nat) (w : World) (hl : RowR repStr D w A c l) (hm : RowR repStr D' w B d m) :
 Calls Tryz.prog 168 #[.string v, .slice A l.length c, .slice B m.length d] w fun e w' => e = .returned (.string (otherT l m v)) ∧ Below w.heap.size w w' := by
 have HL := Lib.hid hl
 have HM := Lib.hid hm
 have hlc := hl.cap
 have hmc := hm.cap
 have HR := Lib.hid (show otherT l m v = otherT (l.drop 0) (m.drop 0) v from rfl)
 clear hl hm
 go_enter Tryz.func168, Tryz.ntmps168
 go_wp2_with fail
 go_loopw [7] (fun s wr => ∃ i : Nat, s = .int .i64 i ∧ i ≤ l.length ∧ otherT l m v = otherT (l.drop i) (m.drop i) v ∧ Below w.heap.size w wr) (fun s wr => l.length - (intOf s).toNat)
 case atStart => exact ⟨0, rfl, Nat.zero_le _, rfl, Below.refl _ _⟩
 case round =>
  obtain ⟨i, rfl, hi, hR, hB⟩ := hrel
  have HB := Lib.hid hB
  have HRR := Lib.hid hR
  clear hB hR HR
  by_cases hlt : i < l.length
  · have b1 : (0 : Int) ≤ (i : Int) := by omega
    have b2 : (i : Int) < (l.length : Int) := by omega
    have d2 : decide ((i : Int) < (l.length : Int)) = true := by simpa using b2
    by_cases hlm : i < m.length
    · obtain ⟨x, hx⟩ : ∃ x, x = l[i] := ⟨_, rfl⟩
      obtain ⟨y, hy⟩ : ∃ y, y = m[i] := ⟨_, rfl⟩
      obtain ⟨g, off, rfl, hgs, q0⟩ := str_at (HL.out.new_ HB.out) hlt
      obtain ⟨g2, off2, rfl, hgs2, p0⟩ := str_at (HM.out.new_ HB.out) hlm
      rw [← hx] at q0
      rw [← hy] at p0
      have HST := Lib.hid (show otherT l m v = if x = v then y else otherT (l.drop (i + 1)) (m.drop (i + 1)) v by rw [HRR.out, otherT_step hlt hlm, hx, hy])
      have b4 : (i : Int) < (m.length : Int) := by omega
      have d4 : decide ((i : Int) < (m.length : Int)) = true := by simpa using b4
      clear hx hy HRR
      by_cases he : x = v
      · have e1 : (x.toList == v.toList) = true := by rw [he]; exact beq_self_eq_true _
        have e2 : decide (x.toList = v.toList) = true := by rw [he]; simp
        have e3 : x.toList = v.toList := by rw [he]
        have HRE := Lib.hid (show otherT l m v = y by rw [HST.out, if_pos he])
        clear he HST
        go_wp2_with fail
        go_ret
        exact ⟨by rw [HRE.out] <;> rfl, HB.out⟩
      · have e3 : ¬ x.toList = v.toList := toList_ne he
        have e1 : (x.toList == v.toList) = false := by simpa using e3
        have e2 : decide (x.toList = v.toList) = false := by simpa using e3
        have HRE := Lib.hid (show otherT l m v = otherT (l.drop (i + 1)) (m.drop (i + 1)) v by rw [HST.out, if_neg he])
        clear he HST
        go_wp2_with fail
        go_roundw
        case rel => exact ⟨i + 1, by go_num, by omega, HRE.out, HB.out⟩
        case measure => simp [intOf] <;> omega
    · have b4 : ¬ (i : Int) < (m.length : Int) := by omega
      have d4 : decide ((i : Int) < (m.length : Int)) = false := by simpa using b4
      have HRE := Lib.hid (show otherT l m v = v by rw [HRR.out, otherT_end (fun h => hlm h.2)])
      clear HRR
      go_wp2_with fail
      go_ret
      exact ⟨by rw [HRE.out] <;> rfl, HB.out⟩
  · have b2 : ¬ (i : Int) < (l.length : Int) := by omega
    have d2 : decide ((i : Int) < (l.length : Int)) = false := by simpa using b2
    have HRE := Lib.hid (show otherT l m v = v by rw [HRR.out, otherT_end (fun h => hlt h.1)])
    clear HRR
    go_wp2_with fail
    go_ret
    exact ⟨by rw [HRE.out] <;> rfl, HB.out⟩
def OtherOk (N I : Value) (w0 : World) (t : ByteArray → ByteArray) : Prop := ∀ v W, Below w0.heap.size w0 W → Calls Tryz.prog 168 #[.string v, N, I] W fun e W' => e = .returned (.string (t v)) ∧ Below W.heap.size W W'
set_option maxRecDepth 100000 in
set_option maxHeartbeats 4000000 in
theorem ratomR_is {N I : Value} {w0 : World} {t : ByteArray → ByteArray} (hN : OtherOk N I w0 t) (a : AtomT) (w : World) (hw : Below w0.heap.size w0 w) :
 Calls Tryz.prog 169 #[.agg #[.string a.var, .int .i64 a.sym.kind, .string a.sym.text, .int .i64 a.sym.n], N, I] w fun e w' => e = .returned (.agg #[.string (oneR t a.var), .int .i64 a.sym.kind, .string a.sym.text, .int .i64 a.sym.n]) ∧ Below w.heap.size w w' := by
 have HN := Lib.hid (show ∀ v W, Below w.heap.size w W → _ from fun v W hW => hN v W (hw.trans (hW.mono hw.size)))
 obtain ⟨b, hb0⟩ : ∃ b, b = oneR t a.var := ⟨_, rfl⟩
 rw [← hb0]
 have HBB := Lib.hid hb0
 clear hN hw hb0
 go_enter Tryz.func169, Tryz.ntmps169
 go_upto_region 1 with fail
 obtain ⟨w1, hw1⟩ : ∃ w1, w1 = ((w.alloc (.cells #[.string a.var, .int .i64 a.sym.kind, .string a.sym.text, .int .i64 a.sym.n] 94)).alloc (.cells #[.string ⟨#[]⟩, .int .i64 0, .string ⟨#[]⟩, .int .i64 0] 94)) := ⟨_, rfl⟩
 rw [← hw1]
 have HB := Lib.hid (show Below w.heap.size w w1 by rw [hw1]; exact (by repeat (first | exact Below.refl _ _ | refine Below.drew ?_ | refine Below.al ?_ _ | refine Below.sc ?_ _)))
 have Kp := Lib.hid (show Blk w1 (w.heap.size) 94 #[.string a.var, .int .i64 a.sym.kind, .string a.sym.text, .int .i64 a.sym.n] by rw [hw1]; exact ((Blk.new w 94 #[.string a.var, .int .i64 a.sym.kind, .string a.sym.text, .int .i64 a.sym.n]).alloc (.cells #[.string ⟨#[]⟩, .int .i64 0, .string ⟨#[]⟩, .int .i64 0] 94)))
 have Kr := Lib.hid (show Blk w1 (w.heap.size + 1) 94 #[.string ⟨#[]⟩, .int .i64 0, .string ⟨#[]⟩, .int .i64 0] by rw [hw1]; have hh := (Blk.new (w.alloc (.cells #[.string a.var, .int .i64 a.sym.kind, .string a.sym.text, .int .i64 a.sym.n] 94)) 94 #[.string ⟨#[]⟩, .int .i64 0, .string ⟨#[]⟩, .int .i64 0]); simp only [World.size_alloc] at hh; exact hh)
 clear hw1
 obtain ⟨p0, p1, p2, p3⟩ := Kp.out.c4
 have pf0 := Kp.out.frozen 0
 have pf1 := Kp.out.frozen 1
 have pf2 := Kp.out.frozen 2
 have pf3 := Kp.out.frozen 3
 have pz := Kp.out.lt
 obtain ⟨r0, r1, r2, r3⟩ := Kr.out.c4
 have rf0 := Kr.out.frozen 0
 have rf1 := Kr.out.frozen 1
 have rf2 := Kr.out.frozen 2
 have rf3 := Kr.out.frozen 3
 have rz := Kr.out.lt
 by_cases hv : a.var.toList = []
 · have va : (a.var.toList == []) = true := by simp [hv]
   have vb : a.var.toList.isEmpty = true := by simp [hv]
   have vc : decide (a.var.toList = []) = true := by simp [hv]
   have HE := Lib.hid (show b = a.var by rw [HBB.out, oneR, if_pos hv]; exact (empty_of hv).symm)
   clear hv
   go_wp2_with fail
   rw [HE.out]
   exact bodyPost_ret (v := .agg #[.string a.var, .int .i64 a.sym.kind, .string a.sym.text, .int .i64 a.sym.n]) (by simp [results, Tryz.results169, go_sem, *]) rfl ⟨rfl, by (repeat (first | exact Below.refl _ _ | exact HB.out | refine Below.drew ?_ | refine Below.al ?_ _ | refine Below.sc ?_ _))⟩
 · have va : (a.var.toList == []) = false := by simp [hv]
   have vb : a.var.toList.isEmpty = false := by simp [hv]
   have vc : decide (a.var.toList = []) = false := by simp [hv]
   have HE := Lib.hid (show b = t a.var by rw [HBB.out, oneR, if_neg hv])
   clear hv
   go_wp2_with fail
   with_reducible refine (HN.out a.var _ (by (repeat (first | exact Below.refl _ _ | exact HB.out | refine Below.drew ?_ | refine Below.al ?_ _ | refine Below.sc ?_ _)))).mono ?_
   rintro e w2 ⟨rfl, hb⟩
   have hbs := Below.trans (show Below w1.heap.size w1 _ from (by (repeat (first | exact Below.refl _ _ | refine Below.drew ?_ | refine Below.al ?_ _ | refine Below.sc ?_ _)))) (hb.mono (by simp <;> omega))
   have Kp := Lib.hid (Kp.out.new_ hbs)
   have Kr := Lib.hid (Kr.out.new_ hbs)
   have HB := Lib.hid (HB.out.trans (hbs.mono HB.out.size))
   have hsz2 := hbs.size
   clear p0 p1 p2 p3 pf0 pf1 pf2 pf3 pz r0 r1 r2 r3 rf0 rf1 rf2 rf3 rz hb hbs
   obtain ⟨p0, p1, p2, p3⟩ := Kp.out.c4
   have pf0 := Kp.out.frozen 0
   have pf1 := Kp.out.frozen 1
   have pf2 := Kp.out.frozen 2
   have pf3 := Kp.out.frozen 3
   have pz := Kp.out.lt
   obtain ⟨r0, r1, r2, r3⟩ := Kr.out.c4
   have rf0 := Kr.out.frozen 0
   have rf1 := Kr.out.frozen 1
   have rf2 := Kr.out.frozen 2
   have rf3 := Kr.out.frozen 3
   have rz := Kr.out.lt
   rw [← HE.out]
   go_wp2_with fail
   exact bodyPost_ret (v := .agg #[.string b, .int .i64 a.sym.kind, .string a.sym.text, .int .i64 a.sym.n]) (by simp [results, Tryz.results169, go_sem, *]) rfl ⟨rfl, by (repeat (first | exact Below.refl _ _ | exact HB.out | refine Below.drew ?_ | refine Below.al ?_ _ | refine Below.sc ?_ _))⟩
set_option maxRecDepth 100000 in
set_option maxHeartbeats 8000000 in
theorem rtestsR_is {N I : Value} {w0 : World} {t : ByteArray → ByteArray} (hN : OtherOk N I w0 t) (A : Option Addr) (c : Nat) (l : List TestT) {D : Nat → Prop} (w : World) (hw : Below w0.heap.size w0 w) (hrd : RowR repTestT D w A c l) (hs : SmT l) :
 Calls Tryz.prog 217 #[.slice A l.length c, N, I] w (FreshR repTestT (l.map (testR t)) w) := by
 obtain ⟨i0, hi0, hz0, hz1, hz2⟩ := infp inf_Sym
 obtain ⟨j0, hj0, hy0, hy1, hy2⟩ := infp inf_Test
 have hlc := hrd.cap
 have hl1 := hs.1
 have HRD := Lib.hid hrd
 have HS := Lib.hid hs
 have HN := Lib.hid (show ∀ v W, Below w.heap.size w W → _ from fun v W hW => hN v W (hw.trans (hW.mono hw.size)))
 obtain ⟨L, hL⟩ : ∃ L, L = l.map (testR t) := ⟨_, rfl⟩
 rw [← hL]
 have HLL := Lib.hid (show L.length = l.length by rw [hL, List.length_map])
 have HLG := Lib.hid (show ∀ k, (h : k < l.length) → ∃ h' : k < L.length, L[k] = testR t l[k] from fun k h => ⟨by rw [hL, List.length_map]; exact h, by simp [hL]⟩)
 clear hrd hs hN hw hL
 go_enter Tryz.func217, Tryz.ntmps217
 go_wp2_with fail
 go_loopw [7, 8] (fun v i wr => ∃ k : Nat, i = .int .i64 k ∧ k ≤ l.length ∧ Copies repTestT 141 w (L.take k) v wr) (fun v i wr => l.length - (intOf i).toNat)
 case atStart => exact ⟨0, rfl, Nat.zero_le _, Copies.nil _ _ _ (Below.refl _ _)⟩
 case round =>
  obtain ⟨k, rfl, hk, hC⟩ := hrel
  obtain ⟨C, A1, c1, rfl, h1, h2, h3, h4⟩ := hC
  have hkL : (L.take k).length = k := take_len (by rw [HLL.out]; exact hk)
  rw [hkL]
  by_cases hlt : k < l.length
  · have hrw := HRD.out.keep (D' := D) h4.size (fun j hj hl => ⟨hj, h4.block j hl⟩)
    obtain ⟨g, off, A3, c3, rfl, hDg, hg, q0, q1, q2, q3, q4, q5, hr3⟩ := at_TestT hrw hlt
    obtain ⟨y, hy⟩ : ∃ y, y = l[k] := ⟨_, rfl⟩
    have hy3 : y.list.length ≤ 1000 := by rw [hy]; exact HS.out.2 _ (List.getElem_mem hlt)
    rw [← hy] at q0 q1 q2 q3 q4 q5 hr3
    have hr4 := RowR.rd (hs := Sym.cells_length) hr3
    have hl3 := hr3.cap
    have b1 : (0 : Int) ≤ (k : Int) := by omega
    have b2 : (k : Int) < (l.length : Int) := by omega
    have HZ := Lib.hid (show L.take k ++ [testR t y] = L.take (k + 1) by
     obtain ⟨h', e⟩ := HLG.out k hlt
     rw [hy, ← e]
     exact take_snoc h')
    have H1 := Lib.hid h1
    have H2 := Lib.hid h2
    have H3 := Lib.hid h3
    have H4 := Lib.hid h4
    have HR4 := Lib.hid hr4
    have HKL := Lib.hid hkL
    clear hy hrw h1 h2 h3 h4 hr3 hr4 hkL
    go_upto_region 6 with fail
    obtain ⟨W2, hW2⟩ : ∃ W2, W2 = wr.alloc (.cells #[.int .i64 y.rel, .string y.var, .int .i64 y.sym.kind, .string y.sym.text, .int .i64 y.sym.n, .slice A3 y.list.length c3] 141) := ⟨_, rfl⟩
    have hB2 : Below wr.heap.size wr W2 := by rw [hW2]; exact (Below.refl _ _).alloc (Nat.le_refl _) _
    have hX2 : Blk W2 wr.heap.size 141 #[.int .i64 y.rel, .string y.var, .int .i64 y.sym.kind, .string y.sym.text, .int .i64 y.sym.n, .slice A3 y.list.length c3] := by rw [hW2]; exact Blk.new _ _ _
    rw [← hW2]
    have p5 : W2.cell? ⟨g, off + k * 6 + 5, none⟩ = some (.slice A3 y.list.length c3) := (hB2.cell (p := ⟨g, off + k * 6 + 5, none⟩) hg).trans q5
    clear hW2 q0 q1 q2 q3 q4 q5
    have HB4 := Lib.hid hB2
    have HX4 := Lib.hid hX2
    have hxl2 := hX2.lt
    clear hX2 hB2
    go_upto_region 7 with (at_builtin; refine wpList_append_src W2 rfl (.const (.slice none 0 0)) (.tmp 24) 27 rfl 38 i0 _ 3 32 Tryz.underlying27 hi0 hz0 hz1 hz2 rfl (by omega) (.slice none 0 0) 0 [] rfl (owns_nilC _ _ _) A3 y.list.length c3 (y.list.flatMap Sym.cells) rfl (flat_length Sym.cells_length _) ((HR4.out.new_ HB4.out).news Sym.cells_length (by omega)) (one_Sym _) (by unfold maxLen; omega) (by omega) ?_; intro v1 w5 hown1 hg1 hnil1 hat1; rw [Nat.zero_add, List.nil_append] at hown1; obtain ⟨A5, c5, rfl, ho5, hA5, hB5⟩ := fresh1_of hown1 hat1 rfl hg1; have hX5 := HX4.out.new_ hB5; have u5 := (hX5.cell 5).trans rfl; have g5 := hX5.frozen 5; have hxl5 := hX5.lt; have HB5 := Lib.hid hB5; have HO5 := Lib.hid ho5; have HA5 := Lib.hid hA5; have HX5 := Lib.hid hX5; clear hX5 hB5 ho5 hA5 hown1 hat1 hg1 hnil1 p5)
    obtain ⟨W6, hW6⟩ : ∃ W6, W6 = w5.setCell ⟨wr.heap.size, 5, none⟩ (.slice A5 y.list.length c5) := ⟨_, rfl⟩
    have hX5 := HX5.out
    have HB6 := Lib.hid (show Below wr.heap.size wr W6 by rw [hW6]; exact (HB4.out.trans (HB5.out.mono (by omega))).setCell (Nat.le_refl _) _)
    have HX6 := Lib.hid (show Blk W6 wr.heap.size 141 #[.int .i64 y.rel, .string y.var, .int .i64 y.sym.kind, .string y.sym.text, .int .i64 y.sym.n, .slice A5 y.list.length c5] by rw [hW6]; exact hX5.set_ 5 _)
    have HO6 := Lib.hid (show W6.ownsRow 0 38 3 (.slice A5 y.list.length c5) y.list.length (y.list.flatMap Sym.cells) by rw [hW6]; exact ownsRow_setCell_other (a := ⟨wr.heap.size, 5, none⟩) HO5.out (own_blk_ne HO5.out hX5 (by decide)) _)
    have HA6 := Lib.hid (show AIn A5 (NewD wr.heap.size W6) from HA5.out.mono (fun j hj => ⟨by have := hj.1; omega, by rw [hW6]; simpa using hj.2⟩))
    rw [← hW6]
    clear hW6 hX5 hxl2 hxl5 u5 g5 HO5 HX5 HB5 HA5 HX4 HB4
    have x1 : W6.cell? ⟨wr.heap.size, 1, none⟩ = some (.string y.var) := (HX6.out.cell 1).trans rfl
    have hxl6 := HX6.out.lt
    by_cases hv : y.var.toList = []
    · have va : (y.var.toList == []) = true := by simp [hv]
      have vb : y.var.toList.isEmpty = true := by simp [hv]
      have vc : decide (y.var.toList = []) = true := by simp [hv]
      have HTT := Lib.hid (show testR t y = ⟨y.rel, y.var, y.sym, y.list⟩ by rw [testR, oneR, if_pos hv, ← empty_of hv])
      clear hv
      have hB6 := HB6.out
      have hX6 := HX6.out
      have hB7 : Below wr.heap.size wr (W6.alloc (.cells #[.int .i64 y.rel, .string y.var, .int .i64 y.sym.kind, .string y.sym.text, .int .i64 y.sym.n, .slice A5 y.list.length c5] 141)) := hB6.alloc hB6.size _
      have hrow : RowR repSym (Plus C wr (W6.alloc (.cells #[.int .i64 y.rel, .string y.var, .int .i64 y.sym.kind, .string y.sym.text, .int .i64 y.sym.n, .slice A5 y.list.length c5] 141))) (W6.alloc (.cells #[.int .i64 y.rel, .string y.var, .int .i64 y.sym.kind, .string y.sym.text, .int .i64 y.sym.n, .slice A5 y.list.length c5] 141)) A5 c5 y.list := (Fresh1.row Sym.cells_length HO6.out HA6.out).keep (by simp) (fun j hj hl => ⟨.inr ⟨hj.1, by simp; have := hj.2; omega⟩, ((Below.refl W6.heap.size W6).alloc (Nat.le_refl _) _).block j hl⟩)
      have hown7 := H1.out.plus hB7
      have hrep7 : repTestT.rep (Plus C wr (W6.alloc (.cells #[.int .i64 y.rel, .string y.var, .int .i64 y.sym.kind, .string y.sym.text, .int .i64 y.sym.n, .slice A5 y.list.length c5] 141))) (W6.alloc (.cells #[.int .i64 y.rel, .string y.var, .int .i64 y.sym.kind, .string y.sym.text, .int .i64 y.sym.n, .slice A5 y.list.length c5] 141)) (testR t y) [.int .i64 y.rel, .string y.var, .int .i64 y.sym.kind, .string y.sym.text, .int .i64 y.sym.n, .slice A5 y.list.length c5] := by
       rw [HTT.out]
       exact rep_test (y := ⟨y.rel, y.var, y.sym, y.list⟩) hrow
      have hcl : ∀ j, Plus C wr (W6.alloc (.cells #[.int .i64 y.rel, .string y.var, .int .i64 y.sym.kind, .string y.sym.text, .int .i64 y.sym.n, .slice A5 y.list.length c5] 141)) j → j < (W6.alloc (.cells #[.int .i64 y.rel, .string y.var, .int .i64 y.sym.kind, .string y.sym.text, .int .i64 y.sym.n, .slice A5 y.list.length c5] 141)).heap.size := fun j hj => by
       rcases hj with hj | hj
       · have := (H2.out j hj).2; have := hB7.size; omega
       · exact hj.2
      obtain ⟨u0, u1, u2, u3, u4, u5⟩ := hX6.c6
      have hxl9 := hX6.lt
      have HB7 := Lib.hid hB7
      have HOW := Lib.hid hown7
      have HRE := Lib.hid hrep7
      have HCL := Lib.hid hcl
      have h63 : (L.take k).length + 1 ≤ maxLen := by rw [HKL.out]; unfold maxLen; omega
      have hby : ((L.take k).length + 1) * 80 ≤ 140737488355328 := by rw [HKL.out]; omega
      have H63 := Lib.hid h63
      have HBY := Lib.hid hby
      clear hB6 hB7 hX6 hrow hown7 hrep7 hcl h63 hby
      have HVV := Lib.hid (show Value.slice A1 k c1 = .slice A1 (L.take k).length c1 by rw [HKL.out])
      go_wp2_with (at_builtin; refine wpList_append_C _ rfl _ _ 57 rfl 141 j0 _ 6 80 Tryz.underlying57 hj0 hy0 hy1 hy2 rfl rfl (by omega) (Plus C wr (W6.alloc (.cells #[.int .i64 y.rel, .string y.var, .int .i64 y.sym.kind, .string y.sym.text, .int .i64 y.sym.n, .slice A5 y.list.length c5] 141))) HCL.out (.slice A1 (L.take k).length c1) (L.take k) HVV.out HOW.out ⟨W6.heap.size, 0, none⟩ 1 (testR t y) [.int .i64 y.rel, .string y.var, .int .i64 y.sym.kind, .string y.sym.text, .int .i64 y.sym.n, .slice A5 y.list.length c5] rfl (World.news_of_block (heap_alloc_new _ _)) (by intro u hu; simp only [List.mem_cons, List.not_mem_nil, or_false] at hu; rcases hu with rfl | rfl | rfl | rfl | rfl | rfl <;> rfl) HRE.out H63.out HBY.out ?_; intro v' w7 hap)
      have hfin : Copies repTestT 141 w (L.take k ++ [testR t y]) v' w7 := Copies.snoc H2.out H3.out H4.out HB7.out hap
      rw [HZ.out] at hfin
      go_roundw
      case rel => exact ⟨k + 1, by go_num, by omega, hfin⟩
      case measure => simp [intOf]; omega
    · have va : (y.var.toList == []) = false := by simp [hv]
      have vb : y.var.toList.isEmpty = false := by simp [hv]
      have vc : decide (y.var.toList = []) = false := by simp [hv]
      obtain ⟨v, hvv⟩ : ∃ v, v = t y.var := ⟨_, rfl⟩
      have HTT := Lib.hid (show testR t y = ⟨y.rel, v, y.sym, y.list⟩ by rw [testR, oneR, if_neg hv, hvv])
      clear hv
      go_wp2_with fail
      refine (HN.out y.var W6 (H4.out.trans (HB6.out.mono H4.out.size))).mono ?_
      rintro e w7 ⟨rfl, hb7⟩
      rw [← hvv]
      have hX7 := HX6.out.new_ hb7
      obtain ⟨W8, hW8⟩ : ∃ W8, W8 = w7.setCell ⟨wr.heap.size, 1, none⟩ (.string v) := ⟨_, rfl⟩
      have HB8 := Lib.hid (show Below wr.heap.size wr W8 by rw [hW8]; exact (HB6.out.trans (hb7.mono HB6.out.size)).setCell (Nat.le_refl _) _)
      have HX8 := Lib.hid (show Blk W8 wr.heap.size 141 #[.int .i64 y.rel, .string v, .int .i64 y.sym.kind, .string y.sym.text, .int .i64 y.sym.n, .slice A5 y.list.length c5] by rw [hW8]; exact hX7.set_ 1 _)
      have hO7 := ownsRow_new HO6.out hb7
      have HO8 := Lib.hid (show W8.ownsRow 0 38 3 (.slice A5 y.list.length c5) y.list.length (y.list.flatMap Sym.cells) by rw [hW8]; exact ownsRow_setCell_other (a := ⟨wr.heap.size, 1, none⟩) hO7 (own_blk_ne hO7 hX7 (by decide)) _)
      have HA8 := Lib.hid (show AIn A5 (NewD wr.heap.size W8) from HA6.out.mono (fun j hj => ⟨hj.1, by rw [hW8]; have := hj.2; have := hb7.size; simp; omega⟩))
      have u1 : w7.cell? ⟨wr.heap.size, 1, none⟩ = some (.string y.var) := (hX7.cell 1).trans rfl
      have g1 := hX7.frozen 1
      have hxl7 := hX7.lt
      clear hX7 hO7 hb7 hvv x1 hxl6 va vb vc
      go_upto_region 9 with fail
      rw [← hW8]
      clear hW8 u1 g1 hxl7
      have hB6 := HB8.out
      have hX6 := HX8.out
      have hB7 : Below wr.heap.size wr (W8.alloc (.cells #[.int .i64 y.rel, .string v, .int .i64 y.sym.kind, .string y.sym.text, .int .i64 y.sym.n, .slice A5 y.list.length c5] 141)) := hB6.alloc hB6.size _
      have hrow : RowR repSym (Plus C wr (W8.alloc (.cells #[.int .i64 y.rel, .string v, .int .i64 y.sym.kind, .string y.sym.text, .int .i64 y.sym.n, .slice A5 y.list.length c5] 141))) (W8.alloc (.cells #[.int .i64 y.rel, .string v, .int .i64 y.sym.kind, .string y.sym.text, .int .i64 y.sym.n, .slice A5 y.list.length c5] 141)) A5 c5 y.list := (Fresh1.row Sym.cells_length HO8.out HA8.out).keep (by simp) (fun j hj hl => ⟨.inr ⟨hj.1, by simp; have := hj.2; omega⟩, ((Below.refl W8.heap.size W8).alloc (Nat.le_refl _) _).block j hl⟩)
      have hown7 := H1.out.plus hB7
      have hrep7 : repTestT.rep (Plus C wr (W8.alloc (.cells #[.int .i64 y.rel, .string v, .int .i64 y.sym.kind, .string y.sym.text, .int .i64 y.sym.n, .slice A5 y.list.length c5] 141))) (W8.alloc (.cells #[.int .i64 y.rel, .string v, .int .i64 y.sym.kind, .string y.sym.text, .int .i64 y.sym.n, .slice A5 y.list.length c5] 141)) (testR t y) [.int .i64 y.rel, .string v, .int .i64 y.sym.kind, .string y.sym.text, .int .i64 y.sym.n, .slice A5 y.list.length c5] := by
       rw [HTT.out]
       exact rep_test (y := ⟨y.rel, v, y.sym, y.list⟩) hrow
      have hcl : ∀ j, Plus C wr (W8.alloc (.cells #[.int .i64 y.rel, .string v, .int .i64 y.sym.kind, .string y.sym.text, .int .i64 y.sym.n, .slice A5 y.list.length c5] 141)) j → j < (W8.alloc (.cells #[.int .i64 y.rel, .string v, .int .i64 y.sym.kind, .string y.sym.text, .int .i64 y.sym.n, .slice A5 y.list.length c5] 141)).heap.size := fun j hj => by
       rcases hj with hj | hj
       · have := (H2.out j hj).2; have := hB7.size; omega
       · exact hj.2
      obtain ⟨u0, u1, u2, u3, u4, u5⟩ := hX6.c6
      have hxl9 := hX6.lt
      have HB7 := Lib.hid hB7
      have HOW := Lib.hid hown7
      have HRE := Lib.hid hrep7
      have HCL := Lib.hid hcl
      have h63 : (L.take k).length + 1 ≤ maxLen := by rw [HKL.out]; unfold maxLen; omega
      have hby : ((L.take k).length + 1) * 80 ≤ 140737488355328 := by rw [HKL.out]; omega
      have H63 := Lib.hid h63
      have HBY := Lib.hid hby
      clear hB6 hB7 hX6 hrow hown7 hrep7 hcl h63 hby
      have HVV := Lib.hid (show Value.slice A1 k c1 = .slice A1 (L.take k).length c1 by rw [HKL.out])
      go_wp2_with (at_builtin; refine wpList_append_C _ rfl _ _ 57 rfl 141 j0 _ 6 80 Tryz.underlying57 hj0 hy0 hy1 hy2 rfl rfl (by omega) (Plus C wr (W8.alloc (.cells #[.int .i64 y.rel, .string v, .int .i64 y.sym.kind, .string y.sym.text, .int .i64 y.sym.n, .slice A5 y.list.length c5] 141))) HCL.out (.slice A1 (L.take k).length c1) (L.take k) HVV.out HOW.out ⟨W8.heap.size, 0, none⟩ 1 (testR t y) [.int .i64 y.rel, .string v, .int .i64 y.sym.kind, .string y.sym.text, .int .i64 y.sym.n, .slice A5 y.list.length c5] rfl (World.news_of_block (heap_alloc_new _ _)) (by intro u hu; simp only [List.mem_cons, List.not_mem_nil, or_false] at hu; rcases hu with rfl | rfl | rfl | rfl | rfl | rfl <;> rfl) HRE.out H63.out HBY.out ?_; intro v' w7 hap)
      have hfin : Copies repTestT 141 w (L.take k ++ [testR t y]) v' w7 := Copies.snoc H2.out H3.out H4.out HB7.out hap
      rw [HZ.out] at hfin
      go_roundw
      case rel => exact ⟨k + 1, by go_num, by omega, hfin⟩
      case measure => simp [intOf]; omega
  · obtain rfl : k = l.length := by omega
    have hfin := Copies.done ⟨C, A1, c1, rfl, h1, h2, h3, h4⟩
    rw [show l.length = L.length from HLL.out.symm, List.take_length, HLL.out] at hfin
    have HF := Lib.hid hfin
    clear h1 h2 h3 h4 hfin
    go_wp2_with fail
    go_ret
    exact HF.out
end Go.Proofs.YtffemfglngikbaaGreat
namespace Go.Proofs.YtffemfglngikbaaGreat
open Go.RowKit Go.Shelf
theorem RowR.setBox {α : Type} {r : RepT α} {b : Nat} {W : World} {A : Option Addr} {c : Nat} {l : List α} (h : RowR r (NewD (b + 1) W) W A c l) (i : Nat) (v : Value) : RowR r (NewD (b + 1) (W.setCell ⟨b, i, none⟩ v)) (W.setCell ⟨b, i, none⟩ v) A c l :=
 h.keep (by simp) (fun j hj hl => ⟨⟨hj.1, by simpa using hj.2⟩, Below.heap_setCell _ _ _ _ (by dsimp only; have := hj.1; omega)⟩)
def RCSpec (N I : Value) (w0 : World) (t : ByteArray → ByteArray) (n : Nat) : Prop := ∀ (A : Option Addr) (c : Nat) (L : List CondT) (D : Nat → Prop) (w : World), Below w0.heap.size w0 w → RowR (repCondT n) D w A c L → L.length ≤ 1000 → (∀ x ∈ L, SmC n x) → Calls Tryz.prog 167 #[.slice A L.length c, N, I] w (FreshR (repCondT n) (L.map (condR t n)) w)
set_option maxRecDepth 100000 in
set_option maxHeartbeats 16000000 in
theorem rconds_step {N I : Value} {w0 : World} {t : ByteArray → ByteArray} (hN : OtherOk N I w0 t) (n : Nat) (ih : ∀ m, n = m + 1 → RCSpec N I w0 t m) : RCSpec N I w0 t n := by
 intro A c l D w hw hrd hl1 hs
 obtain ⟨j0, hj0, hy0, hyy1, hyy2⟩ := infp inf_Cond
 have hlc := hrd.cap
 have HRD := Lib.hid hrd
 have HS := Lib.hid hs
 have HIH := Lib.hid (show ∀ m, n = m + 1 → ∀ (A : Option Addr) (c : Nat) (L : List CondT) (D : Nat → Prop) (W : World), Below w.heap.size w W → _ from fun m e A c L D W hW => ih m e A c L D W (hw.trans (hW.mono hw.size)))
 have HN := Lib.hid (show ∀ v W, Below w.heap.size w W → _ from fun v W hW => hN v W (hw.trans (hW.mono hw.size)))
 have HTS := Lib.hid (show ∀ (A : Option Addr) (c : Nat) (l : List TestT) (D : Nat → Prop) (W : World), Below w.heap.size w W → RowR repTestT D W A c l → SmT l → _ from fun A c l D W hW hr hs => rtestsR_is hN A c l W (hw.trans (hW.mono hw.size)) hr hs)
 obtain ⟨L, hL⟩ : ∃ L, L = l.map (condR t n) := ⟨_, rfl⟩
 rw [← hL]
 have HLL := Lib.hid (show L.length = l.length by rw [hL, List.length_map])
 have HLG := Lib.hid (show ∀ k, (h : k < l.length) → ∃ h' : k < L.length, L[k] = condR t n l[k] from fun k h => ⟨by rw [hL, List.length_map]; exact h, by simp [hL]⟩)
 clear hrd hs hN hw hL ih
 go_enter Tryz.func167, Tryz.ntmps167
 go_wp2_with fail
 go_loopw [7, 8] (fun v i wr => ∃ k : Nat, i = .int .i64 k ∧ k ≤ l.length ∧ Copies (repCondT n) 59 w (L.take k) v wr) (fun v i wr => l.length - (intOf i).toNat)
 case atStart => exact ⟨0, rfl, Nat.zero_le _, Copies.nil _ _ _ (Below.refl _ _)⟩
 case round =>
  obtain ⟨k, rfl, hk, hC⟩ := hrel
  obtain ⟨C, A1, c1, rfl, h1, h2, h3, h4⟩ := hC
  have hkL : (L.take k).length = k := take_len (by rw [HLL.out]; exact hk)
  rw [hkL]
  by_cases hlt : k < l.length
  · have hrw := HRD.out.new_ h4
    obtain ⟨m, rfl⟩ : ∃ m, n = m + 1 := by
     cases n with
     | zero => rw [row0 hrw] at hlt; simp at hlt
     | succ m => exact ⟨m, rfl⟩
    obtain ⟨g, off, Ay1, cy1, Ay2, cy2, Ay3, cy3, hA0, hDg, hg, q0, q1, q2, q3, q4, q5, q6, hy1, hy2, hy3⟩ := at_CondT hrw hlt
    subst hA0
    obtain ⟨y, hy⟩ : ∃ y, y = l[k] := ⟨_, rfl⟩
    have hys : SmC (m + 1) y := by rw [hy]; exact HS.out _ (List.getElem_mem hlt)
    rw [← hy] at q0 q1 q2 q3 q4 q5 q6 hy1 hy2 hy3
    have b1 : (0 : Int) ≤ (k : Int) := by omega
    have b2 : (k : Int) < (l.length : Int) := by omega
    have HZ := Lib.hid (show L.take k ++ [condR t (m + 1) y] = L.take (k + 1) by
     obtain ⟨h', e⟩ := HLG.out k hlt
     rw [hy, ← e]
     exact take_snoc h')
    obtain ⟨LA, hLA⟩ : ∃ L, L = y.attr.map (testR t) := ⟨_, rfl⟩
    obtain ⟨LV, hLV⟩ : ∃ L, L = y.value.map (testR t) := ⟨_, rfl⟩
    obtain ⟨LC, hLC⟩ : ∃ L, L = y.conds.map (condR t m) := ⟨_, rfl⟩
    obtain ⟨vi, hvi⟩ : ∃ v, v = oneR t y.id := ⟨_, rfl⟩
    have HRR := Lib.hid (show condR t (m + 1) y = .mk y.kind y.goal vi LA LV y.acc LC by rw [hLA, hLV, hLC, hvi]; rfl)
    have hb4 := h4
    have HTA := Lib.hid (show ∀ W, Below wr.heap.size wr W → Calls Tryz.prog 217 #[.slice Ay1 y.attr.length cy1, N, I] W (FreshR repTestT LA W) from fun W hW => by rw [hLA]; exact HTS.out Ay1 cy1 y.attr D W (hb4.trans (hW.mono hb4.size)) (hy1.new_ hW) hys.1)
    have HTV := Lib.hid (show ∀ W, Below wr.heap.size wr W → Calls Tryz.prog 217 #[.slice Ay2 y.value.length cy2, N, I] W (FreshR repTestT LV W) from fun W hW => by rw [hLV]; exact HTS.out Ay2 cy2 y.value D W (hb4.trans (hW.mono hb4.size)) (hy2.new_ hW) hys.2.1)
    have HTC := Lib.hid (show ∀ W, Below wr.heap.size wr W → Calls Tryz.prog 167 #[.slice Ay3 y.conds.length cy3, N, I] W (FreshR (repCondT m) LC W) from fun W hW => by rw [hLC]; exact HIH.out m rfl Ay3 cy3 y.conds D W (hb4.trans (hW.mono hb4.size)) (hy3.new_ hW) hys.2.2.1 hys.2.2.2)
    have HID := Lib.hid (show ∀ W, Below wr.heap.size wr W → _ from fun W hW => HN.out y.id W (hb4.trans (hW.mono hb4.size)))
    have HVI := Lib.hid hvi
    have H1 := Lib.hid h1
    have H2 := Lib.hid h2
    have H3 := Lib.hid h3
    have H4 := Lib.hid h4
    have HKL := Lib.hid hkL
    have Q3 := Lib.hid q3
    have Q4 := Lib.hid q4
    have Q6 := Lib.hid q6
    have HG := Lib.hid hg
    clear hy hrw h1 h2 h3 h4 hkL hy1 hy2 hy3 hys hLA hLV hLC hvi hb4
    go_upto_region 6 with fail
    obtain ⟨W2, hW2⟩ : ∃ W2, W2 = wr.alloc (.cells #[.int .i64 y.kind, .bool y.goal, .string y.id, .slice Ay1 y.attr.length cy1, .slice Ay2 y.value.length cy2, .bool y.acc, .slice Ay3 y.conds.length cy3] 59) := ⟨_, rfl⟩
    have HB2 := Lib.hid (show Below wr.heap.size wr W2 by rw [hW2]; exact (Below.refl _ _).alloc (Nat.le_refl _) _)
    have HX2 := Lib.hid (show Blk W2 wr.heap.size 59 #[.int .i64 y.kind, .bool y.goal, .string y.id, .slice Ay1 y.attr.length cy1, .slice Ay2 y.value.length cy2, .bool y.acc, .slice Ay3 y.conds.length cy3] by rw [hW2]; exact Blk.new _ _ _)
    rw [← hW2]
    clear hW2 q0 q1 q2 q3 q4 q5 q6 hg
    have x2 : W2.cell? ⟨wr.heap.size, 2, none⟩ = some (.string y.id) := (HX2.out.cell 2).trans rfl
    have xl2 := HX2.out.lt
    by_cases hv : y.id.toList = []
    · have va : (y.id.toList == []) = true := by simp [hv]
      have vb : y.id.toList.isEmpty = true := by simp [hv]
      have vc : decide (y.id.toList = []) = true := by simp [hv]
      have hvi : vi = y.id := by rw [HVI.out, oneR, if_pos hv, ← empty_of hv]
      clear hv
      have HX2 := Lib.hid (show Blk W2 wr.heap.size 59 #[.int .i64 y.kind, .bool y.goal, .string vi, .slice Ay1 y.attr.length cy1, .slice Ay2 y.value.length cy2, .bool y.acc, .slice Ay3 y.conds.length cy3] by rw [hvi]; exact HX2.out)
      clear hvi
      go_upto_region 8 with fail
      clear x2 xl2 va vb vc
      have q3 := (HB2.out.cell (p := ⟨g, off + k * 7 + 3, none⟩) HG.out).trans Q3.out
      have zl := HX2.out.lt
      go_wp2_with fail
      refine (HTA.out W2 HB2.out).mono ?_
      rintro e w7 ⟨B1, d1, rfl, kr, -, hb7⟩
      have hX7 := HX2.out.new_ hb7
      obtain ⟨W31, hW8⟩ : ∃ W8, W8 = w7.setCell ⟨wr.heap.size, 3, none⟩ (.slice B1 LA.length d1) := ⟨_, rfl⟩
      have HB31 := Lib.hid (show Below wr.heap.size wr W31 by rw [hW8]; exact (HB2.out.trans (hb7.mono HB2.out.size)).setCell (Nat.le_refl _) _)
      have HX31 := Lib.hid (show Blk W31 wr.heap.size 59 #[.int .i64 y.kind, .bool y.goal, .string vi, .slice B1 LA.length d1, .slice Ay2 y.value.length cy2, .bool y.acc, .slice Ay3 y.conds.length cy3] by rw [hW8]; exact hX7.set_ 3 _)
      have HK1 := Lib.hid (show RowR repTestT (NewD (wr.heap.size + 1) W31) W31 B1 d1 LA by rw [hW8]; exact (kr.newD (Below.refl _ _) zl).setBox 3 _)
      have u3 := (hX7.cell 3).trans rfl
      have g3 := hX7.frozen 3
      have xl7 := hX7.lt
      clear hX7 hb7 kr q3 zl HX2 HB2
      go_upto_region 9 with fail
      rw [← hW8]
      clear hW8 u3 g3 xl7
      have q4 := (HB31.out.cell (p := ⟨g, off + k * 7 + 4, none⟩) HG.out).trans Q4.out
      have zl := HX31.out.lt
      go_wp2_with fail
      refine (HTV.out W31 HB31.out).mono ?_
      rintro e w7 ⟨B2, d2, rfl, kr, -, hb7⟩
      have hX7 := HX31.out.new_ hb7
      obtain ⟨W32, hW8⟩ : ∃ W8, W8 = w7.setCell ⟨wr.heap.size, 4, none⟩ (.slice B2 LV.length d2) := ⟨_, rfl⟩
      have HB32 := Lib.hid (show Below wr.heap.size wr W32 by rw [hW8]; exact (HB31.out.trans (hb7.mono HB31.out.size)).setCell (Nat.le_refl _) _)
      have HX32 := Lib.hid (show Blk W32 wr.heap.size 59 #[.int .i64 y.kind, .bool y.goal, .string vi, .slice B1 LA.length d1, .slice B2 LV.length d2, .bool y.acc, .slice Ay3 y.conds.length cy3] by rw [hW8]; exact hX7.set_ 4 _)
      have HK2 := Lib.hid (show RowR repTestT (NewD (wr.heap.size + 1) W32) W32 B2 d2 LV by rw [hW8]; exact (kr.newD (Below.refl _ _) zl).setBox 4 _)
      have HK1 := Lib.hid (show RowR repTestT (NewD (wr.heap.size + 1) W32) W32 B1 d1 LA by rw [hW8]; exact (HK1.out.newD hb7 (Nat.le_refl _)).setBox 4 _)
      have u4 := (hX7.cell 4).trans rfl
      have g4 := hX7.frozen 4
      have xl7 := hX7.lt
      clear hX7 hb7 kr q4 zl HX31 HB31
      go_upto_region 10 with fail
      rw [← hW8]
      clear hW8 u4 g4 xl7
      have q6 := (HB32.out.cell (p := ⟨g, off + k * 7 + 6, none⟩) HG.out).trans Q6.out
      have zl := HX32.out.lt
      go_wp2_with fail
      refine (HTC.out W32 HB32.out).mono ?_
      rintro e w7 ⟨B3, d3, rfl, kr, -, hb7⟩
      have hX7 := HX32.out.new_ hb7
      obtain ⟨W33, hW8⟩ : ∃ W8, W8 = w7.setCell ⟨wr.heap.size, 6, none⟩ (.slice B3 LC.length d3) := ⟨_, rfl⟩
      have HB33 := Lib.hid (show Below wr.heap.size wr W33 by rw [hW8]; exact (HB32.out.trans (hb7.mono HB32.out.size)).setCell (Nat.le_refl _) _)
      have HX33 := Lib.hid (show Blk W33 wr.heap.size 59 #[.int .i64 y.kind, .bool y.goal, .string vi, .slice B1 LA.length d1, .slice B2 LV.length d2, .bool y.acc, .slice B3 LC.length d3] by rw [hW8]; exact hX7.set_ 6 _)
      have HK3 := Lib.hid (show RowR (repCondT m) (NewD (wr.heap.size + 1) W33) W33 B3 d3 LC by rw [hW8]; exact (kr.newD (Below.refl _ _) zl).setBox 6 _)
      have HK1 := Lib.hid (show RowR repTestT (NewD (wr.heap.size + 1) W33) W33 B1 d1 LA by rw [hW8]; exact (HK1.out.newD hb7 (Nat.le_refl _)).setBox 6 _)
      have HK2 := Lib.hid (show RowR repTestT (NewD (wr.heap.size + 1) W33) W33 B2 d2 LV by rw [hW8]; exact (HK2.out.newD hb7 (Nat.le_refl _)).setBox 6 _)
      have u6 := (hX7.cell 6).trans rfl
      have g6 := hX7.frozen 6
      have xl7 := hX7.lt
      clear hX7 hb7 kr q6 zl HX32 HB32
      go_upto_region 11 with fail
      rw [← hW8]
      clear hW8 u6 g6 xl7
      have h9 : Below W33.heap.size W33 (W33.alloc (.cells #[.int .i64 y.kind, .bool y.goal, .string vi, .slice B1 LA.length d1, .slice B2 LV.length d2, .bool y.acc, .slice B3 LC.length d3] 59)) := (Below.refl _ _).alloc (Nat.le_refl _) _
      have hB5 := HB33.out
      have hB7 : Below wr.heap.size wr (W33.alloc (.cells #[.int .i64 y.kind, .bool y.goal, .string vi, .slice B1 LA.length d1, .slice B2 LV.length d2, .bool y.acc, .slice B3 LC.length d3] 59)) := hB5.alloc hB5.size _
      have up : ∀ j, NewD (wr.heap.size + 1) W33 j → j < W33.heap.size → (Plus C wr (W33.alloc (.cells #[.int .i64 y.kind, .bool y.goal, .string vi, .slice B1 LA.length d1, .slice B2 LV.length d2, .bool y.acc, .slice B3 LC.length d3] 59))) j ∧ (W33.alloc (.cells #[.int .i64 y.kind, .bool y.goal, .string vi, .slice B1 LA.length d1, .slice B2 LV.length d2, .bool y.acc, .slice B3 LC.length d3] 59)).heap[j]? = W33.heap[j]? := fun j hj hl => ⟨.inr ⟨by have := hj.1; omega, by have := hj.2; have := h9.size; omega⟩, h9.block j hl⟩
      have hrep7 : (repCondT (m + 1)).rep (Plus C wr (W33.alloc (.cells #[.int .i64 y.kind, .bool y.goal, .string vi, .slice B1 LA.length d1, .slice B2 LV.length d2, .bool y.acc, .slice B3 LC.length d3] 59))) (W33.alloc (.cells #[.int .i64 y.kind, .bool y.goal, .string vi, .slice B1 LA.length d1, .slice B2 LV.length d2, .bool y.acc, .slice B3 LC.length d3] 59)) (condR t (m + 1) y) [.int .i64 y.kind, .bool y.goal, .string vi, .slice B1 LA.length d1, .slice B2 LV.length d2, .bool y.acc, .slice B3 LC.length d3] := by
       rw [HRR.out]
       exact rep_cond (n := m) (y := .mk y.kind y.goal vi LA LV y.acc LC) (HK1.out.keep h9.size up) (HK2.out.keep h9.size up) (HK3.out.keep h9.size up)
      have hown7 := H1.out.plus hB7
      have hcl : ∀ j, Plus C wr (W33.alloc (.cells #[.int .i64 y.kind, .bool y.goal, .string vi, .slice B1 LA.length d1, .slice B2 LV.length d2, .bool y.acc, .slice B3 LC.length d3] 59)) j → j < (W33.alloc (.cells #[.int .i64 y.kind, .bool y.goal, .string vi, .slice B1 LA.length d1, .slice B2 LV.length d2, .bool y.acc, .slice B3 LC.length d3] 59)).heap.size := fun j hj => by
       rcases hj with hj | hj
       · have := (H2.out j hj).2; have := hB7.size; omega
       · exact hj.2
      obtain ⟨u0, u1, u2, u3, u4, u5, u6⟩ := HX33.out.c7
      have ul := HX33.out.lt
      have HB7 := Lib.hid hB7
      have HOW := Lib.hid hown7
      have HRE := Lib.hid hrep7
      have HCL := Lib.hid hcl
      have H63 := Lib.hid (show (L.take k).length + 1 ≤ maxLen by rw [HKL.out]; unfold maxLen; omega)
      have HBY := Lib.hid (show ((L.take k).length + 1) * 112 ≤ 140737488355328 by rw [HKL.out]; omega)
      have HVV := Lib.hid (show Value.slice A1 k c1 = .slice A1 (L.take k).length c1 by rw [HKL.out])
      clear h9 hB7 up hrep7 hown7 hcl hB5
      go_wp2_with (at_builtin; refine wpList_append_C _ rfl _ _ 22 rfl 59 j0 _ 7 112 Tryz.underlying22 hj0 hy0 hyy1 hyy2 rfl rfl (by omega) (Plus C wr (W33.alloc (.cells #[.int .i64 y.kind, .bool y.goal, .string vi, .slice B1 LA.length d1, .slice B2 LV.length d2, .bool y.acc, .slice B3 LC.length d3] 59))) HCL.out (.slice A1 (L.take k).length c1) (L.take k) HVV.out HOW.out ⟨W33.heap.size, 0, none⟩ 1 (condR t (m + 1) y) [.int .i64 y.kind, .bool y.goal, .string vi, .slice B1 LA.length d1, .slice B2 LV.length d2, .bool y.acc, .slice B3 LC.length d3] rfl (World.news_of_block (heap_alloc_new _ _)) (by intro u hu; simp only [List.mem_cons, List.not_mem_nil, or_false] at hu; rcases hu with rfl | rfl | rfl | rfl | rfl | rfl | rfl <;> rfl) HRE.out H63.out HBY.out ?_; intro v' w7 hap)
      have hfin : Copies (repCondT (m + 1)) 59 w (L.take k ++ [condR t (m + 1) y]) v' w7 := Copies.snoc H2.out H3.out H4.out HB7.out hap
      rw [HZ.out] at hfin
      go_roundw
      case rel => exact ⟨k + 1, by go_num, by omega, hfin⟩
      case measure => simp [intOf]; omega
    · have va : (y.id.toList == []) = false := by simp [hv]
      have vb : y.id.toList.isEmpty = false := by simp [hv]
      have vc : decide (y.id.toList = []) = false := by simp [hv]
      have hvi : t y.id = vi := by rw [HVI.out, oneR, if_neg hv]
      clear hv
      go_wp2_with fail
      refine (HID.out W2 HB2.out).mono ?_
      rintro e w7 ⟨rfl, hb7⟩
      rw [hvi]
      have hX7 := HX2.out.new_ hb7
      obtain ⟨W8, hW8⟩ : ∃ W8, W8 = w7.setCell ⟨wr.heap.size, 2, none⟩ (.string vi) := ⟨_, rfl⟩
      have HB8 := Lib.hid (show Below wr.heap.size wr W8 by rw [hW8]; exact (HB2.out.trans (hb7.mono HB2.out.size)).setCell (Nat.le_refl _) _)
      have HX8 := Lib.hid (show Blk W8 wr.heap.size 59 #[.int .i64 y.kind, .bool y.goal, .string vi, .slice Ay1 y.attr.length cy1, .slice Ay2 y.value.length cy2, .bool y.acc, .slice Ay3 y.conds.length cy3] by rw [hW8]; exact hX7.set_ 2 _)
      have u2 : w7.cell? ⟨wr.heap.size, 2, none⟩ = some (.string y.id) := (hX7.cell 2).trans rfl
      have g2 := hX7.frozen 2
      have xl7 := hX7.lt
      clear hX7 hb7 hvi x2 xl2 va vb vc HX2 HB2
      go_upto_region 8 with fail
      rw [← hW8]
      clear hW8 u2 g2 xl7
      have q3 := (HB8.out.cell (p := ⟨g, off + k * 7 + 3, none⟩) HG.out).trans Q3.out
      have zl := HX8.out.lt
      go_wp2_with fail
      refine (HTA.out W8 HB8.out).mono ?_
      rintro e w7 ⟨B1, d1, rfl, kr, -, hb7⟩
      have hX7 := HX8.out.new_ hb7
      obtain ⟨W31, hW8⟩ : ∃ W8, W8 = w7.setCell ⟨wr.heap.size, 3, none⟩ (.slice B1 LA.length d1) := ⟨_, rfl⟩
      have HB31 := Lib.hid (show Below wr.heap.size wr W31 by rw [hW8]; exact (HB8.out.trans (hb7.mono HB8.out.size)).setCell (Nat.le_refl _) _)
      have HX31 := Lib.hid (show Blk W31 wr.heap.size 59 #[.int .i64 y.kind, .bool y.goal, .string vi, .slice B1 LA.length d1, .slice Ay2 y.value.length cy2, .bool y.acc, .slice Ay3 y.conds.length cy3] by rw [hW8]; exact hX7.set_ 3 _)
      have HK1 := Lib.hid (show RowR repTestT (NewD (wr.heap.size + 1) W31) W31 B1 d1 LA by rw [hW8]; exact (kr.newD (Below.refl _ _) zl).setBox 3 _)
      have u3 := (hX7.cell 3).trans rfl
      have g3 := hX7.frozen 3
      have xl7 := hX7.lt
      clear hX7 hb7 kr q3 zl HX8 HB8
      go_upto_region 9 with fail
      rw [← hW8]
      clear hW8 u3 g3 xl7
      have q4 := (HB31.out.cell (p := ⟨g, off + k * 7 + 4, none⟩) HG.out).trans Q4.out
      have zl := HX31.out.lt
      go_wp2_with fail
      refine (HTV.out W31 HB31.out).mono ?_
      rintro e w7 ⟨B2, d2, rfl, kr, -, hb7⟩
      have hX7 := HX31.out.new_ hb7
      obtain ⟨W32, hW8⟩ : ∃ W8, W8 = w7.setCell ⟨wr.heap.size, 4, none⟩ (.slice B2 LV.length d2) := ⟨_, rfl⟩
      have HB32 := Lib.hid (show Below wr.heap.size wr W32 by rw [hW8]; exact (HB31.out.trans (hb7.mono HB31.out.size)).setCell (Nat.le_refl _) _)
      have HX32 := Lib.hid (show Blk W32 wr.heap.size 59 #[.int .i64 y.kind, .bool y.goal, .string vi, .slice B1 LA.length d1, .slice B2 LV.length d2, .bool y.acc, .slice Ay3 y.conds.length cy3] by rw [hW8]; exact hX7.set_ 4 _)
      have HK2 := Lib.hid (show RowR repTestT (NewD (wr.heap.size + 1) W32) W32 B2 d2 LV by rw [hW8]; exact (kr.newD (Below.refl _ _) zl).setBox 4 _)
      have HK1 := Lib.hid (show RowR repTestT (NewD (wr.heap.size + 1) W32) W32 B1 d1 LA by rw [hW8]; exact (HK1.out.newD hb7 (Nat.le_refl _)).setBox 4 _)
      have u4 := (hX7.cell 4).trans rfl
      have g4 := hX7.frozen 4
      have xl7 := hX7.lt
      clear hX7 hb7 kr q4 zl HX31 HB31
      go_upto_region 10 with fail
      rw [← hW8]
      clear hW8 u4 g4 xl7
      have q6 := (HB32.out.cell (p := ⟨g, off + k * 7 + 6, none⟩) HG.out).trans Q6.out
      have zl := HX32.out.lt
      go_wp2_with fail
      refine (HTC.out W32 HB32.out).mono ?_
      rintro e w7 ⟨B3, d3, rfl, kr, -, hb7⟩
      have hX7 := HX32.out.new_ hb7
      obtain ⟨W33, hW8⟩ : ∃ W8, W8 = w7.setCell ⟨wr.heap.size, 6, none⟩ (.slice B3 LC.length d3) := ⟨_, rfl⟩
      have HB33 := Lib.hid (show Below wr.heap.size wr W33 by rw [hW8]; exact (HB32.out.trans (hb7.mono HB32.out.size)).setCell (Nat.le_refl _) _)
      have HX33 := Lib.hid (show Blk W33 wr.heap.size 59 #[.int .i64 y.kind, .bool y.goal, .string vi, .slice B1 LA.length d1, .slice B2 LV.length d2, .bool y.acc, .slice B3 LC.length d3] by rw [hW8]; exact hX7.set_ 6 _)
      have HK3 := Lib.hid (show RowR (repCondT m) (NewD (wr.heap.size + 1) W33) W33 B3 d3 LC by rw [hW8]; exact (kr.newD (Below.refl _ _) zl).setBox 6 _)
      have HK1 := Lib.hid (show RowR repTestT (NewD (wr.heap.size + 1) W33) W33 B1 d1 LA by rw [hW8]; exact (HK1.out.newD hb7 (Nat.le_refl _)).setBox 6 _)
      have HK2 := Lib.hid (show RowR repTestT (NewD (wr.heap.size + 1) W33) W33 B2 d2 LV by rw [hW8]; exact (HK2.out.newD hb7 (Nat.le_refl _)).setBox 6 _)
      have u6 := (hX7.cell 6).trans rfl
      have g6 := hX7.frozen 6
      have xl7 := hX7.lt
      clear hX7 hb7 kr q6 zl HX32 HB32
      go_upto_region 11 with fail
      rw [← hW8]
      clear hW8 u6 g6 xl7
      have h9 : Below W33.heap.size W33 (W33.alloc (.cells #[.int .i64 y.kind, .bool y.goal, .string vi, .slice B1 LA.length d1, .slice B2 LV.length d2, .bool y.acc, .slice B3 LC.length d3] 59)) := (Below.refl _ _).alloc (Nat.le_refl _) _
      have hB5 := HB33.out
      have hB7 : Below wr.heap.size wr (W33.alloc (.cells #[.int .i64 y.kind, .bool y.goal, .string vi, .slice B1 LA.length d1, .slice B2 LV.length d2, .bool y.acc, .slice B3 LC.length d3] 59)) := hB5.alloc hB5.size _
      have up : ∀ j, NewD (wr.heap.size + 1) W33 j → j < W33.heap.size → (Plus C wr (W33.alloc (.cells #[.int .i64 y.kind, .bool y.goal, .string vi, .slice B1 LA.length d1, .slice B2 LV.length d2, .bool y.acc, .slice B3 LC.length d3] 59))) j ∧ (W33.alloc (.cells #[.int .i64 y.kind, .bool y.goal, .string vi, .slice B1 LA.length d1, .slice B2 LV.length d2, .bool y.acc, .slice B3 LC.length d3] 59)).heap[j]? = W33.heap[j]? := fun j hj hl => ⟨.inr ⟨by have := hj.1; omega, by have := hj.2; have := h9.size; omega⟩, h9.block j hl⟩
      have hrep7 : (repCondT (m + 1)).rep (Plus C wr (W33.alloc (.cells #[.int .i64 y.kind, .bool y.goal, .string vi, .slice B1 LA.length d1, .slice B2 LV.length d2, .bool y.acc, .slice B3 LC.length d3] 59))) (W33.alloc (.cells #[.int .i64 y.kind, .bool y.goal, .string vi, .slice B1 LA.length d1, .slice B2 LV.length d2, .bool y.acc, .slice B3 LC.length d3] 59)) (condR t (m + 1) y) [.int .i64 y.kind, .bool y.goal, .string vi, .slice B1 LA.length d1, .slice B2 LV.length d2, .bool y.acc, .slice B3 LC.length d3] := by
       rw [HRR.out]
       exact rep_cond (n := m) (y := .mk y.kind y.goal vi LA LV y.acc LC) (HK1.out.keep h9.size up) (HK2.out.keep h9.size up) (HK3.out.keep h9.size up)
      have hown7 := H1.out.plus hB7
      have hcl : ∀ j, Plus C wr (W33.alloc (.cells #[.int .i64 y.kind, .bool y.goal, .string vi, .slice B1 LA.length d1, .slice B2 LV.length d2, .bool y.acc, .slice B3 LC.length d3] 59)) j → j < (W33.alloc (.cells #[.int .i64 y.kind, .bool y.goal, .string vi, .slice B1 LA.length d1, .slice B2 LV.length d2, .bool y.acc, .slice B3 LC.length d3] 59)).heap.size := fun j hj => by
       rcases hj with hj | hj
       · have := (H2.out j hj).2; have := hB7.size; omega
       · exact hj.2
      obtain ⟨u0, u1, u2, u3, u4, u5, u6⟩ := HX33.out.c7
      have ul := HX33.out.lt
      have HB7 := Lib.hid hB7
      have HOW := Lib.hid hown7
      have HRE := Lib.hid hrep7
      have HCL := Lib.hid hcl
      have H63 := Lib.hid (show (L.take k).length + 1 ≤ maxLen by rw [HKL.out]; unfold maxLen; omega)
      have HBY := Lib.hid (show ((L.take k).length + 1) * 112 ≤ 140737488355328 by rw [HKL.out]; omega)
      have HVV := Lib.hid (show Value.slice A1 k c1 = .slice A1 (L.take k).length c1 by rw [HKL.out])
      clear h9 hB7 up hrep7 hown7 hcl hB5
      go_wp2_with (at_builtin; refine wpList_append_C _ rfl _ _ 22 rfl 59 j0 _ 7 112 Tryz.underlying22 hj0 hy0 hyy1 hyy2 rfl rfl (by omega) (Plus C wr (W33.alloc (.cells #[.int .i64 y.kind, .bool y.goal, .string vi, .slice B1 LA.length d1, .slice B2 LV.length d2, .bool y.acc, .slice B3 LC.length d3] 59))) HCL.out (.slice A1 (L.take k).length c1) (L.take k) HVV.out HOW.out ⟨W33.heap.size, 0, none⟩ 1 (condR t (m + 1) y) [.int .i64 y.kind, .bool y.goal, .string vi, .slice B1 LA.length d1, .slice B2 LV.length d2, .bool y.acc, .slice B3 LC.length d3] rfl (World.news_of_block (heap_alloc_new _ _)) (by intro u hu; simp only [List.mem_cons, List.not_mem_nil, or_false] at hu; rcases hu with rfl | rfl | rfl | rfl | rfl | rfl | rfl <;> rfl) HRE.out H63.out HBY.out ?_; intro v' w7 hap)
      have hfin : Copies (repCondT (m + 1)) 59 w (L.take k ++ [condR t (m + 1) y]) v' w7 := Copies.snoc H2.out H3.out H4.out HB7.out hap
      rw [HZ.out] at hfin
      go_roundw
      case rel => exact ⟨k + 1, by go_num, by omega, hfin⟩
      case measure => simp [intOf]; omega
  · obtain rfl : k = l.length := by omega
    have hfin := Copies.done ⟨C, A1, c1, rfl, h1, h2, h3, h4⟩
    rw [show l.length = L.length from HLL.out.symm, List.take_length, HLL.out] at hfin
    have HF := Lib.hid hfin
    clear h1 h2 h3 h4 hfin
    go_wp2_with fail
    go_ret
    exact HF.out
theorem rconds_all {N I : Value} {w0 : World} {t : ByteArray → ByteArray} (hN : OtherOk N I w0 t) : ∀ n, RCSpec N I w0 t n
 | 0 => rconds_step hN 0 (fun m h => by omega)
 | n + 1 => rconds_step hN (n + 1) (fun m h => by obtain rfl : n = m := by omega
                                                  exact rconds_all hN n)
end Go.Proofs.YtffemfglngikbaaGreat
