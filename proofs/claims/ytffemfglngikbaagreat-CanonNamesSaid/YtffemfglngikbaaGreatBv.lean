/-
  The document's Shape: its walk.
-/
import Derived.Test.YtffemfglngikbaaGreatBu
import Derived.Test.YtffemfglngikbaaGreatBi
import Derived.Test.YtffemfglngikbaaGreatBt
import Derived.Test.YtffemfglngikbaaGreatBp
import Derived.Test.YtffemfglngikbaaGreatBo
import Derived.Test.YtffemfglngikbaaGreatBb
import Derived.Maps.RangeWalk
namespace Go.Proofs.YtffemfglngikbaaGreat
open Go.RowKit Go.Shelf
attribute [local go_sem] Oper.semAt_some
set_option maxHeartbeats 1000000 in
theorem turner_is (k : Nat) (hk : k < 26) (kb : Nat) (w0 : World) (hb : Blk w0 kb 3 #[.int .i64 (k : Int)]) : NamerOk 107 #[.pointer (some ⟨kb, 0, none⟩)] w0 (fun v => isWord v = true) (turnB k) := by
 refine ⟨fun args w => by kernel_rfl, fun v W hW hv => ?_⟩
 have hbW := hb.new_ hW
 have c0 : W.cell? ⟨kb, 0, none⟩ = some (.int .i64 (k : Int)) := (hbW.cell 0).trans rfl
 have cz := hbW.lt
 have HT := Lib.hid (turned_is v hv k hk W)
 show Calls Tryz.prog 107 #[.string v, .pointer (some ⟨kb, 0, none⟩)] W _
 clear hbW hb hv
 go_enter Tryz.func107, Tryz.ntmps107
 go_wp2_with fail
 refine HT.out.mono ?_
 rintro e w5 ⟨rfl, hb5⟩
 have HB5 := Lib.hid hb5
 clear hb5 c0 cz
 go_wp2_with fail
 go_ret
 exact ⟨rfl, HB5.out⟩
theorem qc_word : ∀ (n : Nat) (c : CondT), (∀ x ∈ namesN n c, isWord x = true) → QC (fun v => isWord v = true) n c
 | 0, _, _ => trivial
 | n + 1, c, h => by
   have e : namesN (n + 1) c = oneN c.id ++ (varsT c.attr ++ (varsT c.value ++ c.conds.flatMap (namesN n))) := rfl
   rw [e] at h
   refine ⟨fun hv => h _ (by rw [oneN_yes hv]; simp), fun t ht hv => h _ ?_, fun t ht hv => h _ ?_, fun y hy => qc_word n y (fun x hx => h _ ?_)⟩
   · simp only [List.mem_append]; exact .inr (.inl (List.mem_flatMap.2 ⟨t, ht, by rw [oneN_yes hv]; simp⟩))
   · simp only [List.mem_append]; exact .inr (.inr (.inl (List.mem_flatMap.2 ⟨t, ht, by rw [oneN_yes hv]; simp⟩)))
   · simp only [List.mem_append]; exact .inr (.inr (.inr (List.mem_flatMap.2 ⟨y, hy, hx⟩)))
theorem qa_word (a : ActT) (h : ∀ x ∈ varsA a, isWord x = true) : QA (fun v => isWord v = true) a := by
 rw [vars5] at h
 exact ⟨fun hv => h _ (by rw [oneN_yes hv]; simp), fun hv => h _ (by rw [oneN_yes hv]; simp), fun hv => h _ (by rw [oneN_yes hv]; simp), fun hv => h _ (by rw [oneN_yes hv]; simp), fun hv => h _ (by rw [oneN_yes hv]; simp)⟩
def otherP (n k : Nat) (p : ProdT) : ProdT := ⟨⟨#[111, 116, 104, 101, 114]⟩, (prodR (turnB k) n p).conds, (prodR (turnB k) n p).acts⟩
set_option maxRecDepth 100000 in
set_option maxHeartbeats 16000000 in
theorem otherp_is {D : Nat → Prop} (n k : Nat) (hk : k < 26) (p : ProdT) (A1 : Option Addr) (c1 : Nat) (A2 : Option Addr) (c2 : Nat) (w : World)
 (h1 : RowR (repCondT n) D w A1 c1 p.conds) (h2 : RowR repActT D w A2 c2 p.acts) (hl1 : p.conds.length ≤ 1000) (hl2 : p.acts.length ≤ 1000) (hs : ∀ x ∈ p.conds, SmC n x) (hw : ∀ x ∈ varsP n p, isWord x = true) :
 Calls Tryz.prog 44 #[.agg #[.string p.name, .slice A1 p.conds.length c1, .slice A2 p.acts.length c2], .int .i64 (k : Int)] w (FreshP n (otherP n k p) w) := by
 have H1 := Lib.hid h1
 have H2 := Lib.hid h2
 have HS := Lib.hid hs
 have HQ1 := Lib.hid (show ∀ x ∈ p.conds, QC (fun v => isWord v = true) n x from fun c hc => qc_word n c (fun x hx => hw x (mem_varsC hc hx)))
 have HQ2 := Lib.hid (show ∀ a ∈ p.acts, QA (fun v => isWord v = true) a from fun a ha => qa_word a (fun x hx => hw x (mem_varsA ha hx)))
 clear h1 h2 hs hw
 go_enter Tryz.func44, Tryz.ntmps44
 go_upto_region 1 with fail
 obtain ⟨w1, hw1⟩ : ∃ w1, w1 = (((w.alloc (.cells #[.string p.name, .slice A1 p.conds.length c1, .slice A2 p.acts.length c2] 25)).alloc (.cells #[.int .i64 (k : Int)] 3)).alloc (.cells #[.string ⟨#[]⟩, .slice none 0 0, .slice none 0 0] 25)) := ⟨_, rfl⟩
 rw [← hw1]
 have HB := Lib.hid (show Below w.heap.size w w1 by rw [hw1]; exact (by repeat (first | exact Below.refl _ _ | refine Below.drew ?_ | refine Below.al ?_ _ | refine Below.sc ?_ _)))
 have Kp := Lib.hid (show Blk w1 (w.heap.size) 25 #[.string p.name, .slice A1 p.conds.length c1, .slice A2 p.acts.length c2] by rw [hw1]; exact (((Blk.new w 25 #[.string p.name, .slice A1 p.conds.length c1, .slice A2 p.acts.length c2]).alloc (.cells #[.int .i64 (k : Int)] 3)).alloc (.cells #[.string ⟨#[]⟩, .slice none 0 0, .slice none 0 0] 25)))
 have Kb := Lib.hid (show Blk w1 (w.heap.size + 1) 3 #[.int .i64 (k : Int)] by rw [hw1]; have hh := ((Blk.new (w.alloc (.cells #[.string p.name, .slice A1 p.conds.length c1, .slice A2 p.acts.length c2] 25)) 3 #[.int .i64 (k : Int)]).alloc (.cells #[.string ⟨#[]⟩, .slice none 0 0, .slice none 0 0] 25)); simp only [World.size_alloc] at hh; exact hh)
 have Kr := Lib.hid (show Blk w1 (w.heap.size + 2) 25 #[.string ⟨#[]⟩, .slice none 0 0, .slice none 0 0] by rw [hw1]; have hh := (Blk.new ((w.alloc (.cells #[.string p.name, .slice A1 p.conds.length c1, .slice A2 p.acts.length c2] 25)).alloc (.cells #[.int .i64 (k : Int)] 3)) 25 #[.string ⟨#[]⟩, .slice none 0 0, .slice none 0 0]); simp only [World.size_alloc] at hh; exact hh)
 clear hw1
 obtain ⟨p0, p1, p2⟩ := Kp.out.c3
 have pz := Kp.out.lt
 have b0 := Kb.out.c1
 have bz := Kb.out.lt
 obtain ⟨r0, r1, r2⟩ := Kr.out.c3
 have rz := Kr.out.lt
 have HREN := Lib.hid (crename_is (turner_is k hk (w.heap.size + 1) w1 Kb.out) n p A1 c1 A2 c2 w1 (Below.refl _ _) (H1.out.new_ HB.out) (H2.out.new_ HB.out) hl1 hl2 HS.out HQ1.out HQ2.out)
 obtain ⟨r, hr⟩ : ∃ r, r = prodR (turnB k) n p := ⟨_, rfl⟩
 rw [← hr] at HREN
 have HR := Lib.hid (show otherP n k p = ⟨⟨#[111, 116, 104, 101, 114]⟩, r.conds, r.acts⟩ ∧ r.name = p.name by rw [hr]; exact ⟨rfl, rfl⟩)
 clear hr
 go_wp2_with fail
 refine HREN.out.mono ?_
 rintro e w5 ⟨E1, d1, E2, d2, rfl, r1, r2, hb5⟩
 rw [HR.out.2]
 have hRr := Kr.out.new_ hb5
 obtain ⟨w6, hw6⟩ : ∃ W, W = w5.alloc (.cells #[.string p.name, .slice E1 r.conds.length d1, .slice E2 r.acts.length d2] 25) := ⟨_, rfl⟩
 have hb6 : Below w5.heap.size w5 w6 := by rw [hw6]; exact (Below.refl _ _).alloc (Nat.le_refl _) _
 have hg6 : Blk w6 w5.heap.size 25 #[.string p.name, .slice E1 r.conds.length d1, .slice E2 r.acts.length d2] := by rw [hw6]; exact Blk.new _ _ _
 obtain ⟨w7, hw7⟩ : ∃ W, W = w6.setCell ⟨w5.heap.size, 0, none⟩ (.string ⟨#[111, 116, 104, 101, 114]⟩) := ⟨_, rfl⟩
 have hg7 : Blk w7 w5.heap.size 25 #[.string ⟨#[111, 116, 104, 101, 114]⟩, .slice E1 r.conds.length d1, .slice E2 r.acts.length d2] := by rw [hw7]; exact hg6.set_ 0 _
 have hb7 : Below w5.heap.size w5 w7 := by rw [hw7]; exact hb6.setCell (Nat.le_refl _) _
 have g0 : w6.cell? ⟨w5.heap.size, 0, none⟩ = some (.string p.name) := (hg6.cell 0).trans rfl
 have gf := hg6.frozen 0
 have gl := hg6.lt
 have HW6 := Lib.hid hw6
 have HW7 := Lib.hid hw7
 have HG7 := Lib.hid hg7
 have HR7 := Lib.hid (hRr.new_ hb7)
 have hz5 := hb5.size
 have hzx := HB.out.size
 have HRZ := Lib.hid Kr.out.lt
 have HB7 := Lib.hid (HB.out.trans ((hb5.trans (hb7.mono hz5)).mono hzx))
 have HR1 := Lib.hid (r1.newD (B' := w1.heap.size) hb7 (Nat.le_refl _))
 have HR2 := Lib.hid (r2.newD (B' := w1.heap.size) hb7 (Nat.le_refl _))
 clear hb5 hb6 hb7 hg6 hg7 hw6 hw7 hRr r1 r2
 clear p0 p1 p2 pz b0 bz r0 r1 r2 rz 
 go_upto_region 2 with fail
 rw [← HW6.out]
 go_upto_region 3 with fail
 rw [← HW7.out]
 clear g0 gf gl HW6 HW7
 have HT9 := Lib.hid (show w7.there (w.heap.size + 2) 0 (#[Value.string ⟨#[111, 116, 104, 101, 114]⟩, Value.slice E1 r.conds.length d1, Value.slice E2 r.acts.length d2] : Array Value).size from HR7.out.there)
 have HRG := Lib.hid (show w7.rangeAt w5.heap.size 0 [Value.string ⟨#[111, 116, 104, 101, 114]⟩, Value.slice E1 r.conds.length d1, Value.slice E2 r.acts.length d2] from HG7.out.range)
 have hrl := HR7.out.lt
 have hgl := HG7.out.lt
 go_wp2_with (first | (with_reducible refine wpList_load_mid rfl 25 _ rfl w5.heap.size 0 rfl [Value.string ⟨#[111, 116, 104, 101, 114]⟩, Value.slice E1 r.conds.length d1, Value.slice E2 r.acts.length d2] _ HRG.out Tryz.underlying25 rfl (by kernel_rfl) ?_) | (with_reducible refine wpList_store_mid rfl 25 _ _ rfl (w.heap.size + 2) 0 #[Value.string ⟨#[111, 116, 104, 101, 114]⟩, Value.slice E1 r.conds.length d1, Value.slice E2 r.acts.length d2] rfl rfl HT9.out (by kernel_rfl) (by kernel_rfl) ?_))
 try simp only [Exit.inBlock, Exit.then]
 have hB8 : Below w.heap.size w (w7.setCells (w.heap.size + 2) 0 [Value.string ⟨#[111, 116, 104, 101, 114]⟩, Value.slice E1 r.conds.length d1, Value.slice E2 r.acts.length d2]) := Below.setCells' _ _ HB7.out (by omega)
 have hup : ∀ j, NewD w1.heap.size w7 j → j < w7.heap.size → NewD w.heap.size (w7.setCells (w.heap.size + 2) 0 [Value.string ⟨#[111, 116, 104, 101, 114]⟩, Value.slice E1 r.conds.length d1, Value.slice E2 r.acts.length d2]) j ∧ (w7.setCells (w.heap.size + 2) 0 [Value.string ⟨#[111, 116, 104, 101, 114]⟩, Value.slice E1 r.conds.length d1, Value.slice E2 r.acts.length d2]).heap[j]? = w7.heap[j]? := fun j hj hl => ⟨⟨by have := hj.1; omega, by rw [size_setCells]; omega⟩, blk_setCells _ _ _ _ _ (by have := hj.1; have := HRZ.out; omega)⟩
 refine bodyPost_ret (v := .agg #[.string ⟨#[111, 116, 104, 101, 114]⟩, .slice E1 r.conds.length d1, .slice E2 r.acts.length d2]) ?_ rfl (by rw [HR.out.1]; exact ⟨E1, d1, E2, d2, rfl, HR1.out.keep (by rw [size_setCells]; omega) hup, HR2.out.keep (by rw [size_setCells]; omega) hup, hB8⟩)
 exact results_cell (t := 4) (T := 25) rfl _ _ (w.heap.size + 2) [Value.string ⟨#[111, 116, 104, 101, 114]⟩, Value.slice E1 r.conds.length d1, Value.slice E2 r.acts.length d2] _ rfl (World.rangeAt_setCells_same w7 (w.heap.size + 2) 0 [Value.string ⟨#[111, 116, 104, 101, 114]⟩, Value.slice E1 r.conds.length d1, Value.slice E2 r.acts.length d2] HT9.out) Tryz.underlying25 rfl (by kernel_rfl)
end Go.Proofs.YtffemfglngikbaaGreat
namespace Go.Proofs.YtffemfglngikbaaGreat
open Go.RowKit Go.Shelf
theorem showX_no {n : Nat} {p : ProdT} (h : ¬ (shapeP n p).2 = 0) : showX n p = ⟨#[]⟩ := by rw [showX, if_neg h]
theorem showX_yes {n : Nat} {p : ProdT} (h : (shapeP n p).2 = 0) : ¬ (showX n p).toList = [] := by
 rw [showX, if_pos h, ByteArray.toList_eq]
 intro e
 have h1 : (prodX n p).data.toList.length = (prodX n p).size := Array.length_toList
 rw [e] at h1
 unfold prodX at h1
 rw [ByteArray.size_append] at h1
 have h2 : (⟨#[125, 10]⟩ : ByteArray).size = 2 := rfl
 rw [h2] at h1
 simp at h1 <;> omega
theorem other_plain (n k : Nat) (p : ProdT) : plainP n (otherP n k p) = plainP n p := turn_law n k p _
theorem other_fit {n k : Nat} {p : ProdT} (h : Fit n p) : Fit n (otherP n k p) := by
 refine ⟨?_, ?_, fun x hx => ?_, ?_, ?_, h.nn, fun x hx => ?_⟩
 · show (p.conds.map _).length ≤ 1000; rw [List.length_map]; exact h.c
 · show (p.acts.map _).length ≤ 1000; rw [List.length_map]; exact h.a
 · obtain ⟨y, hy, rfl⟩ := List.mem_map.1 (show x ∈ p.conds.map _ from hx)
   exact smc_R _ n y (h.s y hy)
 · rw [otherP, ren_vars n p _ (fun x hx => turnB_no (vars_no hx)), List.length_map]; exact h.v
 · show (flatC n 0 (p.conds.map _)).length ≤ 1000000000; rw [flat_condR]; exact h.f
 · obtain ⟨y, hy, rfl⟩ := List.mem_map.1 (show x ∈ p.conds.map _ from hx)
   exact dp_condR _ n y (h.d y hy)
set_option maxRecDepth 100000 in
set_option maxHeartbeats 16000000 in
theorem namesc_walk (n : Nat) (p : ProdT) (A1 : Option Addr) (c1 : Nat) (A2 : Option Addr) (c2 : Nat) (v : Int) (w : World) (h1 : RowR (repCondT n) (· < w.heap.size) w A1 c1 p.conds) (h2 : RowR repActT (· < w.heap.size) w A2 c2 p.acts) :
 Calls Tryz.prog 8 #[.agg #[.string p.name, .slice A1 p.conds.length c1, .slice A2 p.acts.length c2], .int .i64 v] w fun e w' => e = .returned (.bool true) ∧ Below w.heap.size w w' := by
 have H1 := Lib.hid h1
 have H2 := Lib.hid h2
 clear h1 h2
 go_enter Tryz.func8, Tryz.ntmps8
 go_upto_region 1 with fail
 obtain ⟨w1, hw1⟩ : ∃ w1, w1 = (w.alloc (.cells #[.string p.name, .slice A1 p.conds.length c1, .slice A2 p.acts.length c2] 25)) := ⟨_, rfl⟩
 rw [← hw1]
 have HB := Lib.hid (show Below w.heap.size w w1 by rw [hw1]; exact (by repeat (first | exact Below.refl _ _ | refine Below.drew ?_ | refine Below.al ?_ _ | refine Below.sc ?_ _)))
 have Ka := Lib.hid (show Blk w1 (w.heap.size) 25 #[.string p.name, .slice A1 p.conds.length c1, .slice A2 p.acts.length c2] by rw [hw1]; exact (Blk.new w 25 #[.string p.name, .slice A1 p.conds.length c1, .slice A2 p.acts.length c2]))
 clear hw1
 obtain ⟨a0, a1, a2⟩ := Ka.out.c3
 have az := Ka.out.lt
 go_wp2_with fail
 with_reducible refine (heavy_is n p A1 A2 c1 c2 _ (H1.out.new_ (by (repeat (first | exact Below.refl _ _ | exact HB.out | refine Below.drew ?_ | refine Below.al ?_ _ | refine Below.sc ?_ _)))) (H2.out.new_ (by (repeat (first | exact Below.refl _ _ | exact HB.out | refine Below.drew ?_ | refine Below.al ?_ _ | refine Below.sc ?_ _))))).mono ?_
 rintro e w2 ⟨rfl, hb⟩
 have hbs := Below.trans (show Below w1.heap.size w1 _ from (by (repeat (first | exact Below.refl _ _ | refine Below.drew ?_ | refine Below.al ?_ _ | refine Below.sc ?_ _)))) (hb.mono (by simp <;> omega))
 have Ka := Lib.hid (Ka.out.new_ hbs)
 have HB := Lib.hid (HB.out.trans (hbs.mono HB.out.size))
 have hsz2 := hbs.size
 clear a0 a1 a2 az hb hbs
 obtain ⟨a0, a1, a2⟩ := Ka.out.c3
 have az := Ka.out.lt
 obtain ⟨bh, hbh⟩ : ∃ b, b = heavyP n p := ⟨_, rfl⟩
 rw [← hbh]
 have HBH := Lib.hid hbh
 clear hbh
 cases bh
 · skip
   have HNH := Lib.hid HBH.out.symm
   have HR1 := Lib.hid (fit_of HNH.out H1.out).1
   have HF := Lib.hid (fit_of HNH.out H1.out).2
   obtain ⟨q, hq⟩ : ∃ q, q = plainP 20 p := ⟨_, rfl⟩
   obtain ⟨z1, hz1⟩ : ∃ z, z = (shapeP 20 q).1 := ⟨_, rfl⟩
   obtain ⟨z, hz⟩ : ∃ z, z = (shapeP 20 q).2 := ⟨_, rfl⟩
   have HPL := Lib.hid (show ∀ W, Below w.heap.size w W → Calls Tryz.prog 39 #[.agg #[.string p.name, .slice A1 p.conds.length c1, .slice A2 p.acts.length c2]] W (FreshP 20 q W) from fun W hW => by
    rw [hq]
    exact rplain_is 20 p A1 c1 A2 c2 W (HR1.out.new_ hW) (H2.out.new_ hW) HF.out.c HF.out.a HF.out.s HF.out.v)
   have hfp : (flatC 20 0 p.conds).length ≤ 40 := (heavyP_light HNH.out).2.1 20 0
   have hfq : (flatC 20 0 q.conds).length ≤ 40 := by rw [hq]; show (flatC 20 0 (p.conds.map _)).length ≤ 40; rw [flat_condR]; exact hfp
   have HSQ := Lib.hid (show ∀ (W : World) (D : Nat → Prop) (E1 : Option Addr) (d1 : Nat) (E2 : Option Addr) (d2 : Nat), RowR (repCondT 20) D W E1 d1 q.conds → RowR repActT D W E2 d2 q.acts → Calls Tryz.prog 43 #[.agg #[.string q.name, .slice E1 q.conds.length d1, .slice E2 q.acts.length d2]] W fun e w' => e = .returned (.tuple #[.int .i64 z1, .int .i64 z]) ∧ Below W.heap.size W w' from fun W D E1 d1 E2 d2 g1 g2 => by
    rw [hz1, hz]
    exact rshape_is q 20 E1 E2 d1 d2 W g1 g2 (by omega) (by decide))
   obtain ⟨y1, hy1⟩ : ∃ z, z = (shapeP 20 p).1 := ⟨_, rfl⟩
   obtain ⟨y, hy⟩ : ∃ z, z = (shapeP 20 p).2 := ⟨_, rfl⟩
   have HSP := Lib.hid (show ∀ (W : World), Below w.heap.size w W → Calls Tryz.prog 43 #[.agg #[.string p.name, .slice A1 p.conds.length c1, .slice A2 p.acts.length c2]] W fun e w' => e = .returned (.tuple #[.int .i64 y1, .int .i64 y]) ∧ Below W.heap.size W w' from fun W hW => by
    rw [hy1, hy]
    exact rshape_is p 20 A1 A2 c1 c2 W (HR1.out.new_ hW) (H2.out.new_ hW) (by omega) (by decide))
   have HQ := Lib.hid hq
   have HZ := Lib.hid hz
   have HY := Lib.hid hy
   clear hq hz1 hz hy1 hy hfp hfq HBH
   go_wp2_with fail
   with_reducible refine (HPL.out _ (by (repeat (first | exact Below.refl _ _ | exact HB.out | refine Below.drew ?_ | refine Below.al ?_ _ | refine Below.sc ?_ _)))).mono ?_
   rintro e w3 ⟨E1, d1, E2, d2, rfl, g1, g2, hb⟩
   have hbs := Below.trans (show Below w2.heap.size w2 _ from (by (repeat (first | exact Below.refl _ _ | refine Below.drew ?_ | refine Below.al ?_ _ | refine Below.sc ?_ _)))) (hb.mono (by simp <;> omega))
   have Ka := Lib.hid (Ka.out.new_ hbs)
   have HB := Lib.hid (HB.out.trans (hbs.mono HB.out.size))
   have hsz3 := hbs.size
   clear a0 a1 a2 az hb hbs
   obtain ⟨a0, a1, a2⟩ := Ka.out.c3
   have az := Ka.out.lt
   have HG1 := Lib.hid g1
   have HG2 := Lib.hid g2
   clear g1 g2
   go_wp2_with fail
   with_reducible refine (HSQ.out _ _ E1 d1 E2 d2 HG1.out HG2.out).mono ?_
   rintro e w4 ⟨rfl, hb⟩
   have hbs := Below.trans (show Below w3.heap.size w3 _ from (by (repeat (first | exact Below.refl _ _ | refine Below.drew ?_ | refine Below.al ?_ _ | refine Below.sc ?_ _)))) (hb.mono (by simp <;> omega))
   have Ka := Lib.hid (Ka.out.new_ hbs)
   have HG1 := Lib.hid (HG1.out.new_ hbs)
   have HG2 := Lib.hid (HG2.out.new_ hbs)
   have HB := Lib.hid (HB.out.trans (hbs.mono HB.out.size))
   have hsz4 := hbs.size
   clear a0 a1 a2 az hb hbs
   obtain ⟨a0, a1, a2⟩ := Ka.out.c3
   have az := Ka.out.lt
   by_cases hzz : z = 0
   · skip
     have HZ0 := Lib.hid (show (shapeP 20 q).2 = 0 by rw [← HZ.out]; exact hzz)
     subst hzz
     go_wp2_with fail
     with_reducible refine (HSP.out _ (by (repeat (first | exact Below.refl _ _ | exact HB.out | refine Below.drew ?_ | refine Below.al ?_ _ | refine Below.sc ?_ _)))).mono ?_
     rintro e w5 ⟨rfl, hb⟩
     have hbs := Below.trans (show Below w4.heap.size w4 _ from (by (repeat (first | exact Below.refl _ _ | refine Below.drew ?_ | refine Below.al ?_ _ | refine Below.sc ?_ _)))) (hb.mono (by simp <;> omega))
     have Ka := Lib.hid (Ka.out.new_ hbs)
     have HG1 := Lib.hid (HG1.out.new_ hbs)
     have HG2 := Lib.hid (HG2.out.new_ hbs)
     have HB := Lib.hid (HB.out.trans (hbs.mono HB.out.size))
     have hsz5 := hbs.size
     clear a0 a1 a2 az hb hbs
     obtain ⟨a0, a1, a2⟩ := Ka.out.c3
     have az := Ka.out.lt
     by_cases hyy : y = 0
     · skip
       have HY0 := Lib.hid (show (shapeP 20 p).2 = 0 by rw [← HY.out]; exact hyy)
       subst hyy
       obtain ⟨j, hj1, hj2⟩ := within_nat v (n := 26) (by decide)
       have HW := Lib.hid (show ∀ W, Calls Tryz.prog 13 #[.int .i64 v, .int .i64 26] W fun e w0 => e = .returned (.int .i64 (j : Int)) ∧ W = w0 from fun W => by
        have := within_is v 26 W (by decide)
        rwa [show within v 26 = (j : Int) from hj1] at this)
       obtain ⟨r, hr⟩ : ∃ r, r = otherP 20 j p := ⟨_, rfl⟩
       have HFR := Lib.hid (show Fit 20 r by rw [hr]; exact other_fit HF.out)
       have HRP := Lib.hid (show plainP 20 r = q by rw [hr, other_plain, HQ.out])
       have HOT := Lib.hid (show ∀ W, Below w.heap.size w W → Calls Tryz.prog 44 #[.agg #[.string p.name, .slice A1 p.conds.length c1, .slice A2 p.acts.length c2], .int .i64 (j : Int)] W (FreshP 20 r W) from fun W hW => by
        rw [hr]
        exact otherp_is 20 j hj2 p A1 c1 A2 c2 W (HR1.out.new_ hW) (H2.out.new_ hW) HF.out.c HF.out.a HF.out.s (vars_word HY0.out))
       have HBL := Lib.hid HB.out.size
       clear hj1 hj2 hr
       go_upto_region 9 with fail
       go_cut [9] from 41 (fun b wc => ∃ g F1 x1 F2 x2, b = .pointer (some ⟨g, 0, none⟩) ∧ w5.heap.size ≤ g ∧ Blk wc g 25 #[.string r.name, .slice F1 r.conds.length x1, .slice F2 r.acts.length x2] ∧ Below w5.heap.size w5 wc ∧ RowR (repCondT 20) (Ex w5 wc g) wc F1 x1 r.conds ∧ RowR repActT (Ex w5 wc g) wc F2 x2 r.acts)
       case first =>
        refine wp_region_Pl (fun w9 => Below w5.heap.size w5 w9) [0, 1] [0] (.fork [(0, 1), (1, 0)] 2 (.fork [] 3 (.fin [(4, 2), (5, 2)]) 4 (.fin [(3, 2), (5, 2)])) 4 (.fin [(2, 2), (3, 2), (5, 2)])) (by kernel_rfl) (by kernel_rfl) (by kernel_rfl) (fun KK hKK => ?_)
        simp only [wpPl, beside, List.filterMap_cons, List.filterMap_nil, List.getElem?_toArray, List.getElem?_cons_zero, List.getElem?_cons_succ, Option.map_some]
        repeat ((first | (refine wpY_w ?_ (Or.inl ⟨by rfl, fun w9 => ?_⟩) ?_; rotate_left 1; go_simp; with_reducible rfl) | (refine wpY_l ?_ ((Below.refl _ _).drew) (Or.inl ⟨by rfl, fun w9 hw9 => ?_⟩) ?_; rotate_left 1; obtain ⟨hc9, hf9⟩ := bcell hw9; go_simp; with_reducible rfl) | refine wpY_w undef (Or.inr ⟨by rfl, rfl⟩) ?_ | refine wpY_l undef ((Below.refl _ _).drew) (Or.inr ⟨by rfl, rfl⟩) ?_); go_frame)
        refine wpY_nil ⟨?_, ?_⟩
        · refine wpOp_cs rfl (fun K9 hK9 => ?_)
          go_simp
          refine (HW.out _).mono ?_
          rintro e w0 ⟨rfl, rfl⟩
          refine hK9 _ _ (fun _ => (Below.refl _ _).drew) ?_
          clear hK9 K9
          try go_frame
          try simp only [beside, List.filterMap_nil]
          refine wpY_nil ⟨?_, ?_⟩
          · refine wpOp_cs rfl (fun K9 hK9 => ?_)
            go_simp
            refine (HOT.out _ (HB.out.trans (((Below.refl w5.heap.size w5).drew).mono HBL.out))).mono ?_
            rintro e wC ⟨F1, x1, F2, x2, rfl, hr1, hr2, hb⟩
            obtain ⟨DC, hr3, hr4, hl2⟩ : ∃ D : Nat → Prop, RowR (repCondT 20) D wC F1 x1 r.conds ∧ RowR repActT D wC F2 x2 r.acts ∧ (∀ j, D j → (w5.drew).heap.size ≤ j ∧ j < wC.heap.size) := ⟨_, hr1, hr2, fun j hj => hj⟩
            have RC := Lib.hid hr3
            have RA := Lib.hid hr4
            have MC := Lib.hid (show ∀ j, DC j → w5.heap.size ≤ j ∧ j < wC.heap.size from fun j hj => ⟨Nat.le_trans ((Below.refl w5.heap.size w5).drew).size (hl2 j hj).1, (hl2 j hj).2⟩)
            have HBCx := Lib.hid (((Below.refl w5.heap.size w5).drew).trans (hb.mono ((Below.refl w5.heap.size w5).drew).size))
            clear hr1 hr2 hr3 hr4 hl2 hb
            refine hK9 _ _ (fun _ => HBCx.out) ?_
            clear hK9 K9
            try go_frame
            try simp only [beside, List.filterMap_nil]
            refine wpY_es (fun K9 hK9 => ?_)
            go_simp
            have hb : Below wC.heap.size wC (wC.alloc (.cells #[.string ⟨#[]⟩, .slice none 0 0, .slice none 0 0] 25)) := (Below.refl _ _).alloc (Nat.le_refl _) _
            have NC := Lib.hid (show ∀ j, DC j → j ≠ wC.heap.size from fun j hj e => by have h1 := (MC.out j hj).2; omega)
            have RA := Lib.hid (RA.out.new_ hb)
            have RC := Lib.hid (RC.out.new_ hb)
            have MC := Lib.hid (fun j hj => And.intro (MC.out j hj).1 (Nat.lt_of_lt_of_le (MC.out j hj).2 (hb).size))
            have HK := Lib.hid (show Blk (wC.alloc (.cells #[.string ⟨#[]⟩, .slice none 0 0, .slice none 0 0] 25)) wC.heap.size 25 #[.string ⟨#[]⟩, .slice none 0 0, .slice none 0 0] from Blk.new _ _ _)
            have HGE := Lib.hid (show w5.heap.size ≤ wC.heap.size from (HBCx.out).size)
            have HBg := Lib.hid ((HBCx.out).trans (hb.mono (HBCx.out).size))
            clear hb
            refine hK9 _ _ (HBg.out) ?_
            clear hK9 K9
            try go_frame
            refine wpY_es (fun K9 hK9 => ?_)
            refine step_store_el rfl 25 _ _ rfl wC.heap.size 0 #[Value.string r.name, Value.slice F1 r.conds.length x1, Value.slice F2 r.acts.length x2] rfl rfl (show _ from HK.out.there) (by kernel_rfl) (by kernel_rfl) ?_
            refine hK9 _ _ (Below.setCells' _ _ (HBg.out) HGE.out) ?_
            clear hK9 K9
            try go_frame
            refine wpY_nil ?_
            simp only [OnlyN_normal]
            refine hKK _ _ ?_
            clear hKK KK
            go_wp2_with fail
            go_meet
            case rel => exact ⟨wC.heap.size, F1, x1, F2, x2, rfl, HGE.out, HK.out.setAllC rfl, Below.setCells' _ _ (HBg.out) HGE.out, (RC.out.keep (by rw [size_setCells]; omega) (fun j hj _ => ⟨⟨(MC.out j hj).1, by rw [size_setCells]; exact (MC.out j hj).2, NC.out j hj⟩, blk_setCells _ _ _ _ _ (NC.out j hj)⟩)), (RA.out.keep (by rw [size_setCells]; omega) (fun j hj _ => ⟨⟨(MC.out j hj).1, by rw [size_setCells]; exact (MC.out j hj).2, NC.out j hj⟩, blk_setCells _ _ _ _ _ (NC.out j hj)⟩))⟩
          · refine wpOp_cs rfl (fun K9 hK9 => ?_)
            go_simp
            have hb : Below w5.drew.heap.size w5.drew (w5.drew.alloc (.cells #[.string ⟨#[]⟩, .slice none 0 0, .slice none 0 0] 25)) := (Below.refl _ _).alloc (Nat.le_refl _) _
            have HK := Lib.hid (show Blk (w5.drew.alloc (.cells #[.string ⟨#[]⟩, .slice none 0 0, .slice none 0 0] 25)) w5.heap.size 25 #[.string ⟨#[]⟩, .slice none 0 0, .slice none 0 0] from Blk.new _ _ _)
            have HGE := Lib.hid (show w5.heap.size ≤ w5.heap.size from ((Below.refl w5.heap.size w5).drew).size)
            have HBg := Lib.hid (((Below.refl w5.heap.size w5).drew).trans (hb.mono ((Below.refl w5.heap.size w5).drew).size))
            clear hb
            refine hK9 _ _ (fun _ => HBg.out) ?_
            clear hK9 K9
            try go_frame
            try simp only [beside, List.filterMap_nil]
            refine wpY_es (fun K9 hK9 => ?_)
            go_simp
            refine (HOT.out _ (HB.out.trans ((HBg.out).mono HBL.out))).mono ?_
            rintro e wC ⟨F1, x1, F2, x2, rfl, hr1, hr2, hb⟩
            obtain ⟨DC, hr3, hr4, hl2⟩ : ∃ D : Nat → Prop, RowR (repCondT 20) D wC F1 x1 r.conds ∧ RowR repActT D wC F2 x2 r.acts ∧ (∀ j, D j → ((w5.drew.alloc (.cells #[.string ⟨#[]⟩, .slice none 0 0, .slice none 0 0] 25))).heap.size ≤ j ∧ j < wC.heap.size) := ⟨_, hr1, hr2, fun j hj => hj⟩
            have NC := Lib.hid (show ∀ j, DC j → j ≠ w5.heap.size from fun j hj e => by have h1 := (hl2 j hj).1; have h2 := HK.out.lt; omega)
            have HK := Lib.hid (HK.out.new_ hb)
            have RC := Lib.hid hr3
            have RA := Lib.hid hr4
            have MC := Lib.hid (show ∀ j, DC j → w5.heap.size ≤ j ∧ j < wC.heap.size from fun j hj => ⟨Nat.le_trans (HBg.out).size (hl2 j hj).1, (hl2 j hj).2⟩)
            have HBCx := Lib.hid ((HBg.out).trans (hb.mono (HBg.out).size))
            clear hr1 hr2 hr3 hr4 hl2 hb
            refine hK9 _ _ (HBCx.out) ?_
            clear hK9 K9
            try go_frame
            refine wpY_es (fun K9 hK9 => ?_)
            refine step_store_el rfl 25 _ _ rfl w5.heap.size 0 #[Value.string r.name, Value.slice F1 r.conds.length x1, Value.slice F2 r.acts.length x2] rfl rfl (show _ from HK.out.there) (by kernel_rfl) (by kernel_rfl) ?_
            refine hK9 _ _ (Below.setCells' _ _ (HBCx.out) HGE.out) ?_
            clear hK9 K9
            try go_frame
            refine wpY_nil ?_
            simp only [OnlyN_normal]
            refine hKK _ _ ?_
            clear hKK KK
            go_wp2_with fail
            go_meet
            case rel => exact ⟨w5.heap.size, F1, x1, F2, x2, rfl, HGE.out, HK.out.setAllC rfl, Below.setCells' _ _ (HBCx.out) HGE.out, (RC.out.keep (by rw [size_setCells]; omega) (fun j hj _ => ⟨⟨(MC.out j hj).1, by rw [size_setCells]; exact (MC.out j hj).2, NC.out j hj⟩, blk_setCells _ _ _ _ _ (NC.out j hj)⟩)), (RA.out.keep (by rw [size_setCells]; omega) (fun j hj _ => ⟨⟨(MC.out j hj).1, by rw [size_setCells]; exact (MC.out j hj).2, NC.out j hj⟩, blk_setCells _ _ _ _ _ (NC.out j hj)⟩))⟩
        · refine wpOp_cs rfl (fun K9 hK9 => ?_)
          go_simp
          have hb : Below w5.drew.heap.size w5.drew (w5.drew.alloc (.cells #[.string ⟨#[]⟩, .slice none 0 0, .slice none 0 0] 25)) := (Below.refl _ _).alloc (Nat.le_refl _) _
          have HK := Lib.hid (show Blk (w5.drew.alloc (.cells #[.string ⟨#[]⟩, .slice none 0 0, .slice none 0 0] 25)) w5.heap.size 25 #[.string ⟨#[]⟩, .slice none 0 0, .slice none 0 0] from Blk.new _ _ _)
          have HGE := Lib.hid (show w5.heap.size ≤ w5.heap.size from ((Below.refl w5.heap.size w5).drew).size)
          have HBg := Lib.hid (((Below.refl w5.heap.size w5).drew).trans (hb.mono ((Below.refl w5.heap.size w5).drew).size))
          clear hb
          refine hK9 _ _ (fun _ => HBg.out) ?_
          clear hK9 K9
          try go_frame
          try simp only [beside, List.filterMap_nil]
          refine wpY_es (fun K9 hK9 => ?_)
          go_simp
          refine (HW.out _).mono ?_
          rintro e w0 ⟨rfl, rfl⟩
          refine hK9 _ _ (HBg.out) ?_
          clear hK9 K9
          try go_frame
          refine wpY_es (fun K9 hK9 => ?_)
          go_simp
          refine (HOT.out _ (HB.out.trans ((HBg.out).mono HBL.out))).mono ?_
          rintro e wC ⟨F1, x1, F2, x2, rfl, hr1, hr2, hb⟩
          obtain ⟨DC, hr3, hr4, hl2⟩ : ∃ D : Nat → Prop, RowR (repCondT 20) D wC F1 x1 r.conds ∧ RowR repActT D wC F2 x2 r.acts ∧ (∀ j, D j → ((w5.drew.alloc (.cells #[.string ⟨#[]⟩, .slice none 0 0, .slice none 0 0] 25))).heap.size ≤ j ∧ j < wC.heap.size) := ⟨_, hr1, hr2, fun j hj => hj⟩
          have NC := Lib.hid (show ∀ j, DC j → j ≠ w5.heap.size from fun j hj e => by have h1 := (hl2 j hj).1; have h2 := HK.out.lt; omega)
          have HK := Lib.hid (HK.out.new_ hb)
          have RC := Lib.hid hr3
          have RA := Lib.hid hr4
          have MC := Lib.hid (show ∀ j, DC j → w5.heap.size ≤ j ∧ j < wC.heap.size from fun j hj => ⟨Nat.le_trans (HBg.out).size (hl2 j hj).1, (hl2 j hj).2⟩)
          have HBCx := Lib.hid ((HBg.out).trans (hb.mono (HBg.out).size))
          clear hr1 hr2 hr3 hr4 hl2 hb
          refine hK9 _ _ (HBCx.out) ?_
          clear hK9 K9
          try go_frame
          refine wpY_es (fun K9 hK9 => ?_)
          refine step_store_el rfl 25 _ _ rfl w5.heap.size 0 #[Value.string r.name, Value.slice F1 r.conds.length x1, Value.slice F2 r.acts.length x2] rfl rfl (show _ from HK.out.there) (by kernel_rfl) (by kernel_rfl) ?_
          refine hK9 _ _ (Below.setCells' _ _ (HBCx.out) HGE.out) ?_
          clear hK9 K9
          try go_frame
          refine wpY_nil ?_
          simp only [OnlyN_normal]
          refine hKK _ _ ?_
          clear hKK KK
          go_wp2_with fail
          go_meet
          case rel => exact ⟨w5.heap.size, F1, x1, F2, x2, rfl, HGE.out, HK.out.setAllC rfl, Below.setCells' _ _ (HBCx.out) HGE.out, (RC.out.keep (by rw [size_setCells]; omega) (fun j hj _ => ⟨⟨(MC.out j hj).1, by rw [size_setCells]; exact (MC.out j hj).2, NC.out j hj⟩, blk_setCells _ _ _ _ _ (NC.out j hj)⟩)), (RA.out.keep (by rw [size_setCells]; omega) (fun j hj _ => ⟨⟨(MC.out j hj).1, by rw [size_setCells]; exact (MC.out j hj).2, NC.out j hj⟩, blk_setCells _ _ _ _ _ (NC.out j hj)⟩))⟩
       case rest =>
        obtain ⟨g, F1, x1, F2, x2, rfl, hg, hG, hB, t1, t2⟩ := hcut
        have HB := Lib.hid (HB.out.trans (hB.mono HBL.out))
        have HD := Lib.hid (show ∀ k, (fun j => j < wc.heap.size) k → k < wc.heap.size from fun k hk => hk)
        have HP1 := Lib.hid ((HR1.out.new_ HB.out).weaken (D' := (· < wc.heap.size)) (fun k hk => Nat.lt_of_lt_of_le hk HB.out.size))
        have HP2 := Lib.hid ((H2.out.new_ HB.out).weaken (D' := (· < wc.heap.size)) (fun k hk => Nat.lt_of_lt_of_le hk HB.out.size))
        have HT1 := Lib.hid (t1.weaken (D' := (· < wc.heap.size)) (fun k hk => hk.2.1))
        have HT2 := Lib.hid (t2.weaken (D' := (· < wc.heap.size)) (fun k hk => hk.2.1))
        have Ka := Lib.hid (Ka.out.new_ hB)
        obtain ⟨s, hs⟩ : ∃ s, s = textC 20 p := ⟨_, rfl⟩
        have hsr : textC 20 r = s := by rw [hs, textC, textC, HRP.out, HQ.out]
        have hsn : ¬ s.toList = [] := by rw [hs, textC, ← HQ.out]; exact showX_yes HZ0.out
        have HSAME := Lib.hid (show ∀ W, Below wc.heap.size wc W → Calls Tryz.prog 42 #[.agg #[.string p.name, .slice A1 p.conds.length c1, .slice A2 p.acts.length c2], .agg #[.string r.name, .slice F1 r.conds.length x1, .slice F2 r.acts.length x2]] W fun e w' => e = .returned (.bool true) ∧ Below W.heap.size W w' from fun W hW => by
         have := csame_is (D := (· < wc.heap.size)) 20 p r A1 c1 A2 c2 F1 x1 F2 x2 W (fun k hk => Nat.lt_of_lt_of_le hk hW.size) (HP1.out.new_ hW) (HP2.out.new_ hW) HF.out (HT1.out.new_ hW) (HT2.out.new_ hW) HFR.out
         rw [show sameC 20 p r = true by rw [sameC, hsr, ← hs, decide_eq_true hsn, decide_eq_true rfl]; rfl] at this
         exact this)
        have HTP := Lib.hid (show ∀ W, Below wc.heap.size wc W → Calls Tryz.prog 40 #[.agg #[.string p.name, .slice A1 p.conds.length c1, .slice A2 p.acts.length c2]] W fun e w' => e = .returned (.string s) ∧ Below W.heap.size W w' from fun W hW => by rw [hs]; exact ctext_is (D := (· < wc.heap.size)) 20 p A1 c1 A2 c2 W (fun k hk => Nat.lt_of_lt_of_le hk hW.size) (HP1.out.new_ hW) (HP2.out.new_ hW) HF.out)
        have HTR := Lib.hid (show ∀ W, Below wc.heap.size wc W → Calls Tryz.prog 40 #[.agg #[.string r.name, .slice F1 r.conds.length x1, .slice F2 r.acts.length x2]] W fun e w' => e = .returned (.string s) ∧ Below W.heap.size W w' from fun W hW => by rw [← hsr]; exact ctext_is (D := (· < wc.heap.size)) 20 r F1 x1 F2 x2 W (fun k hk => Nat.lt_of_lt_of_le hk hW.size) (HT1.out.new_ hW) (HT2.out.new_ hW) HFR.out)
        have HPP := Lib.hid (show ∀ W, Below wc.heap.size wc W → Calls Tryz.prog 38 #[.agg #[.string p.name, .slice A1 p.conds.length c1, .slice A2 p.acts.length c2]] W (FreshP 20 q W) from fun W hW => by rw [HQ.out]; exact cplain_is (D := (· < wc.heap.size)) 20 p A1 c1 A2 c2 W (fun k hk => Nat.lt_of_lt_of_le hk hW.size) (HP1.out.new_ hW) (HP2.out.new_ hW) HF.out.c HF.out.a HF.out.s HF.out.v)
        have HPR := Lib.hid (show ∀ W, Below wc.heap.size wc W → Calls Tryz.prog 38 #[.agg #[.string r.name, .slice F1 r.conds.length x1, .slice F2 r.acts.length x2]] W (FreshP 20 q W) from fun W hW => by rw [← HRP.out]; exact cplain_is (D := (· < wc.heap.size)) 20 r F1 x1 F2 x2 W (fun k hk => Nat.lt_of_lt_of_le hk hW.size) (HT1.out.new_ hW) (HT2.out.new_ hW) HFR.out.c HFR.out.a HFR.out.s HFR.out.v)
        have HGB := Lib.hid hG
        clear hg hG hB t1 t2 hs hsr hsn
        obtain ⟨a0, a1, a2⟩ := Ka.out.c3
        have az := Ka.out.lt
        obtain ⟨g0, g1, g2⟩ := HGB.out.c3
        have gz := HGB.out.lt
        go_upto_region 10 with fail
        refine wp_region_E (fun w9 => Below wc.heap.size wc w9) [(0, 1), (1, 1), (2, 2), (3, 0), (4, 1), (6, 1), (5, 2), (7, 2), (8, 0), (9, 0), (10, 0), (11, 1), (13, 1), (12, 2), (14, 2), (15, 2), (16, 0), (17, 0), (18, 2), (19, 0), (20, 0)] (by kernel_rfl) (by kernel_rfl) (fun KK hKK => ?_)
        simp only [beside, List.filterMap_cons, List.filterMap_nil, List.getElem?_toArray, List.getElem?_cons_zero, List.getElem?_cons_succ, Option.map_some]
        repeat ((first | (refine wpX_w ?_ (Or.inl ⟨by rfl, fun w9 => ?_⟩) ?_; rotate_left 1; go_simp; with_reducible rfl) | (refine wpX_l ?_ (((Below.refl _ _).drew)) (Or.inl ⟨by rfl, fun w9 hw9 => ?_⟩) ?_; rotate_left 1; obtain ⟨hc9, hf9⟩ := bcell hw9; go_simp; with_reducible rfl) | refine wpX_w undef (Or.inr ⟨by rfl, rfl⟩) ?_ | refine wpX_l undef (((Below.refl _ _).drew)) (Or.inr ⟨by rfl, rfl⟩) ?_); go_frame)
        refine wpX_es (fun K9 hK9 => ?_)
        go_simp
        refine (HSAME.out _ ((Below.refl _ _).drew)).mono ?_
        rintro e w31 ⟨rfl, hb31⟩
        have HB31 := Lib.hid ((Below.refl wc.heap.size wc).drew.trans (hb31.mono (by simp)))
        clear hb31
        refine hK9 _ _ HB31.out ?_
        clear hK9 K9
        repeat ((first | (refine wpX_w ?_ (Or.inl ⟨by rfl, fun w9 => ?_⟩) ?_; rotate_left 1; go_simp; with_reducible rfl) | (refine wpX_l ?_ (HB31.out) (Or.inl ⟨by rfl, fun w9 hw9 => ?_⟩) ?_; rotate_left 1; obtain ⟨hc9, hf9⟩ := bcell hw9; go_simp; with_reducible rfl) | refine wpX_w undef (Or.inr ⟨by rfl, rfl⟩) ?_ | refine wpX_l undef (HB31.out) (Or.inr ⟨by rfl, rfl⟩) ?_); go_frame)
        refine wpX_es (fun K9 hK9 => ?_)
        go_simp
        refine (HTP.out _ HB31.out).mono ?_
        rintro e w32 ⟨rfl, hb32⟩
        have HB32 := Lib.hid (HB31.out.trans (hb32.mono HB31.out.size))
        clear hb32
        refine hK9 _ _ HB32.out ?_
        clear hK9 K9
        refine wpX_es (fun K9 hK9 => ?_)
        go_simp
        refine (HTR.out _ HB32.out).mono ?_
        rintro e w33 ⟨rfl, hb33⟩
        have HB33 := Lib.hid (HB32.out.trans (hb33.mono HB32.out.size))
        clear hb33
        refine hK9 _ _ HB33.out ?_
        clear hK9 K9
        repeat ((first | (refine wpX_w ?_ (Or.inl ⟨by rfl, fun w9 => ?_⟩) ?_; rotate_left 1; go_simp; with_reducible rfl) | (refine wpX_l ?_ (HB33.out) (Or.inl ⟨by rfl, fun w9 hw9 => ?_⟩) ?_; rotate_left 1; obtain ⟨hc9, hf9⟩ := bcell hw9; go_simp; with_reducible rfl) | refine wpX_w undef (Or.inr ⟨by rfl, rfl⟩) ?_ | refine wpX_l undef (HB33.out) (Or.inr ⟨by rfl, rfl⟩) ?_); go_frame)
        refine wpX_es (fun K9 hK9 => ?_)
        go_simp
        refine (HPP.out _ HB33.out).mono ?_
        rintro e w34 ⟨G1, m1, G2, m2, rfl, k1, k2, hb34⟩
        have HB34 := Lib.hid (HB33.out.trans (hb34.mono HB33.out.size))
        have HK1 := Lib.hid k1
        have HK2 := Lib.hid k2
        clear k1 k2
        clear hb34
        refine hK9 _ _ HB34.out ?_
        clear hK9 K9
        refine wpX_e (by kernel_rfl) (fun K9 hK9 => ?_)
        go_simp
        refine (HPR.out _ HB34.out).mono ?_
        rintro e w35 ⟨L1, n1, L2, n2, rfl, k1, k2, hb35⟩
        have HB35 := Lib.hid (HB34.out.trans (hb35.mono HB34.out.size))
        have HL1 := Lib.hid k1
        have HL2 := Lib.hid k2
        have HK1 := Lib.hid (HK1.out.new_ hb35)
        have HK2 := Lib.hid (HK2.out.new_ hb35)
        clear k1 k2
        clear hb35
        refine hK9 _ _ ?_
        clear hK9 K9
        refine wpX_e (by kernel_rfl) (fun K9 hK9 => ?_)
        go_simp
        refine (prod_same 20 q G1 m1 G2 m2 L1 n1 L2 n2 _ HK1.out HK2.out HL1.out HL2.out).mono ?_
        rintro e w36 ⟨rfl, hb36⟩
        have HB36 := Lib.hid (HB35.out.trans (hb36.mono HB35.out.size))
        clear hb36
        refine hK9 _ _ ?_
        clear hK9 K9
        repeat ((first | (refine wpX_w ?_ (Or.inl ⟨by rfl, fun w9 => ?_⟩) ?_; rotate_left 1; go_simp; with_reducible rfl) | (refine wpX_l ?_ (HB36.out) (Or.inl ⟨by rfl, fun w9 hw9 => ?_⟩) ?_; rotate_left 1; obtain ⟨hc9, hf9⟩ := bcell hw9; go_simp; with_reducible rfl) | refine wpX_w undef (Or.inr ⟨by rfl, rfl⟩) ?_ | refine wpX_l undef (HB36.out) (Or.inr ⟨by rfl, rfl⟩) ?_); go_frame)
        refine wpX_e (by kernel_rfl) (fun K9 hK9 => ?_)
        go_simp
        refine (wakes23_is _).mono ?_
        rintro e w37 ⟨rfl, hb37⟩
        have HB37 := Lib.hid (HB36.out.trans (hb37.mono HB36.out.size))
        clear hb37
        refine hK9 _ _ ?_
        clear hK9 K9
        repeat ((first | (refine wpX_w ?_ (Or.inl ⟨by rfl, fun w9 => ?_⟩) ?_; rotate_left 1; go_simp; with_reducible rfl) | (refine wpX_l ?_ (HB37.out) (Or.inl ⟨by rfl, fun w9 hw9 => ?_⟩) ?_; rotate_left 1; obtain ⟨hc9, hf9⟩ := bcell hw9; go_simp; with_reducible rfl) | refine wpX_w undef (Or.inr ⟨by rfl, rfl⟩) ?_ | refine wpX_l undef (HB37.out) (Or.inr ⟨by rfl, rfl⟩) ?_); go_frame)
        refine wpX_nil ?_
        simp only [OnlyN_normal]
        refine hKK _ _ ?_
        clear hKK KK
        go_wp2_with fail
        go_ret
        exact ⟨rfl, HB.out.trans (HB37.out.mono HB.out.size)⟩
     · skip
       have ya : (y == 0) = false := by simp [hyy]
       have yb : decide (y = 0) = false := by simp [hyy]
       have yc : (y != 0) = true := by simp [hyy]
       clear hyy
       go_wp2_with fail
       with_reducible refine (wakes23_is _).mono ?_
       rintro e w6 ⟨rfl, hb⟩
       have hbs := Below.trans (show Below w5.heap.size w5 _ from (by (repeat (first | exact Below.refl _ _ | refine Below.drew ?_ | refine Below.al ?_ _ | refine Below.sc ?_ _)))) (hb.mono (by simp <;> omega))
       have Ka := Lib.hid (Ka.out.new_ hbs)
       have HG1 := Lib.hid (HG1.out.new_ hbs)
       have HG2 := Lib.hid (HG2.out.new_ hbs)
       have HB := Lib.hid (HB.out.trans (hbs.mono HB.out.size))
       have hsz6 := hbs.size
       clear a0 a1 a2 az hb hbs
       obtain ⟨a0, a1, a2⟩ := Ka.out.c3
       have az := Ka.out.lt
       go_wp2_with fail
       go_ret
       exact ⟨rfl, by (repeat (first | exact Below.refl _ _ | exact HB.out | refine Below.drew ?_ | refine Below.al ?_ _ | refine Below.sc ?_ _))⟩
   · skip
     have HZ0 := Lib.hid (show ¬ (shapeP 20 q).2 = 0 by rw [← HZ.out]; exact hzz)
     have za : (z == 0) = false := by simp [hzz]
     have zb : decide (z = 0) = false := by simp [hzz]
     have zc : (z != 0) = true := by simp [hzz]
     clear hzz
     have HTE := Lib.hid (show textC 20 p = ⟨#[]⟩ by rw [textC, ← HQ.out]; exact showX_no HZ0.out)
     have HTX := Lib.hid (show ∀ W, Below w.heap.size w W → Calls Tryz.prog 40 #[.agg #[.string p.name, .slice A1 p.conds.length c1, .slice A2 p.acts.length c2]] W fun e w' => e = .returned (.string ⟨#[]⟩) ∧ Below W.heap.size W w' from fun W hW => by rw [← HTE.out]; exact ctext_is (D := (· < w.heap.size)) 20 p A1 c1 A2 c2 W (fun k hk => Nat.lt_of_lt_of_le hk hW.size) (HR1.out.new_ hW) (H2.out.new_ hW) HF.out)
     have HSM := Lib.hid (show ∀ W, Below w.heap.size w W → Calls Tryz.prog 42 #[.agg #[.string p.name, .slice A1 p.conds.length c1, .slice A2 p.acts.length c2], .agg #[.string p.name, .slice A1 p.conds.length c1, .slice A2 p.acts.length c2]] W fun e w' => e = .returned (.bool false) ∧ Below W.heap.size W w' from fun W hW => by
      have := csame_is (D := (· < w.heap.size)) 20 p p A1 c1 A2 c2 A1 c1 A2 c2 W (fun k hk => Nat.lt_of_lt_of_le hk hW.size) (HR1.out.new_ hW) (H2.out.new_ hW) HF.out (HR1.out.new_ hW) (H2.out.new_ hW) HF.out
      rw [show sameC 20 p p = false by rw [sameC, HTE.out]; kernel_rfl] at this
      exact this)
     go_wp2_with fail
     with_reducible refine (HTX.out _ (by (repeat (first | exact Below.refl _ _ | exact HB.out | refine Below.drew ?_ | refine Below.al ?_ _ | refine Below.sc ?_ _)))).mono ?_
     rintro e w5 ⟨rfl, hb⟩
     have hbs := Below.trans (show Below w4.heap.size w4 _ from (by (repeat (first | exact Below.refl _ _ | refine Below.drew ?_ | refine Below.al ?_ _ | refine Below.sc ?_ _)))) (hb.mono (by simp <;> omega))
     have Ka := Lib.hid (Ka.out.new_ hbs)
     have HG1 := Lib.hid (HG1.out.new_ hbs)
     have HG2 := Lib.hid (HG2.out.new_ hbs)
     have HB := Lib.hid (HB.out.trans (hbs.mono HB.out.size))
     have hsz5 := hbs.size
     clear a0 a1 a2 az hb hbs
     obtain ⟨a0, a1, a2⟩ := Ka.out.c3
     have az := Ka.out.lt
     go_wp2_with fail
     with_reducible refine (HSM.out _ (by (repeat (first | exact Below.refl _ _ | exact HB.out | refine Below.drew ?_ | refine Below.al ?_ _ | refine Below.sc ?_ _)))).mono ?_
     rintro e w6 ⟨rfl, hb⟩
     have hbs := Below.trans (show Below w5.heap.size w5 _ from (by (repeat (first | exact Below.refl _ _ | refine Below.drew ?_ | refine Below.al ?_ _ | refine Below.sc ?_ _)))) (hb.mono (by simp <;> omega))
     have Ka := Lib.hid (Ka.out.new_ hbs)
     have HG1 := Lib.hid (HG1.out.new_ hbs)
     have HG2 := Lib.hid (HG2.out.new_ hbs)
     have HB := Lib.hid (HB.out.trans (hbs.mono HB.out.size))
     have hsz6 := hbs.size
     clear a0 a1 a2 az hb hbs
     obtain ⟨a0, a1, a2⟩ := Ka.out.c3
     have az := Ka.out.lt
     go_wp2_with fail
     with_reducible refine (wakes23_is _).mono ?_
     rintro e w7 ⟨rfl, hb⟩
     have hbs := Below.trans (show Below w6.heap.size w6 _ from (by (repeat (first | exact Below.refl _ _ | refine Below.drew ?_ | refine Below.al ?_ _ | refine Below.sc ?_ _)))) (hb.mono (by simp <;> omega))
     have Ka := Lib.hid (Ka.out.new_ hbs)
     have HG1 := Lib.hid (HG1.out.new_ hbs)
     have HG2 := Lib.hid (HG2.out.new_ hbs)
     have HB := Lib.hid (HB.out.trans (hbs.mono HB.out.size))
     have hsz7 := hbs.size
     clear a0 a1 a2 az hb hbs
     obtain ⟨a0, a1, a2⟩ := Ka.out.c3
     have az := Ka.out.lt
     go_wp2_with fail
     go_ret
     exact ⟨rfl, by (repeat (first | exact Below.refl _ _ | exact HB.out | refine Below.drew ?_ | refine Below.al ?_ _ | refine Below.sc ?_ _))⟩
 · skip
   go_wp2_with fail
   with_reducible refine (wakes23_is _).mono ?_
   rintro e w3 ⟨rfl, hb⟩
   have hbs := Below.trans (show Below w2.heap.size w2 _ from (by (repeat (first | exact Below.refl _ _ | refine Below.drew ?_ | refine Below.al ?_ _ | refine Below.sc ?_ _)))) (hb.mono (by simp <;> omega))
   have Ka := Lib.hid (Ka.out.new_ hbs)
   have HB := Lib.hid (HB.out.trans (hbs.mono HB.out.size))
   have hsz3 := hbs.size
   clear a0 a1 a2 az hb hbs
   obtain ⟨a0, a1, a2⟩ := Ka.out.c3
   have az := Ka.out.lt
   go_wp2_with fail
   go_ret
   exact ⟨rfl, by (repeat (first | exact Below.refl _ _ | exact HB.out | refine Below.drew ?_ | refine Below.al ?_ _ | refine Below.sc ?_ _))⟩
end Go.Proofs.YtffemfglngikbaaGreat
namespace Go.Proofs.YtffemfglngikbaaGreat
open Go.RowKit Go.ChangeShapes Go.WideShapes Go.Deep
set_option maxRecDepth 100000 in
theorem open_ProdT {H : Type} {enc : TypeId × Value → H} {w : World} {r : Reach} {b0 base : Nat} {spare : Nat → Bool} {held : Bool} {v : Value} {d : DataW H} {ps : List MemPlace}
 (hval : Value.okWide Tryz.prog w r b0 25 v) (h : DataW.Trod enc Tryz.prog w base spare held 25 v d ps) : ∃ (n : Nat) (x : ProdT) (A1 : Option Addr) (c1 : Nat) (A2 : Option Addr) (c2 : Nat), v = .agg #[.string x.name, .slice A1 x.conds.length c1, .slice A2 x.acts.length c2] ∧
   RowR (repCondT n) (· < w.heap.size) w A1 c1 x.conds ∧ RowR repActT (· < w.heap.size) w A2 c2 x.acts := by
 obtain ⟨cs, rfl, _⟩ := okWide_struct Tryz.underlying25 hval
 obtain ⟨fuel, hf⟩ := h
 obtain ⟨x, A1, c1, A2, c2, hx, h1, h2⟩ := openN_ProdT enc w base spare held fuel _ _ hf
 refine ⟨fuel, x, A1, c1, A2, c2, ?_, h1, h2⟩
 simp only [Value.cells] at hx
 have : cs = #[.string x.name, .slice A1 x.conds.length c1, .slice A2 x.acts.length c2] := by rw [← Array.toList_inj]; simpa using hx
 rw [this]
end Go.Proofs.YtffemfglngikbaaGreat
