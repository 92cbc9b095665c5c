/-
  Texts put together: RefRen3, CanonAg.
-/
import Derived.Test.YtffemfglngikbaaGreatBr
import Derived.Test.YtffemfglngikbaaGreatBi
import Derived.Test.YtffemfglngikbaaGreatBp
import Derived.Maps.RangeWalk
namespace Go.Proofs.YtffemfglngikbaaGreat
open Go.RowKit Go.Shelf
set_option maxRecDepth 100000 in
set_option maxHeartbeats 32000000 in
theorem rrename_is {N I : Value} {w0 : World} {t : ByteArray → ByteArray} (hN : OtherOk N I w0 t) (n : Nat) (p : ProdT) (A1 : Option Addr) (c1 : Nat) (A2 : Option Addr) (c2 : Nat) {D : Nat → Prop} (w : World) (hw : Below w0.heap.size w0 w)
 (h1 : RowR (repCondT n) D w A1 c1 p.conds) (h2 : RowR repActT D w A2 c2 p.acts) (hl1 : p.conds.length ≤ 1000) (hl2 : p.acts.length ≤ 1000) (hs : ∀ x ∈ p.conds, SmC n x) :
 Calls Tryz.prog 101 #[.agg #[.string p.name, .slice A1 p.conds.length c1, .slice A2 p.acts.length c2], N, I] w (FreshP n (prodR t n p) w) := by
 obtain ⟨i0, hi0, hz0, hz1, hz2⟩ := infp inf_Act
 obtain ⟨L, hL⟩ : ∃ l, l = p.conds.map (condR t n) := ⟨_, rfl⟩
 obtain ⟨M, hM⟩ : ∃ l, l = p.acts.map (actR t) := ⟨_, rfl⟩
 have HR := Lib.hid (show prodR t n p = ⟨p.name, L, M⟩ by rw [hL, hM]; rfl)
 have HML := Lib.hid (show M.length = p.acts.length by rw [hM, List.length_map])
 have HMG := Lib.hid (show ∀ k, (h : k < p.acts.length) → ∃ h' : k < M.length, M[k] = actR t p.acts[k] from fun k h => ⟨by rw [hM, List.length_map]; exact h, by simp [hM]⟩)
 have HTC := Lib.hid (show ∀ W, Below w.heap.size w W → Calls Tryz.prog 167 #[.slice A1 p.conds.length c1, N, I] W (FreshR (repCondT n) L W) from fun W hW => by rw [hL]; exact rconds_all hN n A1 c1 p.conds D W (hw.trans (hW.mono hw.size)) (h1.new_ hW) hl1 hs)
 have HNN := Lib.hid hN
 have H2 := Lib.hid h2
 have HW0 := Lib.hid hw
 have hac := h2.cap
 clear hL hM hN hs h1 h2 hw
 go_enter Tryz.func101, Tryz.ntmps101
 go_upto_region 1 with fail
 obtain ⟨W1, hW1⟩ : ∃ W1, W1 = (w.alloc (.cells #[.string p.name, .slice A1 p.conds.length c1, .slice A2 p.acts.length c2] 25)).alloc (.cells #[.string ⟨#[]⟩, .slice none 0 0, .slice none 0 0] 25) := ⟨_, rfl⟩
 have hB1 : Below w.heap.size w W1 := by rw [hW1]; exact ((Below.refl _ _).alloc (Nat.le_refl _) _).alloc (by simp) _
 have hX1 : Blk W1 w.heap.size 25 #[.string p.name, .slice A1 p.conds.length c1, .slice A2 p.acts.length c2] := by rw [hW1]; exact (Blk.new _ _ _).alloc _
 have hR1 : Blk W1 (w.heap.size + 1) 25 #[.string ⟨#[]⟩, .slice none 0 0, .slice none 0 0] := by rw [hW1]; have := Blk.new (w.alloc (.cells #[.string p.name, .slice A1 p.conds.length c1, .slice A2 p.acts.length c2] 25)) 25 #[.string ⟨#[]⟩, .slice none 0 0, .slice none 0 0]; simpa using this
 have hz1w : W1.heap.size = w.heap.size + 2 := by rw [hW1]; simp
 rw [← hW1]
 clear hW1
 obtain ⟨p0, p1, p2⟩ := hX1.c3
 have HB1 := Lib.hid hB1
 have HX1 := Lib.hid hX1
 have HR1 := Lib.hid hR1
 have HZ1 := Lib.hid hz1w
 have HWZ := Lib.hid (show w.heap.size ≤ W1.heap.size by omega)
 have hxl1 := hX1.lt
 clear hB1 hX1 hR1 hz1w
 go_cut [7] from 10 (fun q wc => ∃ g E1 d1, q = .pointer (some ⟨g, 0, none⟩) ∧ W1.heap.size ≤ g ∧ Blk wc g 25 #[.string p.name, .slice E1 L.length d1, .slice none 0 0] ∧ Below W1.heap.size W1 wc ∧ RowR (repCondT n) (Ex W1 wc g) wc E1 d1 L)
 case first =>
  refine wp_region_Pl (fun w9 => Below W1.heap.size W1 w9) [0, 1, 2, 3, 4, 5, 7] [1, 3] (.fork [(0, 0), (1, 1), (2, 0), (3, 1), (4, 0), (5, 0)] 6 (.fin [(7, 0), (8, 2), (9, 2)]) 8 (.fin [(6, 2), (7, 0), (9, 2)])) (by kernel_rfl) (by kernel_rfl) (by kernel_rfl) (fun KK hKK => ?_)
  simp only [wpPl, beside, List.filterMap_cons, List.filterMap_nil, List.getElem?_toArray, List.getElem?_cons_zero, List.getElem?_cons_succ, Option.map_some]
  repeat ((first | (refine wpY_w ?_ (Or.inl ⟨by rfl, fun w9 => ?_⟩) ?_; rotate_left 1; go_simp; with_reducible rfl) | (refine wpY_l ?_ ((Below.refl _ _).drew) (Or.inl ⟨by rfl, fun w9 hw9 => ?_⟩) ?_; rotate_left 1; obtain ⟨hc9, hf9⟩ := bcell hw9; go_simp; with_reducible rfl) | refine wpY_w undef (Or.inr ⟨by rfl, rfl⟩) ?_ | refine wpY_l undef ((Below.refl _ _).drew) (Or.inr ⟨by rfl, rfl⟩) ?_); go_frame)
  refine wpY_nil ⟨?_, ?_⟩
  · refine wpOp_cs rfl (fun K9 hK9 => ?_)
    go_simp
    refine (HTC.out _ (HB1.out.trans (((Below.refl W1.heap.size W1).drew).mono HWZ.out))).mono ?_
    rintro e wC ⟨BC, dC, rfl, hr, -, hb⟩
    obtain ⟨DC, hr2, hl2⟩ : ∃ D : Nat → Prop, RowR (repCondT n) D wC BC dC L ∧ (∀ j, D j → (W1.drew).heap.size ≤ j ∧ j < wC.heap.size) := ⟨_, hr, fun j hj => hj⟩
    have RC := Lib.hid hr2
    have MC := Lib.hid (show ∀ j, DC j → W1.heap.size ≤ j ∧ j < wC.heap.size from fun j hj => ⟨Nat.le_trans ((Below.refl W1.heap.size W1).drew).size (hl2 j hj).1, (hl2 j hj).2⟩)
    have HBCx := Lib.hid (((Below.refl W1.heap.size W1).drew).trans (hb.mono ((Below.refl W1.heap.size W1).drew).size))
    clear hr hr2 hl2 hb
    refine hK9 _ _ (fun _ => HBCx.out) ?_
    clear hK9 K9
    try go_frame
    try simp only [beside, List.filterMap_nil]
    repeat ((first | (refine wpY_w ?_ (Or.inl ⟨by rfl, fun w9 => ?_⟩) ?_; rotate_left 1; go_simp; with_reducible rfl) | (refine wpY_l ?_ (HBCx.out) (Or.inl ⟨by rfl, fun w9 hw9 => ?_⟩) ?_; rotate_left 1; obtain ⟨hc9, hf9⟩ := bcell hw9; go_simp; with_reducible rfl) | refine wpY_w undef (Or.inr ⟨by rfl, rfl⟩) ?_ | refine wpY_l undef (HBCx.out) (Or.inr ⟨by rfl, rfl⟩) ?_); go_frame)
    refine wpY_es (fun K9 hK9 => ?_)
    go_simp
    have hb : Below wC.heap.size wC (wC.alloc (.cells #[.string ⟨#[]⟩, .slice none 0 0, .slice none 0 0] 25)) := (Below.refl _ _).alloc (Nat.le_refl _) _
    have NC := Lib.hid (show ∀ j, DC j → j ≠ wC.heap.size from fun j hj e => by have h1 := (MC.out j hj).2; omega)
    have RC := Lib.hid (RC.out.new_ hb)
    have MC := Lib.hid (fun j hj => And.intro (MC.out j hj).1 (Nat.lt_of_lt_of_le (MC.out j hj).2 (hb).size))
    have HK := Lib.hid (show Blk (wC.alloc (.cells #[.string ⟨#[]⟩, .slice none 0 0, .slice none 0 0] 25)) wC.heap.size 25 #[.string ⟨#[]⟩, .slice none 0 0, .slice none 0 0] from Blk.new _ _ _)
    have HGE := Lib.hid (show W1.heap.size ≤ wC.heap.size from (HBCx.out).size)
    have HBg := Lib.hid ((HBCx.out).trans (hb.mono (HBCx.out).size))
    clear hb
    refine hK9 _ _ (HBg.out) ?_
    clear hK9 K9
    try go_frame
    refine wpY_es (fun K9 hK9 => ?_)
    refine step_store_el rfl 25 _ _ rfl wC.heap.size 0 #[Value.string p.name, Value.slice BC L.length dC, Value.slice none 0 0] rfl rfl (show _ from HK.out.there) (by kernel_rfl) (by kernel_rfl) ?_
    refine hK9 _ _ (Below.setCells' _ _ (HBg.out) HGE.out) ?_
    clear hK9 K9
    try go_frame
    refine wpY_nil ?_
    simp only [OnlyN_normal]
    refine hKK _ _ ?_
    clear hKK KK
    go_wp2_with fail
    go_meet
    case rel => exact ⟨wC.heap.size, BC, dC, rfl, HGE.out, HK.out.setAllC rfl, Below.setCells' _ _ (HBg.out) HGE.out, (RC.out.keep (by rw [size_setCells]; omega) (fun j hj _ => ⟨⟨(MC.out j hj).1, by rw [size_setCells]; exact (MC.out j hj).2, NC.out j hj⟩, blk_setCells _ _ _ _ _ (NC.out j hj)⟩))⟩
  · refine wpOp_cs rfl (fun K9 hK9 => ?_)
    go_simp
    have hb : Below W1.drew.heap.size W1.drew (W1.drew.alloc (.cells #[.string ⟨#[]⟩, .slice none 0 0, .slice none 0 0] 25)) := (Below.refl _ _).alloc (Nat.le_refl _) _
    have HK := Lib.hid (show Blk (W1.drew.alloc (.cells #[.string ⟨#[]⟩, .slice none 0 0, .slice none 0 0] 25)) W1.heap.size 25 #[.string ⟨#[]⟩, .slice none 0 0, .slice none 0 0] from Blk.new _ _ _)
    have HGE := Lib.hid (show W1.heap.size ≤ W1.heap.size from ((Below.refl W1.heap.size W1).drew).size)
    have HBg := Lib.hid (((Below.refl W1.heap.size W1).drew).trans (hb.mono ((Below.refl W1.heap.size W1).drew).size))
    clear hb
    refine hK9 _ _ (fun _ => HBg.out) ?_
    clear hK9 K9
    try go_frame
    try simp only [beside, List.filterMap_nil]
    refine wpY_es (fun K9 hK9 => ?_)
    go_simp
    refine (HTC.out _ (HB1.out.trans ((HBg.out).mono HWZ.out))).mono ?_
    rintro e wC ⟨BC, dC, rfl, hr, -, hb⟩
    obtain ⟨DC, hr2, hl2⟩ : ∃ D : Nat → Prop, RowR (repCondT n) D wC BC dC L ∧ (∀ j, D j → ((W1.drew.alloc (.cells #[.string ⟨#[]⟩, .slice none 0 0, .slice none 0 0] 25))).heap.size ≤ j ∧ j < wC.heap.size) := ⟨_, hr, fun j hj => hj⟩
    have NC := Lib.hid (show ∀ j, DC j → j ≠ W1.heap.size from fun j hj e => by have h1 := (hl2 j hj).1; have h2 := HK.out.lt; omega)
    have HK := Lib.hid (HK.out.new_ hb)
    have RC := Lib.hid hr2
    have MC := Lib.hid (show ∀ j, DC j → W1.heap.size ≤ j ∧ j < wC.heap.size from fun j hj => ⟨Nat.le_trans (HBg.out).size (hl2 j hj).1, (hl2 j hj).2⟩)
    have HBCx := Lib.hid ((HBg.out).trans (hb.mono (HBg.out).size))
    clear hr hr2 hl2 hb
    refine hK9 _ _ (HBCx.out) ?_
    clear hK9 K9
    try go_frame
    repeat ((first | (refine wpY_w ?_ (Or.inl ⟨by rfl, fun w9 => ?_⟩) ?_; rotate_left 1; go_simp; with_reducible rfl) | (refine wpY_l ?_ (HBCx.out) (Or.inl ⟨by rfl, fun w9 hw9 => ?_⟩) ?_; rotate_left 1; obtain ⟨hc9, hf9⟩ := bcell hw9; go_simp; with_reducible rfl) | refine wpY_w undef (Or.inr ⟨by rfl, rfl⟩) ?_ | refine wpY_l undef (HBCx.out) (Or.inr ⟨by rfl, rfl⟩) ?_); go_frame)
    refine wpY_es (fun K9 hK9 => ?_)
    refine step_store_el rfl 25 _ _ rfl W1.heap.size 0 #[Value.string p.name, Value.slice BC L.length dC, Value.slice none 0 0] rfl rfl (show _ from HK.out.there) (by kernel_rfl) (by kernel_rfl) ?_
    refine hK9 _ _ (Below.setCells' _ _ (HBCx.out) HGE.out) ?_
    clear hK9 K9
    try go_frame
    refine wpY_nil ?_
    simp only [OnlyN_normal]
    refine hKK _ _ ?_
    clear hKK KK
    go_wp2_with fail
    go_meet
    case rel => exact ⟨W1.heap.size, BC, dC, rfl, HGE.out, HK.out.setAllC rfl, Below.setCells' _ _ (HBCx.out) HGE.out, (RC.out.keep (by rw [size_setCells]; omega) (fun j hj _ => ⟨⟨(MC.out j hj).1, by rw [size_setCells]; exact (MC.out j hj).2, NC.out j hj⟩, blk_setCells _ _ _ _ _ (NC.out j hj)⟩))⟩
 case rest =>
  obtain ⟨g, E1, d1, rfl, hg, hG, hB, t1⟩ := hcut
  obtain ⟨wm, hwm⟩ : ∃ wm, wm = wc := ⟨_, rfl⟩
  rw [← hwm] at hG hB t1 ⊢
  clear hwm
  have HROW := Lib.hid t1
  have HBW := Lib.hid (HB1.out.trans (hB.mono HWZ.out))
  have HXM := Lib.hid (HX1.out.below hB (by have := HZ1.out; omega))
  have HRB := Lib.hid (HR1.out.below hB (by have := HZ1.out; omega))
  have HGM := Lib.hid hG.lt
  have HGG := Lib.hid hg
  have H0A := Lib.hid (show PA g p L M wm E1 d1 0 none 0 wm from ⟨hG, Fr.refl _ _, owns_nilC _ _ _, AIn.none_ _⟩)
  clear hg hG hB t1 p0 p1 p2 hxl1
  go_wp2_with fail
  go_loopw [8] (fun s wr => ∃ (i : Nat) (A : Option Addr) (c : Nat), s = .int .i64 i ∧ i ≤ p.acts.length ∧ PA g p L M wm E1 d1 i A c wr) (fun s wr => p.acts.length - (intOf s).toNat)
  case atStart => exact ⟨0, none, 0, rfl, Nat.zero_le _, H0A.out⟩
  case round =>
   obtain ⟨i, A, c, rfl, hi, hPA⟩ := hrel
   have HPA := Lib.hid hPA
   have HFR := Lib.hid (show Below w.heap.size w wr from HBW.out.trans (hPA.2.1.below HBW.out.size (fun j hj e => by subst e; have := HGG.out; have := HZ1.out; omega)))
   have hXR := HXM.out.fr hPA.2.1 (fun e => by have := HGG.out; have := HZ1.out; omega)
   have p2 : wr.cell? ⟨w.heap.size, 2, none⟩ = some (.slice A2 p.acts.length c2) := (hXR.cell 2).trans rfl
   have xz := hXR.lt
   clear hPA hXR
   by_cases hlt : i < p.acts.length
   · skip
     obtain ⟨y, hy⟩ : ∃ y, y = p.acts[i] := ⟨_, rfl⟩
     obtain ⟨ga, off, hAA, _, hga, _⟩ := at_ActT (H2.out.new_ HFR.out) hlt
     subst hAA
     have HY := Lib.hid hy
     have b1 : (0 : Int) ≤ (i : Int) := by omega
     have b2 : (i : Int) < (p.acts.length : Int) := by omega
     have HRG := Lib.hid (show wr.rangeAt ga (off + i * 19) [.string y.id, .string y.attr.var, .int .i64 y.attr.sym.kind, .string y.attr.sym.text, .int .i64 y.attr.sym.n, .int .i64 y.value.op, .string y.value.a.var, .int .i64 y.value.a.sym.kind, .string y.value.a.sym.text, .int .i64 y.value.a.sym.n, .string y.value.b.var, .int .i64 y.value.b.sym.kind, .string y.value.b.sym.text, .int .i64 y.value.b.sym.n, .int .i64 y.pref, .string y.other.var, .int .i64 y.other.sym.kind, .string y.other.sym.text, .int .i64 y.other.sym.n] from fun j v hv => by
      obtain ⟨g', off', cs, e1, _, _, hr, hc⟩ := (H2.out.new_ HFR.out).at_ hlt
      cases e1
      have hr2 : cs = ActT.cells p.acts[i] := hr
      subst hr2
      rw [← HY.out] at hc
      exact hc j v hv)
     have HTH := Lib.hid (show (wr.alloc (.cells #[.string ⟨#[]⟩, .string ⟨#[]⟩, .int .i64 0, .string ⟨#[]⟩, .int .i64 0, .int .i64 0, .string ⟨#[]⟩, .int .i64 0, .string ⟨#[]⟩, .int .i64 0, .string ⟨#[]⟩, .int .i64 0, .string ⟨#[]⟩, .int .i64 0, .int .i64 0, .string ⟨#[]⟩, .int .i64 0, .string ⟨#[]⟩, .int .i64 0] 99)).there wr.heap.size 0 (#[.string y.id, .string y.attr.var, .int .i64 y.attr.sym.kind, .string y.attr.sym.text, .int .i64 y.attr.sym.n, .int .i64 y.value.op, .string y.value.a.var, .int .i64 y.value.a.sym.kind, .string y.value.a.sym.text, .int .i64 y.value.a.sym.n, .string y.value.b.var, .int .i64 y.value.b.sym.kind, .string y.value.b.sym.text, .int .i64 y.value.b.sym.n, .int .i64 y.pref, .string y.other.var, .int .i64 y.other.sym.kind, .string y.other.sym.text, .int .i64 y.other.sym.n] : Array Value).size from (Blk.new wr 99 #[.string ⟨#[]⟩, .string ⟨#[]⟩, .int .i64 0, .string ⟨#[]⟩, .int .i64 0, .int .i64 0, .string ⟨#[]⟩, .int .i64 0, .string ⟨#[]⟩, .int .i64 0, .string ⟨#[]⟩, .int .i64 0, .string ⟨#[]⟩, .int .i64 0, .int .i64 0, .string ⟨#[]⟩, .int .i64 0, .string ⟨#[]⟩, .int .i64 0]).there)
     obtain ⟨W5, hW5⟩ : ∃ W5, W5 = (wr.alloc (.cells #[.string ⟨#[]⟩, .string ⟨#[]⟩, .int .i64 0, .string ⟨#[]⟩, .int .i64 0, .int .i64 0, .string ⟨#[]⟩, .int .i64 0, .string ⟨#[]⟩, .int .i64 0, .string ⟨#[]⟩, .int .i64 0, .string ⟨#[]⟩, .int .i64 0, .int .i64 0, .string ⟨#[]⟩, .int .i64 0, .string ⟨#[]⟩, .int .i64 0] 99)).setCells wr.heap.size 0 [.string y.id, .string y.attr.var, .int .i64 y.attr.sym.kind, .string y.attr.sym.text, .int .i64 y.attr.sym.n, .int .i64 y.value.op, .string y.value.a.var, .int .i64 y.value.a.sym.kind, .string y.value.a.sym.text, .int .i64 y.value.a.sym.n, .string y.value.b.var, .int .i64 y.value.b.sym.kind, .string y.value.b.sym.text, .int .i64 y.value.b.sym.n, .int .i64 y.pref, .string y.other.var, .int .i64 y.other.sym.kind, .string y.other.sym.text, .int .i64 y.other.sym.n] := ⟨_, rfl⟩
     have HW5 := Lib.hid hW5
     have KB := Lib.hid (show Blk W5 wr.heap.size 99 #[.string y.id, .string y.attr.var, .int .i64 y.attr.sym.kind, .string y.attr.sym.text, .int .i64 y.attr.sym.n, .int .i64 y.value.op, .string y.value.a.var, .int .i64 y.value.a.sym.kind, .string y.value.a.sym.text, .int .i64 y.value.a.sym.n, .string y.value.b.var, .int .i64 y.value.b.sym.kind, .string y.value.b.sym.text, .int .i64 y.value.b.sym.n, .int .i64 y.pref, .string y.other.var, .int .i64 y.other.sym.kind, .string y.other.sym.text, .int .i64 y.other.sym.n] by rw [hW5]; exact (Blk.new wr 99 #[.string ⟨#[]⟩, .string ⟨#[]⟩, .int .i64 0, .string ⟨#[]⟩, .int .i64 0, .int .i64 0, .string ⟨#[]⟩, .int .i64 0, .string ⟨#[]⟩, .int .i64 0, .string ⟨#[]⟩, .int .i64 0, .string ⟨#[]⟩, .int .i64 0, .int .i64 0, .string ⟨#[]⟩, .int .i64 0, .string ⟨#[]⟩, .int .i64 0]).setAllC rfl)
     have HBV := Lib.hid (show Below wr.heap.size wr W5 by rw [hW5]; exact Below.setCells' _ _ ((Below.refl _ _).alloc (Nat.le_refl _) _) (Nat.le_refl _))
     obtain ⟨vi, hvi⟩ : ∃ v, v = oneR t y.id := ⟨_, rfl⟩
     have HVI := Lib.hid hvi
     have HZZ := Lib.hid (show M.take i ++ [(⟨vi, atomR t y.attr, ⟨y.value.op, atomR t y.value.a, atomR t y.value.b⟩, y.pref, atomR t y.other⟩ : ActT)] = M.take (i + 1) by
      obtain ⟨h', e⟩ := HMG.out i hlt
      have e2 : (⟨vi, atomR t y.attr, ⟨y.value.op, atomR t y.value.a, atomR t y.value.b⟩, y.pref, atomR t y.other⟩ : ActT) = M[i] := by rw [e, ← hy, hvi]; rfl
      rw [e2]
      exact take_snoc h')
     have HW0R := Lib.hid (HW0.out.trans (HFR.out.mono HW0.out.size))
     have HON := Lib.hid (show ∀ v W, Below wr.heap.size wr W → _ from fun v W hW => HNN.out v W (HW0R.out.trans (hW.mono HW0R.out.size)))
     have HAT := Lib.hid (show ∀ a W, Below wr.heap.size wr W → _ from fun a W hW => ratomR_is HNN.out a W (HW0R.out.trans (hW.mono HW0R.out.size)))
     clear hy hW5 hvi
     go_upto_region 6 with (first
      | (with_reducible refine wpList_load_mid rfl 99 _ rfl ga (off + i * 19) rfl [.string y.id, .string y.attr.var, .int .i64 y.attr.sym.kind, .string y.attr.sym.text, .int .i64 y.attr.sym.n, .int .i64 y.value.op, .string y.value.a.var, .int .i64 y.value.a.sym.kind, .string y.value.a.sym.text, .int .i64 y.value.a.sym.n, .string y.value.b.var, .int .i64 y.value.b.sym.kind, .string y.value.b.sym.text, .int .i64 y.value.b.sym.n, .int .i64 y.pref, .string y.other.var, .int .i64 y.other.sym.kind, .string y.other.sym.text, .int .i64 y.other.sym.n] _ HRG.out Tryz.underlying99 rfl (by kernel_rfl) ?_)
      | ((with_reducible refine wpList_store_mid rfl 99 _ _ rfl wr.heap.size 0 #[.string y.id, .string y.attr.var, .int .i64 y.attr.sym.kind, .string y.attr.sym.text, .int .i64 y.attr.sym.n, .int .i64 y.value.op, .string y.value.a.var, .int .i64 y.value.a.sym.kind, .string y.value.a.sym.text, .int .i64 y.value.a.sym.n, .string y.value.b.var, .int .i64 y.value.b.sym.kind, .string y.value.b.sym.text, .int .i64 y.value.b.sym.n, .int .i64 y.pref, .string y.other.var, .int .i64 y.other.sym.kind, .string y.other.sym.text, .int .i64 y.other.sym.n] rfl rfl HTH.out (by kernel_rfl) (by kernel_rfl) ?_); rw [← HW5.out]))
     clear HRG HTH HW5 p2 xz
     have e0 : W5.cell? ⟨wr.heap.size, 0, none⟩ = some (.string y.id) := (KB.out.cell 0).trans rfl
     have ez := KB.out.lt
     by_cases hv : y.id.toList = []
     · have va : (y.id.toList == []) = true := by simp [hv]
       have vb : y.id.toList.isEmpty = true := by simp [hv]
       have vc : decide (y.id.toList = []) = true := by simp [hv]
       have hvi : vi = y.id := by rw [HVI.out, oneR, if_pos hv, ← empty_of hv]
       have KB := Lib.hid (show Blk W5 wr.heap.size 99 #[.string vi, .string y.attr.var, .int .i64 y.attr.sym.kind, .string y.attr.sym.text, .int .i64 y.attr.sym.n, .int .i64 y.value.op, .string y.value.a.var, .int .i64 y.value.a.sym.kind, .string y.value.a.sym.text, .int .i64 y.value.a.sym.n, .string y.value.b.var, .int .i64 y.value.b.sym.kind, .string y.value.b.sym.text, .int .i64 y.value.b.sym.n, .int .i64 y.pref, .string y.other.var, .int .i64 y.other.sym.kind, .string y.other.sym.text, .int .i64 y.other.sym.n] by rw [hvi]; exact KB.out)
       clear hv hvi
       go_upto_region 8 with fail
       clear e0 ez va vb vc
       have e1 : W5.cell? ⟨wr.heap.size, 1, none⟩ = some (.string y.attr.var) := (KB.out.cell 1).trans rfl
       have e2 : W5.cell? ⟨wr.heap.size, 2, none⟩ = some (.int .i64 y.attr.sym.kind) := (KB.out.cell 2).trans rfl
       have e3 : W5.cell? ⟨wr.heap.size, 3, none⟩ = some (.string y.attr.sym.text) := (KB.out.cell 3).trans rfl
       have e4 : W5.cell? ⟨wr.heap.size, 4, none⟩ = some (.int .i64 y.attr.sym.n) := (KB.out.cell 4).trans rfl
       have ez := KB.out.lt
       go_wp2_with fail
       refine (HAT.out y.attr W5 (HBV.out)).mono ?_
       rintro e v1 ⟨rfl, hb⟩
       clear ez e1 e2 e3 e4
       have KB := Lib.hid (KB.out.new_ hb)
       have HBV := Lib.hid (HBV.out.trans (hb.mono HBV.out.size))
       obtain ⟨V1, hV1⟩ : ∃ W, W = v1.setCells wr.heap.size 1 [Value.string (oneR t y.attr.var), Value.int IntKind.i64 y.attr.sym.kind, Value.string y.attr.sym.text, Value.int IntKind.i64 y.attr.sym.n] := ⟨_, rfl⟩
       have HTH := Lib.hid (show v1.there wr.heap.size 1 (#[.string (oneR t y.attr.var), .int .i64 y.attr.sym.kind, .string y.attr.sym.text, .int .i64 y.attr.sym.n] : Array Value).size from there_of KB.out (by simp))
       have HV1 := Lib.hid hV1
       have KB := Lib.hid (show Blk V1 wr.heap.size 99 #[.string vi, .string (oneR t y.attr.var), .int .i64 y.attr.sym.kind, .string y.attr.sym.text, .int .i64 y.attr.sym.n, .int .i64 y.value.op, .string y.value.a.var, .int .i64 y.value.a.sym.kind, .string y.value.a.sym.text, .int .i64 y.value.a.sym.n, .string y.value.b.var, .int .i64 y.value.b.sym.kind, .string y.value.b.sym.text, .int .i64 y.value.b.sym.n, .int .i64 y.pref, .string y.other.var, .int .i64 y.other.sym.kind, .string y.other.sym.text, .int .i64 y.other.sym.n] by rw [hV1]; exact ((((KB.out).set_ 1 (.string (oneR t y.attr.var))).set_ 2 (.int .i64 y.attr.sym.kind)).set_ 3 (.string y.attr.sym.text)).set_ 4 (.int .i64 y.attr.sym.n))
       have HBV := Lib.hid (show Below wr.heap.size wr V1 by rw [hV1]; exact Below.setCells' _ _ HBV.out (Nat.le_refl _))
       clear hV1 hb
       go_upto_region 9 with ((with_reducible refine wpList_store_mid rfl 94 _ _ rfl wr.heap.size 1 #[.string (oneR t y.attr.var), .int .i64 y.attr.sym.kind, .string y.attr.sym.text, .int .i64 y.attr.sym.n] rfl rfl HTH.out (by kernel_rfl) (by kernel_rfl) ?_); rw [← HV1.out])
       clear HTH HV1
       have e6 : V1.cell? ⟨wr.heap.size, 6, none⟩ = some (.string y.value.a.var) := (KB.out.cell 6).trans rfl
       have e7 : V1.cell? ⟨wr.heap.size, 7, none⟩ = some (.int .i64 y.value.a.sym.kind) := (KB.out.cell 7).trans rfl
       have e8 : V1.cell? ⟨wr.heap.size, 8, none⟩ = some (.string y.value.a.sym.text) := (KB.out.cell 8).trans rfl
       have e9 : V1.cell? ⟨wr.heap.size, 9, none⟩ = some (.int .i64 y.value.a.sym.n) := (KB.out.cell 9).trans rfl
       have ez := KB.out.lt
       go_wp2_with fail
       refine (HAT.out y.value.a V1 (HBV.out)).mono ?_
       rintro e v2 ⟨rfl, hb⟩
       clear ez e6 e7 e8 e9
       have KB := Lib.hid (KB.out.new_ hb)
       have HBV := Lib.hid (HBV.out.trans (hb.mono HBV.out.size))
       obtain ⟨V2, hV2⟩ : ∃ W, W = v2.setCells wr.heap.size 6 [Value.string (oneR t y.value.a.var), Value.int IntKind.i64 y.value.a.sym.kind, Value.string y.value.a.sym.text, Value.int IntKind.i64 y.value.a.sym.n] := ⟨_, rfl⟩
       have HTH := Lib.hid (show v2.there wr.heap.size 6 (#[.string (oneR t y.value.a.var), .int .i64 y.value.a.sym.kind, .string y.value.a.sym.text, .int .i64 y.value.a.sym.n] : Array Value).size from there_of KB.out (by simp))
       have HV2 := Lib.hid hV2
       have KB := Lib.hid (show Blk V2 wr.heap.size 99 #[.string vi, .string (oneR t y.attr.var), .int .i64 y.attr.sym.kind, .string y.attr.sym.text, .int .i64 y.attr.sym.n, .int .i64 y.value.op, .string (oneR t y.value.a.var), .int .i64 y.value.a.sym.kind, .string y.value.a.sym.text, .int .i64 y.value.a.sym.n, .string y.value.b.var, .int .i64 y.value.b.sym.kind, .string y.value.b.sym.text, .int .i64 y.value.b.sym.n, .int .i64 y.pref, .string y.other.var, .int .i64 y.other.sym.kind, .string y.other.sym.text, .int .i64 y.other.sym.n] by rw [hV2]; exact ((((KB.out).set_ 6 (.string (oneR t y.value.a.var))).set_ 7 (.int .i64 y.value.a.sym.kind)).set_ 8 (.string y.value.a.sym.text)).set_ 9 (.int .i64 y.value.a.sym.n))
       have HBV := Lib.hid (show Below wr.heap.size wr V2 by rw [hV2]; exact Below.setCells' _ _ HBV.out (Nat.le_refl _))
       clear hV2 hb
       go_upto_region 10 with ((with_reducible refine wpList_store_mid rfl 94 _ _ rfl wr.heap.size 6 #[.string (oneR t y.value.a.var), .int .i64 y.value.a.sym.kind, .string y.value.a.sym.text, .int .i64 y.value.a.sym.n] rfl rfl HTH.out (by kernel_rfl) (by kernel_rfl) ?_); rw [← HV2.out])
       clear HTH HV2
       have e10 : V2.cell? ⟨wr.heap.size, 10, none⟩ = some (.string y.value.b.var) := (KB.out.cell 10).trans rfl
       have e11 : V2.cell? ⟨wr.heap.size, 11, none⟩ = some (.int .i64 y.value.b.sym.kind) := (KB.out.cell 11).trans rfl
       have e12 : V2.cell? ⟨wr.heap.size, 12, none⟩ = some (.string y.value.b.sym.text) := (KB.out.cell 12).trans rfl
       have e13 : V2.cell? ⟨wr.heap.size, 13, none⟩ = some (.int .i64 y.value.b.sym.n) := (KB.out.cell 13).trans rfl
       have ez := KB.out.lt
       go_wp2_with fail
       refine (HAT.out y.value.b V2 (HBV.out)).mono ?_
       rintro e v3 ⟨rfl, hb⟩
       clear ez e10 e11 e12 e13
       have KB := Lib.hid (KB.out.new_ hb)
       have HBV := Lib.hid (HBV.out.trans (hb.mono HBV.out.size))
       obtain ⟨V3, hV3⟩ : ∃ W, W = v3.setCells wr.heap.size 10 [Value.string (oneR t y.value.b.var), Value.int IntKind.i64 y.value.b.sym.kind, Value.string y.value.b.sym.text, Value.int IntKind.i64 y.value.b.sym.n] := ⟨_, rfl⟩
       have HTH := Lib.hid (show v3.there wr.heap.size 10 (#[.string (oneR t y.value.b.var), .int .i64 y.value.b.sym.kind, .string y.value.b.sym.text, .int .i64 y.value.b.sym.n] : Array Value).size from there_of KB.out (by simp))
       have HV3 := Lib.hid hV3
       have KB := Lib.hid (show Blk V3 wr.heap.size 99 #[.string vi, .string (oneR t y.attr.var), .int .i64 y.attr.sym.kind, .string y.attr.sym.text, .int .i64 y.attr.sym.n, .int .i64 y.value.op, .string (oneR t y.value.a.var), .int .i64 y.value.a.sym.kind, .string y.value.a.sym.text, .int .i64 y.value.a.sym.n, .string (oneR t y.value.b.var), .int .i64 y.value.b.sym.kind, .string y.value.b.sym.text, .int .i64 y.value.b.sym.n, .int .i64 y.pref, .string y.other.var, .int .i64 y.other.sym.kind, .string y.other.sym.text, .int .i64 y.other.sym.n] by rw [hV3]; exact ((((KB.out).set_ 10 (.string (oneR t y.value.b.var))).set_ 11 (.int .i64 y.value.b.sym.kind)).set_ 12 (.string y.value.b.sym.text)).set_ 13 (.int .i64 y.value.b.sym.n))
       have HBV := Lib.hid (show Below wr.heap.size wr V3 by rw [hV3]; exact Below.setCells' _ _ HBV.out (Nat.le_refl _))
       clear hV3 hb
       go_upto_region 11 with ((with_reducible refine wpList_store_mid rfl 94 _ _ rfl wr.heap.size 10 #[.string (oneR t y.value.b.var), .int .i64 y.value.b.sym.kind, .string y.value.b.sym.text, .int .i64 y.value.b.sym.n] rfl rfl HTH.out (by kernel_rfl) (by kernel_rfl) ?_); rw [← HV3.out])
       clear HTH HV3
       have e15 : V3.cell? ⟨wr.heap.size, 15, none⟩ = some (.string y.other.var) := (KB.out.cell 15).trans rfl
       have e16 : V3.cell? ⟨wr.heap.size, 16, none⟩ = some (.int .i64 y.other.sym.kind) := (KB.out.cell 16).trans rfl
       have e17 : V3.cell? ⟨wr.heap.size, 17, none⟩ = some (.string y.other.sym.text) := (KB.out.cell 17).trans rfl
       have e18 : V3.cell? ⟨wr.heap.size, 18, none⟩ = some (.int .i64 y.other.sym.n) := (KB.out.cell 18).trans rfl
       have ez := KB.out.lt
       go_wp2_with fail
       refine (HAT.out y.other V3 (HBV.out)).mono ?_
       rintro e v4 ⟨rfl, hb⟩
       clear ez e15 e16 e17 e18
       have KB := Lib.hid (KB.out.new_ hb)
       have HBV := Lib.hid (HBV.out.trans (hb.mono HBV.out.size))
       obtain ⟨V4, hV4⟩ : ∃ W, W = v4.setCells wr.heap.size 15 [Value.string (oneR t y.other.var), Value.int IntKind.i64 y.other.sym.kind, Value.string y.other.sym.text, Value.int IntKind.i64 y.other.sym.n] := ⟨_, rfl⟩
       have HTH := Lib.hid (show v4.there wr.heap.size 15 (#[.string (oneR t y.other.var), .int .i64 y.other.sym.kind, .string y.other.sym.text, .int .i64 y.other.sym.n] : Array Value).size from there_of KB.out (by simp))
       have HV4 := Lib.hid hV4
       have KB := Lib.hid (show Blk V4 wr.heap.size 99 #[.string vi, .string (oneR t y.attr.var), .int .i64 y.attr.sym.kind, .string y.attr.sym.text, .int .i64 y.attr.sym.n, .int .i64 y.value.op, .string (oneR t y.value.a.var), .int .i64 y.value.a.sym.kind, .string y.value.a.sym.text, .int .i64 y.value.a.sym.n, .string (oneR t y.value.b.var), .int .i64 y.value.b.sym.kind, .string y.value.b.sym.text, .int .i64 y.value.b.sym.n, .int .i64 y.pref, .string (oneR t y.other.var), .int .i64 y.other.sym.kind, .string y.other.sym.text, .int .i64 y.other.sym.n] by rw [hV4]; exact ((((KB.out).set_ 15 (.string (oneR t y.other.var))).set_ 16 (.int .i64 y.other.sym.kind)).set_ 17 (.string y.other.sym.text)).set_ 18 (.int .i64 y.other.sym.n))
       have HBV := Lib.hid (show Below wr.heap.size wr V4 by rw [hV4]; exact Below.setCells' _ _ HBV.out (Nat.le_refl _))
       clear hV4 hb
       go_upto_region 12 with ((with_reducible refine wpList_store_mid rfl 94 _ _ rfl wr.heap.size 15 #[.string (oneR t y.other.var), .int .i64 y.other.sym.kind, .string y.other.sym.text, .int .i64 y.other.sym.n] rfl rfl HTH.out (by kernel_rfl) (by kernel_rfl) ?_); rw [← HV4.out])
       clear HTH HV4
       have HRG9 := Lib.hid (show V4.rangeAt wr.heap.size 0 [Value.string vi, Value.string (oneR t y.attr.var), Value.int IntKind.i64 y.attr.sym.kind, Value.string y.attr.sym.text, Value.int IntKind.i64 y.attr.sym.n, Value.int IntKind.i64 y.value.op, Value.string (oneR t y.value.a.var), Value.int IntKind.i64 y.value.a.sym.kind, Value.string y.value.a.sym.text, Value.int IntKind.i64 y.value.a.sym.n, Value.string (oneR t y.value.b.var), Value.int IntKind.i64 y.value.b.sym.kind, Value.string y.value.b.sym.text, Value.int IntKind.i64 y.value.b.sym.n, Value.int IntKind.i64 y.pref, Value.string (oneR t y.other.var), Value.int IntKind.i64 y.other.sym.kind, Value.string y.other.sym.text, Value.int IntKind.i64 y.other.sym.n] from KB.out.range)
       have HGV := Lib.hid (HPA.out.1.new_ HBV.out)
       have g2 : V4.cell? ⟨g, 2, none⟩ = some (.slice A i c) := (HGV.out.cell 2).trans rfl
       have gz := HGV.out.lt
       have HX := Lib.hid (show Below V4.heap.size V4 (V4.alloc (.cells #[.string vi, .string (oneR t y.attr.var), .int .i64 y.attr.sym.kind, .string y.attr.sym.text, .int .i64 y.attr.sym.n, .int .i64 y.value.op, .string (oneR t y.value.a.var), .int .i64 y.value.a.sym.kind, .string y.value.a.sym.text, .int .i64 y.value.a.sym.n, .string (oneR t y.value.b.var), .int .i64 y.value.b.sym.kind, .string y.value.b.sym.text, .int .i64 y.value.b.sym.n, .int .i64 y.pref, .string (oneR t y.other.var), .int .i64 y.other.sym.kind, .string y.other.sym.text, .int .i64 y.other.sym.n] 99)) from (Below.refl _ _).alloc (Nat.le_refl _) _)
       have HBX := Lib.hid (HBV.out.trans (HX.out.mono HBV.out.size))
       have HOX := Lib.hid (ownsRow_new (ownsRow_new HPA.out.2.2.1 HBV.out) HX.out)
       have HNX := Lib.hid (show ∀ (j : Nat) (u : Value), (([.string vi, .string (oneR t y.attr.var), .int .i64 y.attr.sym.kind, .string y.attr.sym.text, .int .i64 y.attr.sym.n, .int .i64 y.value.op, .string (oneR t y.value.a.var), .int .i64 y.value.a.sym.kind, .string y.value.a.sym.text, .int .i64 y.value.a.sym.n, .string (oneR t y.value.b.var), .int .i64 y.value.b.sym.kind, .string y.value.b.sym.text, .int .i64 y.value.b.sym.n, .int .i64 y.pref, .string (oneR t y.other.var), .int .i64 y.other.sym.kind, .string y.other.sym.text, .int .i64 y.other.sym.n] : List Value))[j]? = some u → ((V4.alloc (.cells #[.string vi, .string (oneR t y.attr.var), .int .i64 y.attr.sym.kind, .string y.attr.sym.text, .int .i64 y.attr.sym.n, .int .i64 y.value.op, .string (oneR t y.value.a.var), .int .i64 y.value.a.sym.kind, .string y.value.a.sym.text, .int .i64 y.value.a.sym.n, .string (oneR t y.value.b.var), .int .i64 y.value.b.sym.kind, .string y.value.b.sym.text, .int .i64 y.value.b.sym.n, .int .i64 y.pref, .string (oneR t y.other.var), .int .i64 y.other.sym.kind, .string y.other.sym.text, .int .i64 y.other.sym.n] 99))).cell? ((⟨V4.heap.size, 0, none⟩ : Addr).add j) = some u from World.news_of_block (heap_alloc_new _ _))
       have HGX := Lib.hid (HGV.out.new_ HX.out)
       have hile : i ≤ 1000 := by omega
       go_wp2_with (first
        | (with_reducible refine wpList_load_mid rfl 99 _ rfl wr.heap.size 0 rfl [Value.string vi, Value.string (oneR t y.attr.var), Value.int IntKind.i64 y.attr.sym.kind, Value.string y.attr.sym.text, Value.int IntKind.i64 y.attr.sym.n, Value.int IntKind.i64 y.value.op, Value.string (oneR t y.value.a.var), Value.int IntKind.i64 y.value.a.sym.kind, Value.string y.value.a.sym.text, Value.int IntKind.i64 y.value.a.sym.n, Value.string (oneR t y.value.b.var), Value.int IntKind.i64 y.value.b.sym.kind, Value.string y.value.b.sym.text, Value.int IntKind.i64 y.value.b.sym.n, Value.int IntKind.i64 y.pref, Value.string (oneR t y.other.var), Value.int IntKind.i64 y.other.sym.kind, Value.string y.other.sym.text, Value.int IntKind.i64 y.other.sym.n] _ HRG9.out Tryz.underlying99 rfl (by kernel_rfl) ?_)
        | (at_builtin; refine wpList_append_src (V4.alloc (.cells #[.string vi, .string (oneR t y.attr.var), .int .i64 y.attr.sym.kind, .string y.attr.sym.text, .int .i64 y.attr.sym.n, .int .i64 y.value.op, .string (oneR t y.value.a.var), .int .i64 y.value.a.sym.kind, .string y.value.a.sym.text, .int .i64 y.value.a.sym.n, .string (oneR t y.value.b.var), .int .i64 y.value.b.sym.kind, .string y.value.b.sym.text, .int .i64 y.value.b.sym.n, .int .i64 y.pref, .string (oneR t y.other.var), .int .i64 y.other.sym.kind, .string y.other.sym.text, .int .i64 y.other.sym.n] 99)) rfl (.tmp 68) (.tmp 70) 23 rfl 99 i0 _ 19 224 Tryz.underlying23 hi0 hz0 hz1 hz2 rfl (by omega) (.slice A i c) i ((M.take i).flatMap ActT.cells) rfl HOX.out (some ⟨V4.heap.size, 0, none⟩) 1 1 [.string vi, .string (oneR t y.attr.var), .int .i64 y.attr.sym.kind, .string y.attr.sym.text, .int .i64 y.attr.sym.n, .int .i64 y.value.op, .string (oneR t y.value.a.var), .int .i64 y.value.a.sym.kind, .string y.value.a.sym.text, .int .i64 y.value.a.sym.n, .string (oneR t y.value.b.var), .int .i64 y.value.b.sym.kind, .string y.value.b.sym.text, .int .i64 y.value.b.sym.n, .int .i64 y.pref, .string (oneR t y.other.var), .int .i64 y.other.sym.kind, .string y.other.sym.text, .int .i64 y.other.sym.n] rfl rfl (fun _ => ⟨_, rfl, HNX.out⟩) (by intro u hu; simp only [List.mem_cons, List.not_mem_nil, or_false] at hu; rcases hu with rfl | rfl | rfl | rfl | rfl | rfl | rfl | rfl | rfl | rfl | rfl | rfl | rfl | rfl | rfl | rfl | rfl | rfl | rfl <;> rfl) (by unfold maxLen; omega) (by omega) ?_; intro v1 w9 hown1 hg1 hnil1 hat1; obtain ⟨A', c', rfl, _⟩ := own_form2 hown1; have hne1 := own_blk_ne HOX.out HGX.out (by decide); have hgb := HGX.out.grown hg1 hne1; have u2 := (hgb.cell 2).trans rfl; have f2 := hgb.frozen 2; have uz := hgb.lt; have HOWN := Lib.hid hown1; have HG1 := Lib.hid hg1; have HAT1 := Lib.hid hat1; clear hown1 hg1 hnil1 hat1 hne1 hgb))
       go_roundw
       case rel => exact ⟨i + 1, A', c', by go_num, by omega, HPA.out.step HGM.out HBX.out HZZ.out (by have h := HOWN.out; exact h) HG1.out HAT1.out⟩
       case measure => simp [intOf]; omega
     · have va : (y.id.toList == []) = false := by simp [hv]
       have vb : y.id.toList.isEmpty = false := by simp [hv]
       have vc : decide (y.id.toList = []) = false := by simp [hv]
       have hvi : t y.id = vi := by rw [HVI.out, oneR, if_neg hv]
       clear hv
       go_wp2_with fail
       refine (HON.out y.id W5 HBV.out).mono ?_
       rintro e v0 ⟨rfl, hb⟩
       rw [hvi]
       have KB := Lib.hid (KB.out.new_ hb)
       have HBV := Lib.hid (HBV.out.trans (hb.mono HBV.out.size))
       obtain ⟨V0, hV0⟩ : ∃ W, W = v0.setCell ⟨wr.heap.size, 0, none⟩ (.string vi) := ⟨_, rfl⟩
       have u0 : v0.cell? ⟨wr.heap.size, 0, none⟩ = some (.string y.id) := (KB.out.cell 0).trans rfl
       have uf := KB.out.frozen 0
       have uz := KB.out.lt
       have KB := Lib.hid (show Blk V0 wr.heap.size 99 #[.string vi, .string y.attr.var, .int .i64 y.attr.sym.kind, .string y.attr.sym.text, .int .i64 y.attr.sym.n, .int .i64 y.value.op, .string y.value.a.var, .int .i64 y.value.a.sym.kind, .string y.value.a.sym.text, .int .i64 y.value.a.sym.n, .string y.value.b.var, .int .i64 y.value.b.sym.kind, .string y.value.b.sym.text, .int .i64 y.value.b.sym.n, .int .i64 y.pref, .string y.other.var, .int .i64 y.other.sym.kind, .string y.other.sym.text, .int .i64 y.other.sym.n] by rw [hV0]; exact KB.out.set_ 0 _)
       have HBV := Lib.hid (show Below wr.heap.size wr V0 by rw [hV0]; exact HBV.out.setCell (Nat.le_refl _) _)
       clear hb hvi e0 ez va vb vc
       go_upto_region 8 with fail
       rw [← hV0]
       clear u0 uf uz hV0
       have e1 : V0.cell? ⟨wr.heap.size, 1, none⟩ = some (.string y.attr.var) := (KB.out.cell 1).trans rfl
       have e2 : V0.cell? ⟨wr.heap.size, 2, none⟩ = some (.int .i64 y.attr.sym.kind) := (KB.out.cell 2).trans rfl
       have e3 : V0.cell? ⟨wr.heap.size, 3, none⟩ = some (.string y.attr.sym.text) := (KB.out.cell 3).trans rfl
       have e4 : V0.cell? ⟨wr.heap.size, 4, none⟩ = some (.int .i64 y.attr.sym.n) := (KB.out.cell 4).trans rfl
       have ez := KB.out.lt
       go_wp2_with fail
       refine (HAT.out y.attr V0 (HBV.out)).mono ?_
       rintro e v1 ⟨rfl, hb⟩
       clear ez e1 e2 e3 e4
       have KB := Lib.hid (KB.out.new_ hb)
       have HBV := Lib.hid (HBV.out.trans (hb.mono HBV.out.size))
       obtain ⟨V1, hV1⟩ : ∃ W, W = v1.setCells wr.heap.size 1 [Value.string (oneR t y.attr.var), Value.int IntKind.i64 y.attr.sym.kind, Value.string y.attr.sym.text, Value.int IntKind.i64 y.attr.sym.n] := ⟨_, rfl⟩
       have HTH := Lib.hid (show v1.there wr.heap.size 1 (#[.string (oneR t y.attr.var), .int .i64 y.attr.sym.kind, .string y.attr.sym.text, .int .i64 y.attr.sym.n] : Array Value).size from there_of KB.out (by simp))
       have HV1 := Lib.hid hV1
       have KB := Lib.hid (show Blk V1 wr.heap.size 99 #[.string vi, .string (oneR t y.attr.var), .int .i64 y.attr.sym.kind, .string y.attr.sym.text, .int .i64 y.attr.sym.n, .int .i64 y.value.op, .string y.value.a.var, .int .i64 y.value.a.sym.kind, .string y.value.a.sym.text, .int .i64 y.value.a.sym.n, .string y.value.b.var, .int .i64 y.value.b.sym.kind, .string y.value.b.sym.text, .int .i64 y.value.b.sym.n, .int .i64 y.pref, .string y.other.var, .int .i64 y.other.sym.kind, .string y.other.sym.text, .int .i64 y.other.sym.n] by rw [hV1]; exact ((((KB.out).set_ 1 (.string (oneR t y.attr.var))).set_ 2 (.int .i64 y.attr.sym.kind)).set_ 3 (.string y.attr.sym.text)).set_ 4 (.int .i64 y.attr.sym.n))
       have HBV := Lib.hid (show Below wr.heap.size wr V1 by rw [hV1]; exact Below.setCells' _ _ HBV.out (Nat.le_refl _))
       clear hV1 hb
       go_upto_region 9 with ((with_reducible refine wpList_store_mid rfl 94 _ _ rfl wr.heap.size 1 #[.string (oneR t y.attr.var), .int .i64 y.attr.sym.kind, .string y.attr.sym.text, .int .i64 y.attr.sym.n] rfl rfl HTH.out (by kernel_rfl) (by kernel_rfl) ?_); rw [← HV1.out])
       clear HTH HV1
       have e6 : V1.cell? ⟨wr.heap.size, 6, none⟩ = some (.string y.value.a.var) := (KB.out.cell 6).trans rfl
       have e7 : V1.cell? ⟨wr.heap.size, 7, none⟩ = some (.int .i64 y.value.a.sym.kind) := (KB.out.cell 7).trans rfl
       have e8 : V1.cell? ⟨wr.heap.size, 8, none⟩ = some (.string y.value.a.sym.text) := (KB.out.cell 8).trans rfl
       have e9 : V1.cell? ⟨wr.heap.size, 9, none⟩ = some (.int .i64 y.value.a.sym.n) := (KB.out.cell 9).trans rfl
       have ez := KB.out.lt
       go_wp2_with fail
       refine (HAT.out y.value.a V1 (HBV.out)).mono ?_
       rintro e v2 ⟨rfl, hb⟩
       clear ez e6 e7 e8 e9
       have KB := Lib.hid (KB.out.new_ hb)
       have HBV := Lib.hid (HBV.out.trans (hb.mono HBV.out.size))
       obtain ⟨V2, hV2⟩ : ∃ W, W = v2.setCells wr.heap.size 6 [Value.string (oneR t y.value.a.var), Value.int IntKind.i64 y.value.a.sym.kind, Value.string y.value.a.sym.text, Value.int IntKind.i64 y.value.a.sym.n] := ⟨_, rfl⟩
       have HTH := Lib.hid (show v2.there wr.heap.size 6 (#[.string (oneR t y.value.a.var), .int .i64 y.value.a.sym.kind, .string y.value.a.sym.text, .int .i64 y.value.a.sym.n] : Array Value).size from there_of KB.out (by simp))
       have HV2 := Lib.hid hV2
       have KB := Lib.hid (show Blk V2 wr.heap.size 99 #[.string vi, .string (oneR t y.attr.var), .int .i64 y.attr.sym.kind, .string y.attr.sym.text, .int .i64 y.attr.sym.n, .int .i64 y.value.op, .string (oneR t y.value.a.var), .int .i64 y.value.a.sym.kind, .string y.value.a.sym.text, .int .i64 y.value.a.sym.n, .string y.value.b.var, .int .i64 y.value.b.sym.kind, .string y.value.b.sym.text, .int .i64 y.value.b.sym.n, .int .i64 y.pref, .string y.other.var, .int .i64 y.other.sym.kind, .string y.other.sym.text, .int .i64 y.other.sym.n] by rw [hV2]; exact ((((KB.out).set_ 6 (.string (oneR t y.value.a.var))).set_ 7 (.int .i64 y.value.a.sym.kind)).set_ 8 (.string y.value.a.sym.text)).set_ 9 (.int .i64 y.value.a.sym.n))
       have HBV := Lib.hid (show Below wr.heap.size wr V2 by rw [hV2]; exact Below.setCells' _ _ HBV.out (Nat.le_refl _))
       clear hV2 hb
       go_upto_region 10 with ((with_reducible refine wpList_store_mid rfl 94 _ _ rfl wr.heap.size 6 #[.string (oneR t y.value.a.var), .int .i64 y.value.a.sym.kind, .string y.value.a.sym.text, .int .i64 y.value.a.sym.n] rfl rfl HTH.out (by kernel_rfl) (by kernel_rfl) ?_); rw [← HV2.out])
       clear HTH HV2
       have e10 : V2.cell? ⟨wr.heap.size, 10, none⟩ = some (.string y.value.b.var) := (KB.out.cell 10).trans rfl
       have e11 : V2.cell? ⟨wr.heap.size, 11, none⟩ = some (.int .i64 y.value.b.sym.kind) := (KB.out.cell 11).trans rfl
       have e12 : V2.cell? ⟨wr.heap.size, 12, none⟩ = some (.string y.value.b.sym.text) := (KB.out.cell 12).trans rfl
       have e13 : V2.cell? ⟨wr.heap.size, 13, none⟩ = some (.int .i64 y.value.b.sym.n) := (KB.out.cell 13).trans rfl
       have ez := KB.out.lt
       go_wp2_with fail
       refine (HAT.out y.value.b V2 (HBV.out)).mono ?_
       rintro e v3 ⟨rfl, hb⟩
       clear ez e10 e11 e12 e13
       have KB := Lib.hid (KB.out.new_ hb)
       have HBV := Lib.hid (HBV.out.trans (hb.mono HBV.out.size))
       obtain ⟨V3, hV3⟩ : ∃ W, W = v3.setCells wr.heap.size 10 [Value.string (oneR t y.value.b.var), Value.int IntKind.i64 y.value.b.sym.kind, Value.string y.value.b.sym.text, Value.int IntKind.i64 y.value.b.sym.n] := ⟨_, rfl⟩
       have HTH := Lib.hid (show v3.there wr.heap.size 10 (#[.string (oneR t y.value.b.var), .int .i64 y.value.b.sym.kind, .string y.value.b.sym.text, .int .i64 y.value.b.sym.n] : Array Value).size from there_of KB.out (by simp))
       have HV3 := Lib.hid hV3
       have KB := Lib.hid (show Blk V3 wr.heap.size 99 #[.string vi, .string (oneR t y.attr.var), .int .i64 y.attr.sym.kind, .string y.attr.sym.text, .int .i64 y.attr.sym.n, .int .i64 y.value.op, .string (oneR t y.value.a.var), .int .i64 y.value.a.sym.kind, .string y.value.a.sym.text, .int .i64 y.value.a.sym.n, .string (oneR t y.value.b.var), .int .i64 y.value.b.sym.kind, .string y.value.b.sym.text, .int .i64 y.value.b.sym.n, .int .i64 y.pref, .string y.other.var, .int .i64 y.other.sym.kind, .string y.other.sym.text, .int .i64 y.other.sym.n] by rw [hV3]; exact ((((KB.out).set_ 10 (.string (oneR t y.value.b.var))).set_ 11 (.int .i64 y.value.b.sym.kind)).set_ 12 (.string y.value.b.sym.text)).set_ 13 (.int .i64 y.value.b.sym.n))
       have HBV := Lib.hid (show Below wr.heap.size wr V3 by rw [hV3]; exact Below.setCells' _ _ HBV.out (Nat.le_refl _))
       clear hV3 hb
       go_upto_region 11 with ((with_reducible refine wpList_store_mid rfl 94 _ _ rfl wr.heap.size 10 #[.string (oneR t y.value.b.var), .int .i64 y.value.b.sym.kind, .string y.value.b.sym.text, .int .i64 y.value.b.sym.n] rfl rfl HTH.out (by kernel_rfl) (by kernel_rfl) ?_); rw [← HV3.out])
       clear HTH HV3
       have e15 : V3.cell? ⟨wr.heap.size, 15, none⟩ = some (.string y.other.var) := (KB.out.cell 15).trans rfl
       have e16 : V3.cell? ⟨wr.heap.size, 16, none⟩ = some (.int .i64 y.other.sym.kind) := (KB.out.cell 16).trans rfl
       have e17 : V3.cell? ⟨wr.heap.size, 17, none⟩ = some (.string y.other.sym.text) := (KB.out.cell 17).trans rfl
       have e18 : V3.cell? ⟨wr.heap.size, 18, none⟩ = some (.int .i64 y.other.sym.n) := (KB.out.cell 18).trans rfl
       have ez := KB.out.lt
       go_wp2_with fail
       refine (HAT.out y.other V3 (HBV.out)).mono ?_
       rintro e v4 ⟨rfl, hb⟩
       clear ez e15 e16 e17 e18
       have KB := Lib.hid (KB.out.new_ hb)
       have HBV := Lib.hid (HBV.out.trans (hb.mono HBV.out.size))
       obtain ⟨V4, hV4⟩ : ∃ W, W = v4.setCells wr.heap.size 15 [Value.string (oneR t y.other.var), Value.int IntKind.i64 y.other.sym.kind, Value.string y.other.sym.text, Value.int IntKind.i64 y.other.sym.n] := ⟨_, rfl⟩
       have HTH := Lib.hid (show v4.there wr.heap.size 15 (#[.string (oneR t y.other.var), .int .i64 y.other.sym.kind, .string y.other.sym.text, .int .i64 y.other.sym.n] : Array Value).size from there_of KB.out (by simp))
       have HV4 := Lib.hid hV4
       have KB := Lib.hid (show Blk V4 wr.heap.size 99 #[.string vi, .string (oneR t y.attr.var), .int .i64 y.attr.sym.kind, .string y.attr.sym.text, .int .i64 y.attr.sym.n, .int .i64 y.value.op, .string (oneR t y.value.a.var), .int .i64 y.value.a.sym.kind, .string y.value.a.sym.text, .int .i64 y.value.a.sym.n, .string (oneR t y.value.b.var), .int .i64 y.value.b.sym.kind, .string y.value.b.sym.text, .int .i64 y.value.b.sym.n, .int .i64 y.pref, .string (oneR t y.other.var), .int .i64 y.other.sym.kind, .string y.other.sym.text, .int .i64 y.other.sym.n] by rw [hV4]; exact ((((KB.out).set_ 15 (.string (oneR t y.other.var))).set_ 16 (.int .i64 y.other.sym.kind)).set_ 17 (.string y.other.sym.text)).set_ 18 (.int .i64 y.other.sym.n))
       have HBV := Lib.hid (show Below wr.heap.size wr V4 by rw [hV4]; exact Below.setCells' _ _ HBV.out (Nat.le_refl _))
       clear hV4 hb
       go_upto_region 12 with ((with_reducible refine wpList_store_mid rfl 94 _ _ rfl wr.heap.size 15 #[.string (oneR t y.other.var), .int .i64 y.other.sym.kind, .string y.other.sym.text, .int .i64 y.other.sym.n] rfl rfl HTH.out (by kernel_rfl) (by kernel_rfl) ?_); rw [← HV4.out])
       clear HTH HV4
       have HRG9 := Lib.hid (show V4.rangeAt wr.heap.size 0 [Value.string vi, Value.string (oneR t y.attr.var), Value.int IntKind.i64 y.attr.sym.kind, Value.string y.attr.sym.text, Value.int IntKind.i64 y.attr.sym.n, Value.int IntKind.i64 y.value.op, Value.string (oneR t y.value.a.var), Value.int IntKind.i64 y.value.a.sym.kind, Value.string y.value.a.sym.text, Value.int IntKind.i64 y.value.a.sym.n, Value.string (oneR t y.value.b.var), Value.int IntKind.i64 y.value.b.sym.kind, Value.string y.value.b.sym.text, Value.int IntKind.i64 y.value.b.sym.n, Value.int IntKind.i64 y.pref, Value.string (oneR t y.other.var), Value.int IntKind.i64 y.other.sym.kind, Value.string y.other.sym.text, Value.int IntKind.i64 y.other.sym.n] from KB.out.range)
       have HGV := Lib.hid (HPA.out.1.new_ HBV.out)
       have g2 : V4.cell? ⟨g, 2, none⟩ = some (.slice A i c) := (HGV.out.cell 2).trans rfl
       have gz := HGV.out.lt
       have HX := Lib.hid (show Below V4.heap.size V4 (V4.alloc (.cells #[.string vi, .string (oneR t y.attr.var), .int .i64 y.attr.sym.kind, .string y.attr.sym.text, .int .i64 y.attr.sym.n, .int .i64 y.value.op, .string (oneR t y.value.a.var), .int .i64 y.value.a.sym.kind, .string y.value.a.sym.text, .int .i64 y.value.a.sym.n, .string (oneR t y.value.b.var), .int .i64 y.value.b.sym.kind, .string y.value.b.sym.text, .int .i64 y.value.b.sym.n, .int .i64 y.pref, .string (oneR t y.other.var), .int .i64 y.other.sym.kind, .string y.other.sym.text, .int .i64 y.other.sym.n] 99)) from (Below.refl _ _).alloc (Nat.le_refl _) _)
       have HBX := Lib.hid (HBV.out.trans (HX.out.mono HBV.out.size))
       have HOX := Lib.hid (ownsRow_new (ownsRow_new HPA.out.2.2.1 HBV.out) HX.out)
       have HNX := Lib.hid (show ∀ (j : Nat) (u : Value), (([.string vi, .string (oneR t y.attr.var), .int .i64 y.attr.sym.kind, .string y.attr.sym.text, .int .i64 y.attr.sym.n, .int .i64 y.value.op, .string (oneR t y.value.a.var), .int .i64 y.value.a.sym.kind, .string y.value.a.sym.text, .int .i64 y.value.a.sym.n, .string (oneR t y.value.b.var), .int .i64 y.value.b.sym.kind, .string y.value.b.sym.text, .int .i64 y.value.b.sym.n, .int .i64 y.pref, .string (oneR t y.other.var), .int .i64 y.other.sym.kind, .string y.other.sym.text, .int .i64 y.other.sym.n] : List Value))[j]? = some u → ((V4.alloc (.cells #[.string vi, .string (oneR t y.attr.var), .int .i64 y.attr.sym.kind, .string y.attr.sym.text, .int .i64 y.attr.sym.n, .int .i64 y.value.op, .string (oneR t y.value.a.var), .int .i64 y.value.a.sym.kind, .string y.value.a.sym.text, .int .i64 y.value.a.sym.n, .string (oneR t y.value.b.var), .int .i64 y.value.b.sym.kind, .string y.value.b.sym.text, .int .i64 y.value.b.sym.n, .int .i64 y.pref, .string (oneR t y.other.var), .int .i64 y.other.sym.kind, .string y.other.sym.text, .int .i64 y.other.sym.n] 99))).cell? ((⟨V4.heap.size, 0, none⟩ : Addr).add j) = some u from World.news_of_block (heap_alloc_new _ _))
       have HGX := Lib.hid (HGV.out.new_ HX.out)
       have hile : i ≤ 1000 := by omega
       go_wp2_with (first
        | (with_reducible refine wpList_load_mid rfl 99 _ rfl wr.heap.size 0 rfl [Value.string vi, Value.string (oneR t y.attr.var), Value.int IntKind.i64 y.attr.sym.kind, Value.string y.attr.sym.text, Value.int IntKind.i64 y.attr.sym.n, Value.int IntKind.i64 y.value.op, Value.string (oneR t y.value.a.var), Value.int IntKind.i64 y.value.a.sym.kind, Value.string y.value.a.sym.text, Value.int IntKind.i64 y.value.a.sym.n, Value.string (oneR t y.value.b.var), Value.int IntKind.i64 y.value.b.sym.kind, Value.string y.value.b.sym.text, Value.int IntKind.i64 y.value.b.sym.n, Value.int IntKind.i64 y.pref, Value.string (oneR t y.other.var), Value.int IntKind.i64 y.other.sym.kind, Value.string y.other.sym.text, Value.int IntKind.i64 y.other.sym.n] _ HRG9.out Tryz.underlying99 rfl (by kernel_rfl) ?_)
        | (at_builtin; refine wpList_append_src (V4.alloc (.cells #[.string vi, .string (oneR t y.attr.var), .int .i64 y.attr.sym.kind, .string y.attr.sym.text, .int .i64 y.attr.sym.n, .int .i64 y.value.op, .string (oneR t y.value.a.var), .int .i64 y.value.a.sym.kind, .string y.value.a.sym.text, .int .i64 y.value.a.sym.n, .string (oneR t y.value.b.var), .int .i64 y.value.b.sym.kind, .string y.value.b.sym.text, .int .i64 y.value.b.sym.n, .int .i64 y.pref, .string (oneR t y.other.var), .int .i64 y.other.sym.kind, .string y.other.sym.text, .int .i64 y.other.sym.n] 99)) rfl (.tmp 68) (.tmp 70) 23 rfl 99 i0 _ 19 224 Tryz.underlying23 hi0 hz0 hz1 hz2 rfl (by omega) (.slice A i c) i ((M.take i).flatMap ActT.cells) rfl HOX.out (some ⟨V4.heap.size, 0, none⟩) 1 1 [.string vi, .string (oneR t y.attr.var), .int .i64 y.attr.sym.kind, .string y.attr.sym.text, .int .i64 y.attr.sym.n, .int .i64 y.value.op, .string (oneR t y.value.a.var), .int .i64 y.value.a.sym.kind, .string y.value.a.sym.text, .int .i64 y.value.a.sym.n, .string (oneR t y.value.b.var), .int .i64 y.value.b.sym.kind, .string y.value.b.sym.text, .int .i64 y.value.b.sym.n, .int .i64 y.pref, .string (oneR t y.other.var), .int .i64 y.other.sym.kind, .string y.other.sym.text, .int .i64 y.other.sym.n] rfl rfl (fun _ => ⟨_, rfl, HNX.out⟩) (by intro u hu; simp only [List.mem_cons, List.not_mem_nil, or_false] at hu; rcases hu with rfl | rfl | rfl | rfl | rfl | rfl | rfl | rfl | rfl | rfl | rfl | rfl | rfl | rfl | rfl | rfl | rfl | rfl | rfl <;> rfl) (by unfold maxLen; omega) (by omega) ?_; intro v1 w9 hown1 hg1 hnil1 hat1; obtain ⟨A', c', rfl, _⟩ := own_form2 hown1; have hne1 := own_blk_ne HOX.out HGX.out (by decide); have hgb := HGX.out.grown hg1 hne1; have u2 := (hgb.cell 2).trans rfl; have f2 := hgb.frozen 2; have uz := hgb.lt; have HOWN := Lib.hid hown1; have HG1 := Lib.hid hg1; have HAT1 := Lib.hid hat1; clear hown1 hg1 hnil1 hat1 hne1 hgb))
       go_roundw
       case rel => exact ⟨i + 1, A', c', by go_num, by omega, HPA.out.step HGM.out HBX.out HZZ.out (by have h := HOWN.out; exact h) HG1.out HAT1.out⟩
       case measure => simp [intOf]; omega
   · obtain rfl : i = p.acts.length := by omega
     have hPA := HPA.out
     obtain ⟨hG, hF, hO, hA⟩ := hPA
     rw [show p.acts.length = M.length from HML.out.symm] at hG hO
     rw [List.take_length] at hO
     have hR := HRB.out.fr hF (fun e => by have := HGG.out; have := HZ1.out; omega)
     have HT9 := Lib.hid (show wr.there (w.heap.size + 1) 0 (#[Value.string p.name, Value.slice E1 L.length d1, Value.slice A M.length c] : Array Value).size from hR.there)
     have HRG := Lib.hid (show wr.rangeAt g 0 [Value.string p.name, Value.slice E1 L.length d1, Value.slice A M.length c] from by have := hG.range; exact this)
     have hrl := hR.lt
     have hgl := hG.lt
     have hsz := hF.size
     have L1 := Lib.hid ((HROW.out.keep (w' := wr) (D' := Ex W1 wm g) hsz (fun j hj hl => ⟨hj, hF.block j hl (fun e => hj.2.2 e)⟩)).keep (w' := wr.setCells (w.heap.size + 1) 0 [Value.string p.name, Value.slice E1 L.length d1, Value.slice A M.length c]) (D' := NewD w.heap.size (wr.setCells (w.heap.size + 1) 0 [Value.string p.name, Value.slice E1 L.length d1, Value.slice A M.length c])) (by rw [size_setCells]; omega) (fun j hj hl => ⟨⟨by have := hj.1; have := HZ1.out; omega, by rw [size_setCells]; omega⟩, blk_setCells _ _ _ _ _ (by have := hj.1; have := HZ1.out; omega)⟩))
     have hOR : RowR repActT (NewD wm.heap.size wr) wr A c M := RowR.of_rd (hs := ActT.cells_length) (ownsRow_rd ActT.cells_length hO) hA
     have L2 := Lib.hid (hOR.keep (w' := wr.setCells (w.heap.size + 1) 0 [Value.string p.name, Value.slice E1 L.length d1, Value.slice A M.length c]) (D' := NewD w.heap.size (wr.setCells (w.heap.size + 1) 0 [Value.string p.name, Value.slice E1 L.length d1, Value.slice A M.length c])) (by rw [size_setCells]; omega) (fun j hj hl => ⟨⟨by have := hj.1; have := HBW.out.size; omega, by rw [size_setCells]; omega⟩, blk_setCells _ _ _ _ _ (by have := hj.1; have := HGM.out; have := HGG.out; have := HZ1.out; omega)⟩))
     clear hR hG hF hO hA hOR
     go_upto_region 13 with fail
     go_wp2_with (first | (with_reducible refine wpList_load_mid rfl 25 _ rfl g 0 rfl [Value.string p.name, Value.slice E1 L.length d1, Value.slice A M.length c] _ HRG.out Tryz.underlying25 rfl (by kernel_rfl) ?_) | (with_reducible refine wpList_store_mid rfl 25 _ _ rfl (w.heap.size + 1) 0 #[Value.string p.name, Value.slice E1 L.length d1, Value.slice A M.length c] rfl rfl HT9.out (by kernel_rfl) (by kernel_rfl) ?_))
     try simp only [Exit.inBlock, Exit.then]
     have hBe : Below w.heap.size w (wr.setCells (w.heap.size + 1) 0 [Value.string p.name, Value.slice E1 L.length d1, Value.slice A M.length c]) := Below.setCells' _ _ HFR.out (by omega)
     refine bodyPost_ret (v := .agg #[.string p.name, .slice E1 L.length d1, .slice A M.length c]) ?_ rfl (by rw [HR.out]; exact ⟨E1, d1, A, c, rfl, L1.out, L2.out, hBe⟩)
     exact results_cell (t := 6) (T := 25) rfl _ _ (w.heap.size + 1) [Value.string p.name, Value.slice E1 L.length d1, Value.slice A M.length c] _ rfl (World.rangeAt_setCells_same wr (w.heap.size + 1) 0 [Value.string p.name, Value.slice E1 L.length d1, Value.slice A M.length c] HT9.out) Tryz.underlying25 rfl (by kernel_rfl)
end Go.Proofs.YtffemfglngikbaaGreat
namespace Go.Proofs.YtffemfglngikbaaGreat
open Go.RowKit Go.Shelf
theorem uqStep_mem {u : List ByteArray} {v x : ByteArray} : x ∈ uqStep u v ↔ x ∈ u ∨ x = v := by
 unfold uqStep
 by_cases h : v ∈ u
 · rw [if_pos h]
   exact ⟨.inl, fun g => g.elim id (fun e => e ▸ h)⟩
 · rw [if_neg h]; simp
theorem uqf_mem {x : ByteArray} : ∀ (q u : List ByteArray), x ∈ q.foldl uqStep u ↔ x ∈ u ∨ x ∈ q
 | [], u => by simp
 | v :: q, u => by rw [List.foldl_cons, uqf_mem q, uqStep_mem, List.mem_cons, or_assoc]
theorem uq_mem {x : ByteArray} {q : List ByteArray} : x ∈ uq q ↔ x ∈ q := by unfold uq; rw [uqf_mem]; simp
theorem uqf_nodup : ∀ (q u : List ByteArray), u.Nodup → (q.foldl uqStep u).Nodup
 | [], u, h => h
 | v :: q, u, h => by
   rw [List.foldl_cons]
   refine uqf_nodup q _ ?_
   unfold uqStep
   by_cases hv : v ∈ u
   · rw [if_pos hv]; exact h
   · rw [if_neg hv]
     exact List.nodup_append.2 ⟨h, by simp, fun a ha b hb => by rw [List.mem_singleton.1 hb]; exact fun e => hv (e ▸ ha)⟩
theorem uq_nodup (q : List ByteArray) : (uq q).Nodup := uqf_nodup q [] .nil
theorem uqf_map {t : ByteArray → ByteArray} : ∀ (q u : List ByteArray), (∀ a b, (a ∈ u ∨ a ∈ q) → (b ∈ u ∨ b ∈ q) → t a = t b → a = b) → (q.map t).foldl uqStep (u.map t) = (q.foldl uqStep u).map t
 | [], u, _ => rfl
 | v :: q, u, h => by
   rw [List.map_cons, List.foldl_cons, List.foldl_cons]
   have e : uqStep (u.map t) (t v) = (uqStep u v).map t := by
    unfold uqStep
    by_cases hv : v ∈ u
    · rw [if_pos hv, if_pos (List.mem_map_of_mem hv)]
    · rw [if_neg hv, if_neg (fun hh => by
       obtain ⟨a, ha, e⟩ := List.mem_map.1 hh
       exact hv (h a v (.inl ha) (.inr (by simp)) e ▸ ha)), List.map_append]
      rfl
   rw [e]
   refine uqf_map q _ (fun a b ha hb => h a b ?_ ?_)
   · rw [uqStep_mem] at ha
     rcases ha with (g | g) | g
     · exact .inl g
     · exact .inr (by simp [g])
     · exact .inr (by simp [g])
   · rw [uqStep_mem] at hb
     rcases hb with (g | g) | g
     · exact .inl g
     · exact .inr (by simp [g])
     · exact .inr (by simp [g])
theorem uq_map {t : ByteArray → ByteArray} {q : List ByteArray} (h : ∀ a b, a ∈ q → b ∈ q → t a = t b → a = b) : uq (q.map t) = (uq q).map t :=
 uqf_map q [] (fun a b ha hb => h a b (by simpa using ha) (by simpa using hb))
theorem e0L : (⟨#[]⟩ : ByteArray).toList = [] := by kernel_rfl
section
variable {t t' : ByteArray → ByteArray}
theorem one_names {v : ByteArray} (h : ∀ x ∈ oneN v, ¬ (t x).toList = []) : oneN (oneR t v) = (oneN v).map t := by
 by_cases hv : v.toList = []
 · rw [oneR, if_pos hv, oneN_no hv, oneN_no e0L]; rfl
 · rw [oneN_yes hv] at h
   rw [oneR, if_neg hv, oneN_yes hv, oneN_yes (h v (by simp))]; rfl
theorem tests_names {l : List TestT} (h : ∀ x ∈ varsT l, ¬ (t x).toList = []) : varsT (l.map (testR t)) = (varsT l).map t := by
 unfold varsT at *
 rw [List.flatMap_map, List.map_flatMap]
 exact fm_congr fun x hx => one_names (fun y hy => h y (List.mem_flatMap.2 ⟨x, hx, hy⟩))
theorem cond_names : ∀ (n : Nat) (c : CondT), (∀ x ∈ namesN n c, ¬ (t x).toList = []) → namesN n (condR t n c) = (namesN n c).map t
 | 0, _, _ => rfl
 | n + 1, c, h => by
   have e : namesN (n + 1) c = oneN c.id ++ (varsT c.attr ++ (varsT c.value ++ c.conds.flatMap (namesN n))) := rfl
   rw [e] at h
   have h3 : (c.conds.map (condR t n)).flatMap (namesN n) = (c.conds.flatMap (namesN n)).map t := by
    rw [List.flatMap_map, List.map_flatMap]
    exact fm_congr fun x hx => cond_names n x (fun y hy => h y (by simp only [List.mem_append, List.mem_flatMap]; exact .inr (.inr (.inr ⟨x, hx, hy⟩))))
   show oneN (oneR t c.id) ++ (varsT (c.attr.map (testR t)) ++ (varsT (c.value.map (testR t)) ++ (c.conds.map (condR t n)).flatMap (namesN n))) = _
   rw [one_names (fun y hy => h y (by simp [hy])), tests_names (fun y hy => h y (by simp [hy])), tests_names (fun y hy => h y (by simp [hy])), h3, e, List.map_append, List.map_append, List.map_append]
theorem vars5 (a : ActT) : varsA a = oneN a.id ++ (oneN a.attr.var ++ (oneN a.value.a.var ++ (oneN a.value.b.var ++ oneN a.other.var))) := by
 simp [varsA, fives]
theorem act_names (a : ActT) (h : ∀ x ∈ varsA a, ¬ (t x).toList = []) : varsA (actR t a) = (varsA a).map t := by
 rw [vars5] at h
 rw [vars5, vars5]
 show oneN (oneR t a.id) ++ (oneN (oneR t a.attr.var) ++ (oneN (oneR t a.value.a.var) ++ (oneN (oneR t a.value.b.var) ++ oneN (oneR t a.other.var)))) = _
 rw [one_names (fun y hy => h y (by simp [hy])), one_names (fun y hy => h y (by simp [hy])), one_names (fun y hy => h y (by simp [hy])), one_names (fun y hy => h y (by simp [hy])), one_names (fun y hy => h y (by simp [hy]))]
 simp only [List.map_append]
end
theorem mem_varsC {n : Nat} {p : ProdT} {c : CondT} (hc : c ∈ p.conds) {x : ByteArray} (hx : x ∈ namesN n c) : x ∈ varsP n p := List.mem_append.2 (.inl (List.mem_flatMap.2 ⟨c, hc, hx⟩))
theorem mem_varsA {n : Nat} {p : ProdT} {a : ActT} (ha : a ∈ p.acts) {x : ByteArray} (hx : x ∈ varsA a) : x ∈ varsP n p := List.mem_append.2 (.inr (List.mem_flatMap.2 ⟨a, ha, hx⟩))
theorem smt_R (t : ByteArray → ByteArray) {l : List TestT} (h : SmT l) : SmT (l.map (testR t)) := by
 refine ⟨by rw [List.length_map]; exact h.1, fun x hx => ?_⟩
 obtain ⟨y, hy, rfl⟩ := List.mem_map.1 hx
 exact h.2 y hy
theorem smc_R (t : ByteArray → ByteArray) : ∀ (n : Nat) (c : CondT), SmC n c → SmC n (condR t n c)
 | 0, _, _ => trivial
 | n + 1, c, ⟨h1, h2, h3, h4⟩ => ⟨smt_R t h1, smt_R t h2, by show (c.conds.map (condR t n)).length ≤ 1000; rw [List.length_map]; exact h3, fun x hx => by
     obtain ⟨y, hy, rfl⟩ := List.mem_map.1 (show x ∈ c.conds.map (condR t n) from hx)
     exact smc_R t n y (h4 y hy)⟩
end Go.Proofs.YtffemfglngikbaaGreat
