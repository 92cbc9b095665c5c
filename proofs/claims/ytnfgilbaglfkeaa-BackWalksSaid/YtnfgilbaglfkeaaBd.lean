/-
  Texts put together: BkRec, BkFind, Queue, Scal, LeafBnum, LeafPgR, LeafPgT, BkPlain, BkReach.
-/
import Derived.Test.YtnfgilbaglfkeaaBc
import Derived.ArgAppend
import Derived.Test.YtnfgilbaglfkeaaBa
import Derived.Deep.Cut
import Derived.Test.YtnfgilbaglfkeaaBb
import Derived.Maps.RangeWalk
namespace Go.Proofs.Ytnfgilbaglfkeaa
open Go.RowKit
def SmH (n : Nat) (h : HoleT) : Prop := SmC (n + 1) h.cond ∧ h.binds.length ≤ 1000
def SmR (n : Nat) (r : RecordT) : Prop := r.elems.length ≤ 1000 ∧ r.holes.length ≤ 1000 ∧ r.aparts.length ≤ 1000 ∧ r.news.length ≤ 1000 ∧ ∀ h ∈ r.holes, SmH n h
theorem rep_hole {n : Nat} {D : Nat → Prop} {w : World} {y : HoleT} {Ay1 Ay2 Ay3 Ay4 : Option Addr} {cy1 cy2 cy3 cy4 : Nat} (h1 : RowR repTestT D w Ay1 cy1 y.cond.attr) (h2 : RowR repTestT D w Ay2 cy2 y.cond.value) (h3 : RowR (repCondT n) D w Ay3 cy3 y.cond.conds) (h4 : RowR repBindT D w Ay4 cy4 y.binds) :
 (repHoleT n).rep D w y [.int .i64 y.cond.kind, .bool y.cond.goal, .string y.cond.id, .slice Ay1 y.cond.attr.length cy1, .slice Ay2 y.cond.value.length cy2, .bool y.cond.acc, .slice Ay3 y.cond.conds.length cy3, .slice Ay4 y.binds.length cy4] := ⟨Ay1, cy1, Ay2, cy2, Ay3, cy3, Ay4, cy4, rfl, h1, h2, h3, h4⟩
def RecAt (n : Nat) (D : Nat → Prop) (w : World) (r : RecordT) (A1 : Option Addr) (c1 : Nat) (A2 : Option Addr) (c2 : Nat) (A3 : Option Addr) (c3 : Nat) (A4 : Option Addr) (c4 : Nat) : Prop :=
 RowR repTraceT D w A1 c1 r.elems ∧ RowR (repHoleT n) D w A2 c2 r.holes ∧ RowR repApartT D w A3 c3 r.aparts ∧ RowR repSym D w A4 c4 r.news
theorem RecAt.keep {n : Nat} {D D' : Nat → Prop} {w w' : World} {r : RecordT} {A1 : Option Addr} {c1 : Nat} {A2 : Option Addr} {c2 : Nat} {A3 : Option Addr} {c3 : Nat} {A4 : Option Addr} {c4 : Nat} (h : RecAt n D w r A1 c1 A2 c2 A3 c3 A4 c4) (hs : w.heap.size ≤ w'.heap.size) (hk : ∀ k, D k → k < w.heap.size → D' k ∧ w'.heap[k]? = w.heap[k]?) : RecAt n D' w' r A1 c1 A2 c2 A3 c3 A4 c4 :=
 ⟨h.1.keep hs hk, h.2.1.keep hs hk, h.2.2.1.keep hs hk, h.2.2.2.keep hs hk⟩
def FreshRec (n : Nat) (r : RecordT) (w : World) (en : Ending) (w' : World) : Prop :=
 ∃ A1 c1 A2 c2 A3 c3 A4 c4, en = .returned (.agg #[.int .i64 r.num, .int .i64 r.level, .slice A1 r.elems.length c1, .slice A2 r.holes.length c2, .slice A3 r.aparts.length c3, .slice A4 r.news.length c4]) ∧ RecAt n (NewD w.heap.size w') w' r A1 c1 A2 c2 A3 c3 A4 c4 ∧ Below w.heap.size w w'
theorem Blk.setAll {w : World} {g : Nat} {t : TypeId} {cs : Array Value} {vs : List Value} (h : Blk w g t cs) (hl : cs.size = vs.length) : Blk (w.setCells g 0 vs) g t vs.toArray := by
 have hr := World.rangeAt_setCells_same w g 0 vs (by have := h.there; rwa [hl] at this)
 obtain ⟨cs', h1, h2⟩ := Blk.setCells_ vs 0 h
 have e : cs' = vs.toArray := by
  apply Array.ext
  · rw [h2]; simpa using hl
  · intro i hi hj
    have hj' : i < vs.length := by simpa using hj
    have h3 := hr i vs[i] (List.getElem?_eq_getElem hj')
    rw [show (0 + i) = i by omega, h1.cell i, Array.getElem?_eq_getElem hi] at h3
    simpa using h3
 rw [← e]; exact h1
theorem ain_ne {w : World} {e : TypeId} {size n c : Nat} {A : Option Addr} {xs : List Value} {g : Nat} {t : TypeId} {cs : Array Value} {D : Nat → Prop} (h : w.ownsRow 0 e size (.slice A n c) n xs) (hg : Blk w g t cs) (hne : e ≠ t) (hA : AIn A D) : AIn A (fun j => D j ∧ j ≠ g) := by
 intro a ha
 refine ⟨hA a ha, fun hb => ?_⟩
 subst ha
 exact own_blk_ne h hg hne (by simp [Value.ownBlock, hb])
theorem own_setCells {w : World} {e : TypeId} {size n : Nat} {v : Value} {xs : List Value} {g : Nat} {t : TypeId} {cs : Array Value} (h : w.ownsRow 0 e size v n xs) (hg : Blk w g t cs) (hne : e ≠ t) (o : Nat) (vs : List Value) : (w.setCells g o vs).ownsRow 0 e size v n xs :=
 ownsRow_fr h (Fr.setCells vs o (Fr.refl (· = g) w) (.inl rfl)) (fun j hj ej => own_blk_ne h hg hne (by rw [← ej]; exact hj))
def RH (n g : Nat) (r : RecordT) (W1 : World) (E1 : Option Addr) (d1 : Nat) (E3 : Option Addr) (d3 : Nat) (E4 : Option Addr) (d4 : Nat) (k : Nat) (A : Option Addr) (c : Nat) (wr : World) : Prop :=
 Blk wr g 47 #[.int .i64 r.num, .int .i64 r.level, .slice E1 r.elems.length d1, .slice A k c, .slice E3 r.aparts.length d3, .slice E4 r.news.length d4] ∧ ∃ C : Nat → Prop, ¬ C g ∧ (∀ j, C j → NewD W1.heap.size wr j) ∧ W1.heap.size ≤ g ∧ RowR repTraceT C wr E1 d1 r.elems ∧ RowR repApartT C wr E3 d3 r.aparts ∧ RowR repSym C wr E4 d4 r.news ∧
  OwnC (repHoleT n) 76 C wr (.slice A (r.holes.take k).length c) (r.holes.take k) ∧ AIn A (NewD W1.heap.size wr) ∧ Below W1.heap.size W1 wr
section
variable {n g : Nat} {r : RecordT} {W1 wr : World} {E1 : Option Addr} {d1 : Nat} {E3 : Option Addr} {d3 : Nat} {E4 : Option Addr} {d4 : Nat} {k : Nat} {A : Option Addr} {c : Nat} {C : Nat → Prop}
theorem RH.step {y : HoleT} {W7 w8 : World} {A' : Option Addr} {c' : Nat} (hG : Blk wr g 47 #[.int .i64 r.num, .int .i64 r.level, .slice E1 r.elems.length d1, .slice A k c, .slice E3 r.aparts.length d3, .slice E4 r.news.length d4]) (hCg : ¬ C g) (hC : ∀ j, C j → NewD W1.heap.size wr j) (hg : W1.heap.size ≤ g) (t1 : RowR repTraceT C wr E1 d1 r.elems) (t3 : RowR repApartT C wr E3 d3 r.aparts) (t4 : RowR repSym C wr E4 d4 r.news)
 (hO : OwnC (repHoleT n) 76 C wr (.slice A (r.holes.take k).length c) (r.holes.take k)) (hA : AIn A (NewD W1.heap.size wr)) (hB : Below W1.heap.size W1 wr) (hk1 : k + 1 ≤ r.holes.length) (hy : r.holes.take k ++ [y] = r.holes.take (k + 1)) (h7 : Below wr.heap.size wr W7)
 (ha : Appended (repHoleT n) 76 (Plus C wr W7) W7 (.slice A (r.holes.take k).length c) (r.holes.take k ++ [y]) (.slice A' (k + 1) c') w8) : RH n g r W1 E1 d1 E3 d3 E4 d4 (k + 1) A' c' (w8.setCell ⟨g, 3, none⟩ (.slice A' (k + 1) c')) := by
 obtain ⟨a1, a2, a3⟩ := ha
 rw [hy] at a1
 have hz := hB.size
 have hz7 := h7.size
 have hz8 := a2.size
 have hgl := hG.lt
 have hnA : ∀ j, (Value.slice A (r.holes.take k).length c).ownBlock = some j → W1.heap.size ≤ j ∧ j < wr.heap.size := fun j hj => by
  rcases A with _ | a
  · simp [Value.ownBlock] at hj
  · simp only [Value.ownBlock, Option.some.injEq] at hj
    have := hA a rfl
    exact ⟨by rw [← hj]; exact this.1, by rw [← hj]; exact this.2⟩
 have hlen : (r.holes.take (k + 1)).length = k + 1 := take_len hk1
 have ho := Classical.choose_spec hO
 have hne : (Value.slice A (r.holes.take k).length c).ownBlock ≠ some g := own_blk_ne ho.1 hG (by decide)
 have hG8 : Blk w8 g 47 #[.int .i64 r.num, .int .i64 r.level, .slice E1 r.elems.length d1, .slice A k c, .slice E3 r.aparts.length d3, .slice E4 r.news.length d4] := (hG.new_ h7).grown a2 hne
 have ho8 := Classical.choose_spec a1
 have hne8 : (Value.slice A' (k + 1) c').ownBlock ≠ some g := own_blk_ne ho8.1 hG8 (by decide)
 have hCP : ∀ j, Plus C wr W7 j → NewD W1.heap.size W7 j := fun j hj => by
  rcases hj with hj | hj
  · have := hC j hj; exact ⟨this.1, by have := this.2; omega⟩
  · exact ⟨by omega, hj.2⟩
 have hgP : ¬ Plus C wr W7 g := fun h => by
  rcases h with h | h
  · exact hCg h
  · omega
 have ho7 : ∀ j, (Value.slice A (r.holes.take k).length c).ownBlock = some j → ¬ Plus C wr W7 j := fun j hj h => by
  rcases h with h | h
  · exact hO.off j hj h
  · have := (hnA j hj).2; omega
 have keep : ∀ j, C j → j < wr.heap.size → Plus C wr W7 j ∧ (w8.setCell ⟨g, 3, none⟩ (.slice A' (k + 1) c')).heap[j]? = wr.heap[j]? := fun j hj hl => by
  refine ⟨.inl hj, ?_⟩
  rw [Below.heap_setCell _ _ _ _ (by dsimp only; intro e; subst e; exact hCg hj), a2.block j (by omega) (fun e => hO.off j e.symm hj)]
  exact h7.block j hl
 have hs9 : wr.heap.size ≤ (w8.setCell ⟨g, 3, none⟩ (.slice A' (k + 1) c')).heap.size := by simp; omega
 refine ⟨hG8.set_ 3 _, Plus C wr W7, hgP, fun j hj => ?_, hg, t1.keep hs9 keep, t3.keep hs9 keep, t4.keep hs9 keep, ?_, ?_, ?_⟩
 · have := hCP j hj; exact ⟨this.1, by have := this.2; simp; omega⟩
 · rw [hlen]
   exact a1.fr (M := (· = g)) ((Fr.refl (· = g) w8).setCell (p := ⟨g, 3, none⟩) (.inl rfl) _) (fun j hj e => by subst e; exact hgP hj) (fun j hj e => by subst e; exact hne8 hj)
 · intro a ha
   subst ha
   have hlt := a1.lt a.block rfl
   refine ⟨?_, by simpa using hlt⟩
   rcases a3 with a3 | a3
   · exact (hnA a.block (a3 ▸ rfl)).1
   · simp only [Value.ownBlock, Option.some.injEq] at a3
     omega
 · exact ((hB.trans (h7.mono hz)).grown a2 (by omega) (fun j hj => (hnA j hj).1)).setCell (by dsimp only; exact hg) _
theorem RH.fin (hk : k = r.holes.length) (hC : ∀ j, C j → NewD W1.heap.size wr j) (t1 : RowR repTraceT C wr E1 d1 r.elems) (t3 : RowR repApartT C wr E3 d3 r.aparts) (t4 : RowR repSym C wr E4 d4 r.news)
 (hO : OwnC (repHoleT n) 76 C wr (.slice A (r.holes.take k).length c) (r.holes.take k)) (hA : AIn A (NewD W1.heap.size wr)) : RecAt n (NewD W1.heap.size wr) wr r E1 d1 A c E3 d3 E4 d4 := by
 subst hk
 rw [List.take_length] at hO
 exact ⟨t1.weaken hC, hO.row hC hA, t3.weaken hC, t4.weaken hC⟩
end
set_option maxRecDepth 100000 in
set_option maxHeartbeats 32000000 in
theorem cprec_is (n : Nat) (r : RecordT) (A1 : Option Addr) (c1 : Nat) (A2 : Option Addr) (c2 : Nat) (A3 : Option Addr) (c3 : Nat) (A4 : Option Addr) (c4 : Nat) {D : Nat → Prop} (w : World) (hr : RecAt n D w r A1 c1 A2 c2 A3 c3 A4 c4) (hs : SmR n r) :
 Calls Try.prog 48 #[.agg #[.int .i64 r.num, .int .i64 r.level, .slice A1 r.elems.length c1, .slice A2 r.holes.length c2, .slice A3 r.aparts.length c3, .slice A4 r.news.length c4]] w (FreshRec n r w) := by
 obtain ⟨j0, hj0, hy0, hyy1, hyy2⟩ := infp inf_Hole
 obtain ⟨s1, s2, s3, s4, s5⟩ := hs
 obtain ⟨r1, r2, r3, r4⟩ := hr
 have hcap2 := r2.cap
 have HS := Lib.hid s5
 have R1 := Lib.hid (RowR.rd (hs := TraceT.cells_length) r1)
 have R2 := Lib.hid r2
 have R3 := Lib.hid (RowR.rd (hs := ApartT.cells_length) r3)
 have R4 := Lib.hid (RowR.rd (hs := Sym.cells_length) r4)
 clear s5 r1 r2 r3 r4
 go_enter Try.func48, Try.ntmps48
 go_upto_region 1 with fail
 obtain ⟨W1, hW1⟩ : ∃ W1, W1 = (w.alloc (.cells #[.int .i64 r.num, .int .i64 r.level, .slice A1 r.elems.length c1, .slice A2 r.holes.length c2, .slice A3 r.aparts.length c3, .slice A4 r.news.length c4] 47)).alloc (.cells #[.int .i64 0, .int .i64 0, .slice none 0 0, .slice none 0 0, .slice none 0 0, .slice none 0 0] 47) := ⟨_, rfl⟩
 have hB1 : Below w.heap.size w W1 := by rw [hW1]; exact ((Below.refl _ _).alloc (Nat.le_refl _) _).alloc (by simp) _
 have hX1 : Blk W1 w.heap.size 47 #[.int .i64 r.num, .int .i64 r.level, .slice A1 r.elems.length c1, .slice A2 r.holes.length c2, .slice A3 r.aparts.length c3, .slice A4 r.news.length c4] := by rw [hW1]; exact (Blk.new _ _ _).alloc _
 have hR1 : Blk W1 (w.heap.size + 1) 47 #[.int .i64 0, .int .i64 0, .slice none 0 0, .slice none 0 0, .slice none 0 0, .slice none 0 0] := by rw [hW1]; have := Blk.new (w.alloc (.cells #[.int .i64 r.num, .int .i64 r.level, .slice A1 r.elems.length c1, .slice A2 r.holes.length c2, .slice A3 r.aparts.length c3, .slice A4 r.news.length c4] 47)) 47 #[.int .i64 0, .int .i64 0, .slice none 0 0, .slice none 0 0, .slice none 0 0, .slice none 0 0]; simpa using this
 have hz1 : W1.heap.size = w.heap.size + 2 := by rw [hW1]; simp
 rw [← hW1]
 clear hW1
 obtain ⟨p0, p1, p2, p3, p4, p5⟩ := hX1.c6
 have HB1 := Lib.hid hB1
 have HX1 := Lib.hid hX1
 have HR1 := Lib.hid hR1
 have HZ1 := Lib.hid hz1
 have hxl1 := hX1.lt
 clear hB1 hX1 hR1 hz1
 go_cut [3] from 5 (fun p wc => ∃ g E1 d1 E3 d3 E4 d4, p = .pointer (some ⟨g, 0, none⟩) ∧ W1.heap.size ≤ g ∧ Blk wc g 47 #[.int .i64 r.num, .int .i64 r.level, .slice E1 r.elems.length d1, .slice none 0 0, .slice E3 r.aparts.length d3, .slice E4 r.news.length d4] ∧ Below W1.heap.size W1 wc ∧
  (wc.ownsRow 0 55 14 (.slice E1 r.elems.length d1) r.elems.length (r.elems.flatMap TraceT.cells) ∧ AIn E1 (NewD W1.heap.size wc)) ∧
  (wc.ownsRow 0 111 7 (.slice E3 r.aparts.length d3) r.aparts.length (r.aparts.flatMap ApartT.cells) ∧ AIn E3 (NewD W1.heap.size wc)) ∧
  (wc.ownsRow 0 51 3 (.slice E4 r.news.length d4) r.news.length (r.news.flatMap Sym.cells) ∧ AIn E4 (NewD W1.heap.size wc)))
 case first =>
  refine wp_region_Pl (fun w9 => Below W1.heap.size W1 w9) [0, 1, 2, 3, 4, 5, 7, 8, 10, 11, 13] [1, 3, 5, 8, 11] (.fork [(0, 0), (1, 1), (2, 0), (3, 1), (4, 0), (5, 1), (7, 0), (8, 1), (10, 0), (11, 1)] 6 (.fork [] 9 (.fork [] 12 (.fin [(13, 0), (14, 2), (15, 2)]) 14 (.fin [(12, 2), (13, 0), (15, 2)])) 14 (.fin [(9, 2), (12, 2), (13, 0), (15, 2)])) 14 (.fin [(6, 2), (9, 2), (12, 2), (13, 0), (15, 2)])) (by kernel_rfl) (by kernel_rfl) (by kernel_rfl) (fun KK hKK => ?_)
  simp only [wpPl, beside, List.filterMap_cons, List.filterMap_nil, List.getElem?_toArray, List.getElem?_cons_zero, List.getElem?_cons_succ, Option.map_some]
  repeat ((first | (refine wpY_w ?_ (Or.inl ⟨by rfl, fun w9 => ?_⟩) ?_; rotate_left 1; go_simp; with_reducible rfl) | (refine wpY_l ?_ ((Below.refl _ _).drew) (Or.inl ⟨by rfl, fun w9 hw9 => ?_⟩) ?_; rotate_left 1; obtain ⟨hc9, hf9⟩ := bcell hw9; go_simp; with_reducible rfl) | refine wpY_w undef (Or.inr ⟨by rfl, rfl⟩) ?_ | refine wpY_l undef ((Below.refl _ _).drew) (Or.inr ⟨by rfl, rfl⟩) ?_); go_frame)
  refine wpY_nil ⟨?_, ?_⟩
  · refine wpOp_cs rfl (fun K9 hK9 => ?_)
    go_simp
    refine (cp_Trace A1 c1 r.elems _ (R1.out.new_ (HB1.out.trans (((Below.refl W1.heap.size W1).drew).mono (by have := HZ1.out; omega)))) (by omega)).mono ?_
    rintro e w1 ⟨E1, d1, rfl, ho, hA, hb⟩
    have HO1 := Lib.hid ho
    have HA1 := Lib.hid (hA.mono (fun j hj => (⟨Nat.le_trans ((Below.refl W1.heap.size W1).drew).size hj.1, hj.2⟩ : NewD W1.heap.size w1 j)))
    have HB1x := Lib.hid (((Below.refl W1.heap.size W1).drew).trans (hb.mono ((Below.refl W1.heap.size W1).drew).size))
    clear ho hA hb
    refine hK9 _ _ (fun _ => HB1x.out) ?_
    clear hK9 K9
    try go_frame
    try simp only [beside, List.filterMap_nil]
    refine wpY_nil ⟨?_, ?_⟩
    · refine wpOp_cs rfl (fun K9 hK9 => ?_)
      go_simp
      refine (cp_Apart A3 c3 r.aparts _ (R3.out.new_ (HB1.out.trans ((HB1x.out).mono (by have := HZ1.out; omega)))) (by omega)).mono ?_
      rintro e w3 ⟨E3, d3, rfl, ho, hA, hb⟩
      have HO1 := Lib.hid (ownsRow_new HO1.out hb)
      have HA1 := Lib.hid (HA1.out.mono (fun j hj => NewD.up (Nat.le_refl _) (hb).size j hj))
      have HO3 := Lib.hid ho
      have HA3 := Lib.hid (hA.mono (fun j hj => (⟨Nat.le_trans (HB1x.out).size hj.1, hj.2⟩ : NewD W1.heap.size w3 j)))
      have HB3x := Lib.hid ((HB1x.out).trans (hb.mono (HB1x.out).size))
      clear ho hA hb
      refine hK9 _ _ (fun _ => HB3x.out) ?_
      clear hK9 K9
      try go_frame
      try simp only [beside, List.filterMap_nil]
      refine wpY_nil ⟨?_, ?_⟩
      · refine wpOp_cs rfl (fun K9 hK9 => ?_)
        go_simp
        refine (cp_Sym A4 c4 r.news _ (R4.out.new_ (HB1.out.trans ((HB3x.out).mono (by have := HZ1.out; omega)))) (by omega)).mono ?_
        rintro e w4 ⟨E4, d4, rfl, ho, hA, hb⟩
        have HO1 := Lib.hid (ownsRow_new HO1.out hb)
        have HA1 := Lib.hid (HA1.out.mono (fun j hj => NewD.up (Nat.le_refl _) (hb).size j hj))
        have HO3 := Lib.hid (ownsRow_new HO3.out hb)
        have HA3 := Lib.hid (HA3.out.mono (fun j hj => NewD.up (Nat.le_refl _) (hb).size j hj))
        have HO4 := Lib.hid ho
        have HA4 := Lib.hid (hA.mono (fun j hj => (⟨Nat.le_trans (HB3x.out).size hj.1, hj.2⟩ : NewD W1.heap.size w4 j)))
        have HB4x := Lib.hid ((HB3x.out).trans (hb.mono (HB3x.out).size))
        clear ho hA hb
        refine hK9 _ _ (fun _ => HB4x.out) ?_
        clear hK9 K9
        try go_frame
        try simp only [beside, List.filterMap_nil]
        repeat ((first | (refine wpY_w ?_ (Or.inl ⟨by rfl, fun w9 => ?_⟩) ?_; rotate_left 1; go_simp; with_reducible rfl) | (refine wpY_l ?_ (HB4x.out) (Or.inl ⟨by rfl, fun w9 hw9 => ?_⟩) ?_; rotate_left 1; obtain ⟨hc9, hf9⟩ := bcell hw9; go_simp; with_reducible rfl) | refine wpY_w undef (Or.inr ⟨by rfl, rfl⟩) ?_ | refine wpY_l undef (HB4x.out) (Or.inr ⟨by rfl, rfl⟩) ?_); go_frame)
        refine wpY_es (fun K9 hK9 => ?_)
        go_simp
        have hb : Below w4.heap.size w4 (w4.alloc (.cells #[.int .i64 0, .int .i64 0, .slice none 0 0, .slice none 0 0, .slice none 0 0, .slice none 0 0] 47)) := (Below.refl _ _).alloc (Nat.le_refl _) _
        have HO1 := Lib.hid (ownsRow_new HO1.out hb)
        have HA1 := Lib.hid (HA1.out.mono (fun j hj => NewD.up (Nat.le_refl _) (hb).size j hj))
        have HO3 := Lib.hid (ownsRow_new HO3.out hb)
        have HA3 := Lib.hid (HA3.out.mono (fun j hj => NewD.up (Nat.le_refl _) (hb).size j hj))
        have HO4 := Lib.hid (ownsRow_new HO4.out hb)
        have HA4 := Lib.hid (HA4.out.mono (fun j hj => NewD.up (Nat.le_refl _) (hb).size j hj))
        have HK := Lib.hid (show Blk (w4.alloc (.cells #[.int .i64 0, .int .i64 0, .slice none 0 0, .slice none 0 0, .slice none 0 0, .slice none 0 0] 47)) w4.heap.size 47 #[.int .i64 0, .int .i64 0, .slice none 0 0, .slice none 0 0, .slice none 0 0, .slice none 0 0] from Blk.new _ _ _)
        have HGE := Lib.hid (show W1.heap.size ≤ w4.heap.size from (HB4x.out).size)
        have HBg := Lib.hid ((HB4x.out).trans (hb.mono (HB4x.out).size))
        clear hb
        refine hK9 _ _ (HBg.out) ?_
        clear hK9 K9
        try go_frame
        refine wpY_es (fun K9 hK9 => ?_)
        refine step_store_el rfl 47 _ _ rfl w4.heap.size 0 #[Value.int IntKind.i64 r.num, Value.int IntKind.i64 r.level, Value.slice E1 r.elems.length d1, Value.slice none 0 0, Value.slice E3 r.aparts.length d3, Value.slice E4 r.news.length d4] rfl rfl (show _ from HK.out.there) (by kernel_rfl) (by kernel_rfl) ?_
        refine hK9 _ _ (Below.setCells' _ _ (HBg.out) HGE.out) ?_
        clear hK9 K9
        try go_frame
        refine wpY_nil ?_
        simp only [OnlyN_normal]
        refine hKK _ _ ?_
        clear hKK KK
        go_wp2_with fail
        go_meet
        case rel => exact ⟨w4.heap.size, E1, d1, E3, d3, E4, d4, rfl, HGE.out, HK.out.setAll rfl, Below.setCells' _ _ (HBg.out) HGE.out, ⟨own_setCells HO1.out HK.out (by decide) _ _, HA1.out.mono (fun j hj => ⟨hj.1, by rw [size_setCells]; exact hj.2⟩)⟩, ⟨own_setCells HO3.out HK.out (by decide) _ _, HA3.out.mono (fun j hj => ⟨hj.1, by rw [size_setCells]; exact hj.2⟩)⟩, ⟨own_setCells HO4.out HK.out (by decide) _ _, HA4.out.mono (fun j hj => ⟨hj.1, by rw [size_setCells]; exact hj.2⟩)⟩⟩
      · refine wpOp_cs rfl (fun K9 hK9 => ?_)
        go_simp
        have hb : Below w3.heap.size w3 (w3.alloc (.cells #[.int .i64 0, .int .i64 0, .slice none 0 0, .slice none 0 0, .slice none 0 0, .slice none 0 0] 47)) := (Below.refl _ _).alloc (Nat.le_refl _) _
        have HO1 := Lib.hid (ownsRow_new HO1.out hb)
        have HA1 := Lib.hid (HA1.out.mono (fun j hj => NewD.up (Nat.le_refl _) (hb).size j hj))
        have HO3 := Lib.hid (ownsRow_new HO3.out hb)
        have HA3 := Lib.hid (HA3.out.mono (fun j hj => NewD.up (Nat.le_refl _) (hb).size j hj))
        have HK := Lib.hid (show Blk (w3.alloc (.cells #[.int .i64 0, .int .i64 0, .slice none 0 0, .slice none 0 0, .slice none 0 0, .slice none 0 0] 47)) w3.heap.size 47 #[.int .i64 0, .int .i64 0, .slice none 0 0, .slice none 0 0, .slice none 0 0, .slice none 0 0] from Blk.new _ _ _)
        have HGE := Lib.hid (show W1.heap.size ≤ w3.heap.size from (HB3x.out).size)
        have HBg := Lib.hid ((HB3x.out).trans (hb.mono (HB3x.out).size))
        clear hb
        refine hK9 _ _ (fun _ => HBg.out) ?_
        clear hK9 K9
        try go_frame
        try simp only [beside, List.filterMap_nil]
        refine wpY_es (fun K9 hK9 => ?_)
        go_simp
        refine (cp_Sym A4 c4 r.news _ (R4.out.new_ (HB1.out.trans ((HBg.out).mono (by have := HZ1.out; omega)))) (by omega)).mono ?_
        rintro e w4 ⟨E4, d4, rfl, ho, hA, hb⟩
        have HO1 := Lib.hid (ownsRow_new HO1.out hb)
        have HA1 := Lib.hid (HA1.out.mono (fun j hj => NewD.up (Nat.le_refl _) (hb).size j hj))
        have HO3 := Lib.hid (ownsRow_new HO3.out hb)
        have HA3 := Lib.hid (HA3.out.mono (fun j hj => NewD.up (Nat.le_refl _) (hb).size j hj))
        have HK := Lib.hid (HK.out.new_ hb)
        have HO4 := Lib.hid ho
        have HA4 := Lib.hid (hA.mono (fun j hj => (⟨Nat.le_trans (HBg.out).size hj.1, hj.2⟩ : NewD W1.heap.size w4 j)))
        have HB4x := Lib.hid ((HBg.out).trans (hb.mono (HBg.out).size))
        clear ho hA hb
        refine hK9 _ _ (HB4x.out) ?_
        clear hK9 K9
        try go_frame
        repeat ((first | (refine wpY_w ?_ (Or.inl ⟨by rfl, fun w9 => ?_⟩) ?_; rotate_left 1; go_simp; with_reducible rfl) | (refine wpY_l ?_ (HB4x.out) (Or.inl ⟨by rfl, fun w9 hw9 => ?_⟩) ?_; rotate_left 1; obtain ⟨hc9, hf9⟩ := bcell hw9; go_simp; with_reducible rfl) | refine wpY_w undef (Or.inr ⟨by rfl, rfl⟩) ?_ | refine wpY_l undef (HB4x.out) (Or.inr ⟨by rfl, rfl⟩) ?_); go_frame)
        refine wpY_es (fun K9 hK9 => ?_)
        refine step_store_el rfl 47 _ _ rfl w3.heap.size 0 #[Value.int IntKind.i64 r.num, Value.int IntKind.i64 r.level, Value.slice E1 r.elems.length d1, Value.slice none 0 0, Value.slice E3 r.aparts.length d3, Value.slice E4 r.news.length d4] rfl rfl (show _ from HK.out.there) (by kernel_rfl) (by kernel_rfl) ?_
        refine hK9 _ _ (Below.setCells' _ _ (HB4x.out) HGE.out) ?_
        clear hK9 K9
        try go_frame
        refine wpY_nil ?_
        simp only [OnlyN_normal]
        refine hKK _ _ ?_
        clear hKK KK
        go_wp2_with fail
        go_meet
        case rel => exact ⟨w3.heap.size, E1, d1, E3, d3, E4, d4, rfl, HGE.out, HK.out.setAll rfl, Below.setCells' _ _ (HB4x.out) HGE.out, ⟨own_setCells HO1.out HK.out (by decide) _ _, HA1.out.mono (fun j hj => ⟨hj.1, by rw [size_setCells]; exact hj.2⟩)⟩, ⟨own_setCells HO3.out HK.out (by decide) _ _, HA3.out.mono (fun j hj => ⟨hj.1, by rw [size_setCells]; exact hj.2⟩)⟩, ⟨own_setCells HO4.out HK.out (by decide) _ _, HA4.out.mono (fun j hj => ⟨hj.1, by rw [size_setCells]; exact hj.2⟩)⟩⟩
    · refine wpOp_cs rfl (fun K9 hK9 => ?_)
      go_simp
      have hb : Below w1.heap.size w1 (w1.alloc (.cells #[.int .i64 0, .int .i64 0, .slice none 0 0, .slice none 0 0, .slice none 0 0, .slice none 0 0] 47)) := (Below.refl _ _).alloc (Nat.le_refl _) _
      have HO1 := Lib.hid (ownsRow_new HO1.out hb)
      have HA1 := Lib.hid (HA1.out.mono (fun j hj => NewD.up (Nat.le_refl _) (hb).size j hj))
      have HK := Lib.hid (show Blk (w1.alloc (.cells #[.int .i64 0, .int .i64 0, .slice none 0 0, .slice none 0 0, .slice none 0 0, .slice none 0 0] 47)) w1.heap.size 47 #[.int .i64 0, .int .i64 0, .slice none 0 0, .slice none 0 0, .slice none 0 0, .slice none 0 0] from Blk.new _ _ _)
      have HGE := Lib.hid (show W1.heap.size ≤ w1.heap.size from (HB1x.out).size)
      have HBg := Lib.hid ((HB1x.out).trans (hb.mono (HB1x.out).size))
      clear hb
      refine hK9 _ _ (fun _ => HBg.out) ?_
      clear hK9 K9
      try go_frame
      try simp only [beside, List.filterMap_nil]
      refine wpY_es (fun K9 hK9 => ?_)
      go_simp
      refine (cp_Apart A3 c3 r.aparts _ (R3.out.new_ (HB1.out.trans ((HBg.out).mono (by have := HZ1.out; omega)))) (by omega)).mono ?_
      rintro e w3 ⟨E3, d3, rfl, ho, hA, hb⟩
      have HO1 := Lib.hid (ownsRow_new HO1.out hb)
      have HA1 := Lib.hid (HA1.out.mono (fun j hj => NewD.up (Nat.le_refl _) (hb).size j hj))
      have HK := Lib.hid (HK.out.new_ hb)
      have HO3 := Lib.hid ho
      have HA3 := Lib.hid (hA.mono (fun j hj => (⟨Nat.le_trans (HBg.out).size hj.1, hj.2⟩ : NewD W1.heap.size w3 j)))
      have HB3x := Lib.hid ((HBg.out).trans (hb.mono (HBg.out).size))
      clear ho hA hb
      refine hK9 _ _ (HB3x.out) ?_
      clear hK9 K9
      try go_frame
      refine wpY_es (fun K9 hK9 => ?_)
      go_simp
      refine (cp_Sym A4 c4 r.news _ (R4.out.new_ (HB1.out.trans ((HB3x.out).mono (by have := HZ1.out; omega)))) (by omega)).mono ?_
      rintro e w4 ⟨E4, d4, rfl, ho, hA, hb⟩
      have HO1 := Lib.hid (ownsRow_new HO1.out hb)
      have HA1 := Lib.hid (HA1.out.mono (fun j hj => NewD.up (Nat.le_refl _) (hb).size j hj))
      have HO3 := Lib.hid (ownsRow_new HO3.out hb)
      have HA3 := Lib.hid (HA3.out.mono (fun j hj => NewD.up (Nat.le_refl _) (hb).size j hj))
      have HK := Lib.hid (HK.out.new_ hb)
      have HO4 := Lib.hid ho
      have HA4 := Lib.hid (hA.mono (fun j hj => (⟨Nat.le_trans (HB3x.out).size hj.1, hj.2⟩ : NewD W1.heap.size w4 j)))
      have HB4x := Lib.hid ((HB3x.out).trans (hb.mono (HB3x.out).size))
      clear ho hA hb
      refine hK9 _ _ (HB4x.out) ?_
      clear hK9 K9
      try go_frame
      repeat ((first | (refine wpY_w ?_ (Or.inl ⟨by rfl, fun w9 => ?_⟩) ?_; rotate_left 1; go_simp; with_reducible rfl) | (refine wpY_l ?_ (HB4x.out) (Or.inl ⟨by rfl, fun w9 hw9 => ?_⟩) ?_; rotate_left 1; obtain ⟨hc9, hf9⟩ := bcell hw9; go_simp; with_reducible rfl) | refine wpY_w undef (Or.inr ⟨by rfl, rfl⟩) ?_ | refine wpY_l undef (HB4x.out) (Or.inr ⟨by rfl, rfl⟩) ?_); go_frame)
      refine wpY_es (fun K9 hK9 => ?_)
      refine step_store_el rfl 47 _ _ rfl w1.heap.size 0 #[Value.int IntKind.i64 r.num, Value.int IntKind.i64 r.level, Value.slice E1 r.elems.length d1, Value.slice none 0 0, Value.slice E3 r.aparts.length d3, Value.slice E4 r.news.length d4] rfl rfl (show _ from HK.out.there) (by kernel_rfl) (by kernel_rfl) ?_
      refine hK9 _ _ (Below.setCells' _ _ (HB4x.out) HGE.out) ?_
      clear hK9 K9
      try go_frame
      refine wpY_nil ?_
      simp only [OnlyN_normal]
      refine hKK _ _ ?_
      clear hKK KK
      go_wp2_with fail
      go_meet
      case rel => exact ⟨w1.heap.size, E1, d1, E3, d3, E4, d4, rfl, HGE.out, HK.out.setAll rfl, Below.setCells' _ _ (HB4x.out) HGE.out, ⟨own_setCells HO1.out HK.out (by decide) _ _, HA1.out.mono (fun j hj => ⟨hj.1, by rw [size_setCells]; exact hj.2⟩)⟩, ⟨own_setCells HO3.out HK.out (by decide) _ _, HA3.out.mono (fun j hj => ⟨hj.1, by rw [size_setCells]; exact hj.2⟩)⟩, ⟨own_setCells HO4.out HK.out (by decide) _ _, HA4.out.mono (fun j hj => ⟨hj.1, by rw [size_setCells]; exact hj.2⟩)⟩⟩
  · refine wpOp_cs rfl (fun K9 hK9 => ?_)
    go_simp
    have hb : Below W1.drew.heap.size W1.drew (W1.drew.alloc (.cells #[.int .i64 0, .int .i64 0, .slice none 0 0, .slice none 0 0, .slice none 0 0, .slice none 0 0] 47)) := (Below.refl _ _).alloc (Nat.le_refl _) _
    have HK := Lib.hid (show Blk (W1.drew.alloc (.cells #[.int .i64 0, .int .i64 0, .slice none 0 0, .slice none 0 0, .slice none 0 0, .slice none 0 0] 47)) W1.heap.size 47 #[.int .i64 0, .int .i64 0, .slice none 0 0, .slice none 0 0, .slice none 0 0, .slice none 0 0] from Blk.new _ _ _)
    have HGE := Lib.hid (show W1.heap.size ≤ W1.heap.size from ((Below.refl W1.heap.size W1).drew).size)
    have HBg := Lib.hid (((Below.refl W1.heap.size W1).drew).trans (hb.mono ((Below.refl W1.heap.size W1).drew).size))
    clear hb
    refine hK9 _ _ (fun _ => HBg.out) ?_
    clear hK9 K9
    try go_frame
    try simp only [beside, List.filterMap_nil]
    refine wpY_es (fun K9 hK9 => ?_)
    go_simp
    refine (cp_Trace A1 c1 r.elems _ (R1.out.new_ (HB1.out.trans ((HBg.out).mono (by have := HZ1.out; omega)))) (by omega)).mono ?_
    rintro e w1 ⟨E1, d1, rfl, ho, hA, hb⟩
    have HK := Lib.hid (HK.out.new_ hb)
    have HO1 := Lib.hid ho
    have HA1 := Lib.hid (hA.mono (fun j hj => (⟨Nat.le_trans (HBg.out).size hj.1, hj.2⟩ : NewD W1.heap.size w1 j)))
    have HB1x := Lib.hid ((HBg.out).trans (hb.mono (HBg.out).size))
    clear ho hA hb
    refine hK9 _ _ (HB1x.out) ?_
    clear hK9 K9
    try go_frame
    refine wpY_es (fun K9 hK9 => ?_)
    go_simp
    refine (cp_Apart A3 c3 r.aparts _ (R3.out.new_ (HB1.out.trans ((HB1x.out).mono (by have := HZ1.out; omega)))) (by omega)).mono ?_
    rintro e w3 ⟨E3, d3, rfl, ho, hA, hb⟩
    have HO1 := Lib.hid (ownsRow_new HO1.out hb)
    have HA1 := Lib.hid (HA1.out.mono (fun j hj => NewD.up (Nat.le_refl _) (hb).size j hj))
    have HK := Lib.hid (HK.out.new_ hb)
    have HO3 := Lib.hid ho
    have HA3 := Lib.hid (hA.mono (fun j hj => (⟨Nat.le_trans (HB1x.out).size hj.1, hj.2⟩ : NewD W1.heap.size w3 j)))
    have HB3x := Lib.hid ((HB1x.out).trans (hb.mono (HB1x.out).size))
    clear ho hA hb
    refine hK9 _ _ (HB3x.out) ?_
    clear hK9 K9
    try go_frame
    refine wpY_es (fun K9 hK9 => ?_)
    go_simp
    refine (cp_Sym A4 c4 r.news _ (R4.out.new_ (HB1.out.trans ((HB3x.out).mono (by have := HZ1.out; omega)))) (by omega)).mono ?_
    rintro e w4 ⟨E4, d4, rfl, ho, hA, hb⟩
    have HO1 := Lib.hid (ownsRow_new HO1.out hb)
    have HA1 := Lib.hid (HA1.out.mono (fun j hj => NewD.up (Nat.le_refl _) (hb).size j hj))
    have HO3 := Lib.hid (ownsRow_new HO3.out hb)
    have HA3 := Lib.hid (HA3.out.mono (fun j hj => NewD.up (Nat.le_refl _) (hb).size j hj))
    have HK := Lib.hid (HK.out.new_ hb)
    have HO4 := Lib.hid ho
    have HA4 := Lib.hid (hA.mono (fun j hj => (⟨Nat.le_trans (HB3x.out).size hj.1, hj.2⟩ : NewD W1.heap.size w4 j)))
    have HB4x := Lib.hid ((HB3x.out).trans (hb.mono (HB3x.out).size))
    clear ho hA hb
    refine hK9 _ _ (HB4x.out) ?_
    clear hK9 K9
    try go_frame
    repeat ((first | (refine wpY_w ?_ (Or.inl ⟨by rfl, fun w9 => ?_⟩) ?_; rotate_left 1; go_simp; with_reducible rfl) | (refine wpY_l ?_ (HB4x.out) (Or.inl ⟨by rfl, fun w9 hw9 => ?_⟩) ?_; rotate_left 1; obtain ⟨hc9, hf9⟩ := bcell hw9; go_simp; with_reducible rfl) | refine wpY_w undef (Or.inr ⟨by rfl, rfl⟩) ?_ | refine wpY_l undef (HB4x.out) (Or.inr ⟨by rfl, rfl⟩) ?_); go_frame)
    refine wpY_es (fun K9 hK9 => ?_)
    refine step_store_el rfl 47 _ _ rfl W1.heap.size 0 #[Value.int IntKind.i64 r.num, Value.int IntKind.i64 r.level, Value.slice E1 r.elems.length d1, Value.slice none 0 0, Value.slice E3 r.aparts.length d3, Value.slice E4 r.news.length d4] rfl rfl (show _ from HK.out.there) (by kernel_rfl) (by kernel_rfl) ?_
    refine hK9 _ _ (Below.setCells' _ _ (HB4x.out) HGE.out) ?_
    clear hK9 K9
    try go_frame
    refine wpY_nil ?_
    simp only [OnlyN_normal]
    refine hKK _ _ ?_
    clear hKK KK
    go_wp2_with fail
    go_meet
    case rel => exact ⟨W1.heap.size, E1, d1, E3, d3, E4, d4, rfl, HGE.out, HK.out.setAll rfl, Below.setCells' _ _ (HB4x.out) HGE.out, ⟨own_setCells HO1.out HK.out (by decide) _ _, HA1.out.mono (fun j hj => ⟨hj.1, by rw [size_setCells]; exact hj.2⟩)⟩, ⟨own_setCells HO3.out HK.out (by decide) _ _, HA3.out.mono (fun j hj => ⟨hj.1, by rw [size_setCells]; exact hj.2⟩)⟩, ⟨own_setCells HO4.out HK.out (by decide) _ _, HA4.out.mono (fun j hj => ⟨hj.1, by rw [size_setCells]; exact hj.2⟩)⟩⟩
 case rest =>
  obtain ⟨g, E1, d1, E3, d3, E4, d4, rfl, hg, hG, hB, ⟨o1, a1⟩, ⟨o3, a3⟩, ⟨o4, a4⟩⟩ := hcut
  have t1 := RowR.of_rd (hs := TraceT.cells_length) (ownsRow_rd TraceT.cells_length o1) (ain_ne o1 hG (by decide) a1)
  have t3 := RowR.of_rd (hs := ApartT.cells_length) (ownsRow_rd ApartT.cells_length o3) (ain_ne o3 hG (by decide) a3)
  have t4 := RowR.of_rd (hs := Sym.cells_length) (ownsRow_rd Sym.cells_length o4) (ain_ne o4 hG (by decide) a4)
  have h0 : RH n g r W1 E1 d1 E3 d3 E4 d4 0 none 0 wc := ⟨hG, _, fun h => h.2 rfl, fun j hj => hj.1, hg, t1, t3, t4, OwnC.nil _ _ _ _, AIn.none_ _, hB⟩
  have H0 := Lib.hid h0
  clear t1 t3 t4 o1 o3 o4 a1 a3 a4 p0 p1 p2 p3 p4 p5 hG hB h0
  go_wp2_with fail
  go_loopw [4] (fun i wr => ∃ (k : Nat) (A : Option Addr) (c : Nat), i = .int .i64 k ∧ k ≤ r.holes.length ∧ RH n g r W1 E1 d1 E3 d3 E4 d4 k A c wr) (fun i wr => r.holes.length - (intOf i).toNat)
  case atStart => exact ⟨0, none, 0, rfl, Nat.zero_le _, H0.out⟩
  case round =>
   obtain ⟨k, A, c, rfl, hk, hRH⟩ := hrel
   obtain ⟨hG, C, hCg, hC, _, t1, t3, t4, hO, hA, hB⟩ := hRH
   have hzr := hB.size
   have hX := HX1.out.below hB (by have := HZ1.out; omega)
   obtain ⟨m0, m1, m2, m3, m4, m5⟩ := hX.c6
   obtain ⟨n0, n1, n2, n3, n4, n5⟩ := hG.c6
   have hgl := hG.lt
   have hxl := hX.lt
   by_cases hlt : k < r.holes.length
   · have hrw := (R2.out.new_ HB1.out).keep (D' := D) hB.size (fun j hj hl => ⟨hj, hB.block j hl⟩)
     obtain ⟨gh, oh, Ay1, cy1, Ay2, cy2, Ay3, cy3, Ay4, cy4, hA0, hDg, hgh, q0, q1, q2, q3, q4, q5, q6, q7, hy1, hy2, hy3, hy4⟩ := at_HoleT hrw hlt
     subst hA0
     obtain ⟨y, hy⟩ : ∃ y, y = r.holes[k] := ⟨_, rfl⟩
     have hys : SmH n y := by rw [hy]; exact HS.out _ (List.getElem_mem hlt)
     rw [← hy] at q0 q1 q2 q3 q4 q5 q6 q7 hy1 hy2 hy3 hy4
     have b1 : (0 : Int) ≤ (k : Int) := by omega
     have b2 : (k : Int) < (r.holes.length : Int) := by omega
     have HY := Lib.hid hy
     have HY1 := Lib.hid hy1
     have HY2 := Lib.hid hy2
     have HY3 := Lib.hid hy3
     have HY4 := Lib.hid (RowR.rd (hs := BindT.cells_length) hy4)
     have HYS := Lib.hid hys
     have HG := Lib.hid hG
     have HC := Lib.hid hC
     have HO := Lib.hid hO
     have HST := Lib.hid (show ∀ W7 w8 A' c', Below wr.heap.size wr W7 → Appended (repHoleT n) 76 (Plus C wr W7) W7 (.slice A (r.holes.take k).length c) (r.holes.take k ++ [y]) (.slice A' (k + 1) c') w8 → RH n g r W1 E1 d1 E3 d3 E4 d4 (k + 1) A' c' (w8.setCell ⟨g, 3, none⟩ (.slice A' (k + 1) c')) from
      fun W7 w8 A' c' h7 ha => RH.step hG hCg hC hg t1 t3 t4 hO hA hB (by omega) (by rw [hy]; exact take_snoc hlt) h7 ha)
     clear hy hrw hy1 hy2 hy3 hy4 hys hG hCg hC t1 t3 t4 hO hA hB hX
     go_wp2_with fail
     refine wp_region_E (fun w9 => Below wr.heap.size wr w9) [(0, 0), (1, 1), (2, 0), (3, 1), (4, 0), (5, 0), (6, 0), (7, 1), (9, 0), (10, 1), (11, 0), (12, 0), (13, 0), (14, 1), (8, 2), (15, 2), (16, 0), (17, 2), (18, 2), (19, 0), (20, 2)] (by kernel_rfl) (by kernel_rfl) (fun KK hKK => ?_)
     simp only [beside, List.filterMap_cons, List.filterMap_nil, List.getElem?_toArray, List.getElem?_cons_zero, List.getElem?_cons_succ, Option.map_some]
     repeat ((first | (refine wpX_w ?_ (Or.inl ⟨by rfl, fun w9 => ?_⟩) ?_; rotate_left 1; go_simp; with_reducible rfl) | (refine wpX_l ?_ (((Below.refl _ _).drew)) (Or.inl ⟨by rfl, fun w9 hw9 => ?_⟩) ?_; rotate_left 1; obtain ⟨hc9, hf9⟩ := bcell hw9; go_simp; with_reducible rfl) | refine wpX_w undef (Or.inr ⟨by rfl, rfl⟩) ?_ | refine wpX_l undef (((Below.refl _ _).drew)) (Or.inr ⟨by rfl, rfl⟩) ?_); go_frame)
     refine wpX_es (fun K9 hK9 => ?_)
     go_simp
     refine (kcond_is n y.cond Ay1 cy1 Ay2 cy2 Ay3 cy3 D _ (HY1.out.new_ ((Below.refl _ _).drew)) (HY2.out.new_ ((Below.refl _ _).drew)) (HY3.out.new_ ((Below.refl _ _).drew)) HYS.out.1).mono ?_
     rintro e wa ⟨Az1, cz1, Az2, cz2, Az3, cz3, rfl, g1, g2, g3, hba⟩
     have HBa := Lib.hid (show Below wr.heap.size wr wa from ((Below.refl wr.heap.size wr).drew).trans hba)
     have G1 := Lib.hid g1
     have G2 := Lib.hid g2
     have G3 := Lib.hid g3
     clear g1 g2 g3 hba
     refine hK9 _ _ HBa.out ?_
     clear hK9 K9
     refine wpX_es (fun K9 hK9 => ?_)
     go_simp
     refine (cp_Bind Ay4 cy4 y.binds _ (HY4.out.new_ HBa.out) (by have := HYS.out.2; omega)).mono ?_
     rintro e wb ⟨Az4, cz4, rfl, ho, hA4, hbb⟩
     have HBb := Lib.hid (HBa.out.trans (hbb.mono HBa.out.size))
     have G4 := Lib.hid ((RowR.of_rd (hs := BindT.cells_length) (ownsRow_rd BindT.cells_length ho) hA4).weaken (fun j hj => (⟨Nat.le_trans HBa.out.size hj.1, hj.2⟩ : NewD wr.heap.size wb j)))
     have G1 := Lib.hid (G1.out.newD hbb (Nat.le_refl _))
     have G2 := Lib.hid (G2.out.newD hbb (Nat.le_refl _))
     have G3 := Lib.hid (G3.out.newD hbb (Nat.le_refl _))
     clear ho hA4 hbb
     refine hK9 _ _ HBb.out ?_
     clear hK9 K9
     repeat ((first | (refine wpX_w ?_ (Or.inl ⟨by rfl, fun w9 => ?_⟩) ?_; rotate_left 1; go_simp; with_reducible rfl) | (refine wpX_l ?_ (HBb.out) (Or.inl ⟨by rfl, fun w9 hw9 => ?_⟩) ?_; rotate_left 1; obtain ⟨hc9, hf9⟩ := bcell hw9; go_simp; with_reducible rfl) | refine wpX_w undef (Or.inr ⟨by rfl, rfl⟩) ?_ | refine wpX_l undef (HBb.out) (Or.inr ⟨by rfl, rfl⟩) ?_); go_frame)
     refine wpX_es (fun K9 hK9 => ?_)
     go_simp
     have HB7 := Lib.hid (HBb.out.alloc HBb.out.size (.cells #[.int .i64 y.cond.kind, .bool y.cond.goal, .string y.cond.id, .slice Az1 y.cond.attr.length cz1, .slice Az2 y.cond.value.length cz2, .bool y.cond.acc, .slice Az3 y.cond.conds.length cz3, .slice Az4 y.binds.length cz4] 76))
     refine hK9 _ _ HB7.out ?_
     clear hK9 K9
     refine wpX_e (by kernel_rfl) (fun K9 hK9 => ?_)
     have h9 : Below wb.heap.size wb (wb.alloc (.cells #[.int .i64 y.cond.kind, .bool y.cond.goal, .string y.cond.id, .slice Az1 y.cond.attr.length cz1, .slice Az2 y.cond.value.length cz2, .bool y.cond.acc, .slice Az3 y.cond.conds.length cz3, .slice Az4 y.binds.length cz4] 76)) := (Below.refl _ _).alloc (Nat.le_refl _) _
     have up : ∀ j, NewD wr.heap.size wb j → j < wb.heap.size → (Plus C wr (wb.alloc (.cells #[.int .i64 y.cond.kind, .bool y.cond.goal, .string y.cond.id, .slice Az1 y.cond.attr.length cz1, .slice Az2 y.cond.value.length cz2, .bool y.cond.acc, .slice Az3 y.cond.conds.length cz3, .slice Az4 y.binds.length cz4] 76))) j ∧ ((wb.alloc (.cells #[.int .i64 y.cond.kind, .bool y.cond.goal, .string y.cond.id, .slice Az1 y.cond.attr.length cz1, .slice Az2 y.cond.value.length cz2, .bool y.cond.acc, .slice Az3 y.cond.conds.length cz3, .slice Az4 y.binds.length cz4] 76))).heap[j]? = wb.heap[j]? := fun j hj hl => ⟨.inr ⟨hj.1, by simp; omega⟩, h9.block j hl⟩
     have hrep7 := rep_hole (n := n) (y := y) (G1.out.keep h9.size up) (G2.out.keep h9.size up) (G3.out.keep h9.size up) (G4.out.keep h9.size up)
     have hown7 := HO.out.plus HB7.out
     have hcl : ∀ j, Plus C wr (wb.alloc (.cells #[.int .i64 y.cond.kind, .bool y.cond.goal, .string y.cond.id, .slice Az1 y.cond.attr.length cz1, .slice Az2 y.cond.value.length cz2, .bool y.cond.acc, .slice Az3 y.cond.conds.length cz3, .slice Az4 y.binds.length cz4] 76)) j → j < ((wb.alloc (.cells #[.int .i64 y.cond.kind, .bool y.cond.goal, .string y.cond.id, .slice Az1 y.cond.attr.length cz1, .slice Az2 y.cond.value.length cz2, .bool y.cond.acc, .slice Az3 y.cond.conds.length cz3, .slice Az4 y.binds.length cz4] 76))).heap.size := fun j hj => by
      rcases hj with hj | hj
      · have := (HC.out j hj).2; have := HB7.out.size; omega
      · exact hj.2
     have h63 : (r.holes.take k).length + 1 ≤ maxLen := by rw [take_len hk]; unfold maxLen; omega
     have hby : ((r.holes.take k).length + 1) * 136 ≤ 140737488355328 := by rw [take_len hk]; omega
     have hv : Value.slice A k c = .slice A (r.holes.take k).length c := by rw [take_len hk]
     refine step_append_C _ rfl _ _ 28 rfl 76 j0 _ 8 136 Try.underlying28 hj0 hy0 hyy1 hyy2 rfl rfl (by omega) (Plus C wr (wb.alloc (.cells #[.int .i64 y.cond.kind, .bool y.cond.goal, .string y.cond.id, .slice Az1 y.cond.attr.length cz1, .slice Az2 y.cond.value.length cz2, .bool y.cond.acc, .slice Az3 y.cond.conds.length cz3, .slice Az4 y.binds.length cz4] 76))) hcl (.slice A (r.holes.take k).length c) (r.holes.take k) hv hown7 ⟨wb.heap.size, 0, none⟩ 1 y [.int .i64 y.cond.kind, .bool y.cond.goal, .string y.cond.id, .slice Az1 y.cond.attr.length cz1, .slice Az2 y.cond.value.length cz2, .bool y.cond.acc, .slice Az3 y.cond.conds.length cz3, .slice Az4 y.binds.length cz4] rfl (World.news_of_block (heap_alloc_new _ _)) (by intro u hu; simp only [List.mem_cons, List.not_mem_nil, or_false] at hu; rcases hu with rfl | rfl | rfl | rfl | rfl | rfl | rfl | rfl <;> rfl) hrep7 h63 hby ?_
     intro v' w8 hap
     obtain ⟨A', c', hv', -, -, -⟩ := hap.1.form
     have hlen1 : (r.holes.take k ++ [y]).length = k + 1 := by rw [List.length_append, take_len hk]; rfl
     rw [hlen1] at hv'
     subst hv'
     have hne := own_blk_ne (Classical.choose_spec HO.out).1 HG.out (by decide)
     have hG8 := (HG.out.new_ HB7.out).grown hap.2.1 hne
     have HAP := Lib.hid hap
     have u3 := (hG8.cell 3).trans rfl
     have f3 := hG8.frozen 3
     have hgl8 := hG8.lt
     clear h9 up hrep7 hown7 hcl h63 hby hv hlen1 hap hne hG8
     refine hK9 _ _ ?_
     clear hK9 K9
     repeat ((first | (refine wpX_w ?_ (Or.inl ⟨by rfl, fun w9 => ?_⟩) ?_; rotate_left 1; go_simp; with_reducible rfl) | (refine wpX_l ?_ (HB7.out) (Or.inl ⟨by rfl, fun w9 hw9 => ?_⟩) ?_; rotate_left 1; obtain ⟨hc9, hf9⟩ := bcell hw9; go_simp; with_reducible rfl) | refine wpX_w undef (Or.inr ⟨by rfl, rfl⟩) ?_ | refine wpX_l undef (HB7.out) (Or.inr ⟨by rfl, rfl⟩) ?_); go_frame)
     refine wpX_e (by kernel_rfl) (fun K9 hK9 => ?_)
     go_simp
     refine hK9 _ _ ?_
     clear hK9 K9
     refine wpX_nil ?_
     simp only [OnlyN_normal]
     refine hKK _ _ ?_
     clear hKK KK
     go_wp2_with fail
     go_roundw
     case rel => exact ⟨k + 1, A', c', by go_num, by omega, HST.out _ _ _ _ HB7.out HAP.out⟩
     case measure => simp [intOf]; omega
   · obtain rfl : k = r.holes.length := by omega
     have hTe := RH.fin rfl hC t1 t3 t4 hO hA
     have hR := HR1.out.below hB (by have := HZ1.out; omega)
     have hxn : w.heap.size + 1 ≠ g := by have := HZ1.out; omega
     have HB9 := Lib.hid (HB1.out.trans (hB.mono (by have := HZ1.out; omega)))
     have HT9 := Lib.hid (show wr.there (w.heap.size + 1) 0 (#[Value.int IntKind.i64 r.num, Value.int IntKind.i64 r.level, Value.slice E1 r.elems.length d1, Value.slice A r.holes.length c, Value.slice E3 r.aparts.length d3, Value.slice E4 r.news.length d4] : Array Value).size from hR.there)
     have HRG := Lib.hid (show wr.rangeAt g 0 [Value.int IntKind.i64 r.num, Value.int IntKind.i64 r.level, Value.slice E1 r.elems.length d1, Value.slice A r.holes.length c, Value.slice E3 r.aparts.length d3, Value.slice E4 r.news.length d4] from by have := hG.range; exact this)
     have hrl := hR.lt
     have l9 := hTe.keep (w' := wr.setCells (w.heap.size + 1) 0 [Value.int IntKind.i64 r.num, Value.int IntKind.i64 r.level, Value.slice E1 r.elems.length d1, Value.slice A r.holes.length c, Value.slice E3 r.aparts.length d3, Value.slice E4 r.news.length d4]) (D' := NewD w.heap.size (wr.setCells (w.heap.size + 1) 0 [Value.int IntKind.i64 r.num, Value.int IntKind.i64 r.level, Value.slice E1 r.elems.length d1, Value.slice A r.holes.length c, Value.slice E3 r.aparts.length d3, Value.slice E4 r.news.length d4])) (by rw [size_setCells]; omega) (fun j hj hl => ⟨⟨by have := hj.1; have := HZ1.out; omega, by rw [size_setCells]; omega⟩, blk_setCells _ _ _ _ _ (by have := hj.1; have := HZ1.out; omega)⟩)
     have L9 := Lib.hid l9
     clear hTe hR l9 hG hCg hC t1 t3 t4 hO hA hB hX
     go_upto_region 6 with fail
     go_wp2_with (first | (with_reducible refine wpList_load_mid rfl 47 _ rfl g 0 rfl [Value.int IntKind.i64 r.num, Value.int IntKind.i64 r.level, Value.slice E1 r.elems.length d1, Value.slice A r.holes.length c, Value.slice E3 r.aparts.length d3, Value.slice E4 r.news.length d4] _ HRG.out Try.underlying47 rfl (by kernel_rfl) ?_) | (with_reducible refine wpList_store_mid rfl 47 _ _ rfl (w.heap.size + 1) 0 #[Value.int IntKind.i64 r.num, Value.int IntKind.i64 r.level, Value.slice E1 r.elems.length d1, Value.slice A r.holes.length c, Value.slice E3 r.aparts.length d3, Value.slice E4 r.news.length d4] rfl rfl HT9.out (by kernel_rfl) (by kernel_rfl) ?_))
     try simp only [Exit.inBlock, Exit.then]
     have hBe : Below w.heap.size w (wr.setCells (w.heap.size + 1) 0 [Value.int IntKind.i64 r.num, Value.int IntKind.i64 r.level, Value.slice E1 r.elems.length d1, Value.slice A r.holes.length c, Value.slice E3 r.aparts.length d3, Value.slice E4 r.news.length d4]) := Below.setCells' _ _ HB9.out (by omega)
     refine bodyPost_ret (v := .agg #[.int .i64 r.num, .int .i64 r.level, .slice E1 r.elems.length d1, .slice A r.holes.length c, .slice E3 r.aparts.length d3, .slice E4 r.news.length d4]) ?_ rfl ⟨E1, d1, A, c, E3, d3, E4, d4, rfl, L9.out, hBe⟩
     exact results_cell (t := 2) (T := 47) rfl _ _ (w.heap.size + 1) [Value.int IntKind.i64 r.num, Value.int IntKind.i64 r.level, Value.slice E1 r.elems.length d1, Value.slice A r.holes.length c, Value.slice E3 r.aparts.length d3, Value.slice E4 r.news.length d4] _ rfl (World.rangeAt_setCells_same wr (w.heap.size + 1) 0 [Value.int IntKind.i64 r.num, Value.int IntKind.i64 r.level, Value.slice E1 r.elems.length d1, Value.slice A r.holes.length c, Value.slice E3 r.aparts.length d3, Value.slice E4 r.news.length d4] HT9.out) Try.underlying47 rfl (by kernel_rfl)
end Go.Proofs.Ytnfgilbaglfkeaa
namespace Go.Proofs.Ytnfgilbaglfkeaa
open Go.RowKit
def zRec : RecordT := ⟨0, 0, [], [], [], []⟩
def lookR (l : List RecordT) (k : Int) : RecordT × Bool := match l.find? (fun r => r.num == k) with | some r => (r, true) | none => (zRec, false)
theorem lookR_is {l : List RecordT} {k : Int} {i : Nat} (hi : i < l.length) (hk : l[i].num = k) (hj : ∀ j, (h : j < l.length) → j < i → l[j].num ≠ k) : lookR l k = (l[i], true) := by
 have : l.find? (fun r => r.num == k) = some l[i] := by
  rw [List.find?_eq_some_iff_getElem]
  exact ⟨by simpa using hk, i, hi, rfl, fun j h => by simpa using hj j (by omega) h⟩
 unfold lookR; rw [this]
theorem lookR_no {l : List RecordT} {k : Int} (hj : ∀ j, (h : j < l.length) → l[j].num ≠ k) : lookR l k = (zRec, false) := by
 have : l.find? (fun r => r.num == k) = none := by
  rw [List.find?_eq_none]
  intro x hx
  obtain ⟨j, h, rfl⟩ := List.getElem_of_mem hx
  simpa using hj j h
 unfold lookR; rw [this]
theorem lookR_num {l : List RecordT} {k : Int} (h : (lookR l k).2 = true) : (lookR l k).1 ∈ l ∧ (lookR l k).1.num = k := by
 unfold lookR at h ⊢
 cases hf : l.find? (fun r => r.num == k) with
 | none => rw [hf] at h; cases h
 | some r => exact ⟨List.mem_of_find?_eq_some hf, by simpa using List.find?_some hf⟩
theorem lookR_none {l : List RecordT} {k : Int} (h : (lookR l k).2 = false) : (lookR l k).1 = zRec := by
 unfold lookR at h ⊢
 cases hf : l.find? (fun r => r.num == k) with
 | none => rfl
 | some r => rw [hf] at h; cases h
def Ans (n : Nat) (x : RecordT × Bool) (D : Nat → Prop) (e : Ending) (w' : World) : Prop :=
 ∃ A1 c1 A2 c2 A3 c3 A4 c4, e = .returned (.tuple #[.agg #[.int .i64 x.1.num, .int .i64 x.1.level, .slice A1 x.1.elems.length c1, .slice A2 x.1.holes.length c2, .slice A3 x.1.aparts.length c3, .slice A4 x.1.news.length c4], .bool x.2]) ∧ RecAt n D w' x.1 A1 c1 A2 c2 A3 c3 A4 c4
structure FindSpec (n B : Nat) (gf : Nat) (lb : Array Value) (look : Int → RecordT × Bool) (G : (Nat → Prop) → List Int → World → Prop) : Prop where
 enter : ∀ args w, (callFunc gf args).run Try.prog w = .ok (.enter gf args) w
 lt : ∀ {E ks w}, G E ks w → ∀ k, E k → k < w.heap.size
 steady : ∀ {E : Nat → Prop} {ks : List Int} {w w' : World} {M : Nat → Prop}, G E ks w → Fr M w w' → (∀ k, M k → ¬ E k ∧ B ≤ k) → G E ks w'
 call : ∀ {E ks w} (k : Int), ks.length ≤ 100000 → k ∉ ks → G E ks w → Calls Try.prog gf (#[.int .i64 k] ++ lb) w fun e w' => ∃ E', G E' (ks ++ [k]) w' ∧ (∀ j, E' j → Plus E w w' j) ∧ Fr E w w' ∧ Ans n (look k) (fun j => NewD w.heap.size w' j ∧ ¬ E' j) e w'
theorem FindSpec.up {n B B' gf : Nat} {lb : Array Value} {look : Int → RecordT × Bool} {G : (Nat → Prop) → List Int → World → Prop} (h : FindSpec n B gf lb look G) (hB : B ≤ B') : FindSpec n B' gf lb look G :=
 ⟨h.enter, h.lt, fun hG hF hM => h.steady hG hF (fun k hk => ⟨(hM k hk).1, Nat.le_trans hB (hM k hk).2⟩), h.call⟩
theorem recat0 {n : Nat} (D : Nat → Prop) (w : World) : RecAt n D w zRec none 0 none 0 none 0 none 0 := ⟨RowR.nil _ _ _, RowR.nil _ _ _, RowR.nil _ _ _, RowR.nil _ _ _⟩
set_option maxRecDepth 100000 in
set_option maxHeartbeats 8000000 in
theorem find1_is (n kb : Nat) (l : List RecordT) (A : Option Addr) (c : Nat) {D : Nat → Prop} (k : Int) (w : World) (hkb : Blk w kb 23 #[.slice A l.length c]) (hrd : RowR (repRecordT n) D w A c l) (hs : ∀ r ∈ l, SmR n r) :
 Calls Try.prog 47 #[.int .i64 k, .pointer (some ⟨kb, 0, none⟩)] w fun e w' => Below w.heap.size w w' ∧ Ans n (lookR l k) (NewD w.heap.size w') e w' := by
 have hlc := hrd.cap
 have HR := Lib.hid hrd
 have HS := Lib.hid hs
 have HKB := Lib.hid hkb
 have hkl := hkb.lt
 clear hrd hs hkb
 go_enter Try.func47, Try.ntmps47
 go_upto_region 1 with fail
 obtain ⟨W1, hW1⟩ : ∃ W1, W1 = w.alloc (.cells #[.int .i64 0, .int .i64 0, .slice none 0 0, .slice none 0 0, .slice none 0 0, .slice none 0 0] 47) := ⟨_, rfl⟩
 have hB1 : Below w.heap.size w W1 := by rw [hW1]; exact (Below.refl _ _).alloc (Nat.le_refl _) _
 have hX1 : Blk W1 w.heap.size 47 #[.int .i64 0, .int .i64 0, .slice none 0 0, .slice none 0 0, .slice none 0 0, .slice none 0 0] := by rw [hW1]; exact Blk.new _ _ _
 have hz1 : W1.heap.size = w.heap.size + 1 := by rw [hW1]; simp
 rw [← hW1]
 clear hW1
 have HB1 := Lib.hid hB1
 have HX1 := Lib.hid hX1
 have HZ1 := Lib.hid hz1
 clear hB1 hX1 hz1
 go_wp2_with fail
 go_loopw [5] (fun i wr => ∃ m : Nat, i = .int .i64 m ∧ m ≤ l.length ∧ (∀ j, (h : j < l.length) → j < m → l[j].num ≠ k) ∧ Below W1.heap.size W1 wr) (fun i wr => l.length - (intOf i).toNat)
 case atStart => exact ⟨0, rfl, Nat.zero_le _, fun j _ h => absurd h (by omega), Below.refl _ _⟩
 case round =>
  obtain ⟨m, rfl, hm, hno, hB⟩ := hrel
  have hzr := hB.size
  have hBB : Below w.heap.size w wr := HB1.out.trans (hB.mono (by have := HZ1.out; omega))
  have x0 := (HKB.out.new_ hBB).c1
  have hkl2 := (HKB.out.new_ hBB).lt
  have hX := HX1.out.new_ hB
  have hxl := hX.lt
  have HNO := Lib.hid hno
  by_cases hlt : m < l.length
  · obtain ⟨g, off, Ay1, cy1, Ay2, cy2, Ay3, cy3, Ay4, cy4, hA0, hDg, hg, q0, q1, q2, q3, q4, q5, r1, r2, r3, r4⟩ := at_RecordT (HR.out.new_ hBB) hlt
    subst hA0
    have hys : SmR n l[m] := HS.out _ (List.getElem_mem hlt)
    obtain ⟨y, hy⟩ : ∃ y, y = l[m] := ⟨_, rfl⟩
    rw [← hy] at q0 q1 q2 q3 q4 q5 r1 r2 r3 r4 hys
    have b1 : (0 : Int) ≤ (m : Int) := by omega
    have b2 : (m : Int) < (l.length : Int) := by omega
    have HY := Lib.hid hy
    have HRA := Lib.hid (show RecAt n D wr y Ay1 cy1 Ay2 cy2 Ay3 cy3 Ay4 cy4 from ⟨r1, r2, r3, r4⟩)
    have HYS := Lib.hid hys
    have HB := Lib.hid hB
    have HBB := Lib.hid hBB
    have HX := Lib.hid hX
    clear hy hys r1 r2 r3 r4 hB hBB hX hno
    by_cases hk : y.num = k
    · have t1 : (y.num == k) = true := by simpa using hk
      have HK := Lib.hid hk
      clear hk
      go_wp2_with fail
      refine (cprec_is n y Ay1 cy1 Ay2 cy2 Ay3 cy3 Ay4 cy4 wr HRA.out HYS.out).mono ?_
      rintro e w5 ⟨Az1, cz1, Az2, cz2, Az3, cz3, Az4, cz4, rfl, hra, hB5⟩
      have hX5 := HX.out.new_ hB5
      have HT := Lib.hid (show w5.there w.heap.size 0 (#[Value.int IntKind.i64 y.num, Value.int IntKind.i64 y.level, Value.slice Az1 y.elems.length cz1, Value.slice Az2 y.holes.length cz2, Value.slice Az3 y.aparts.length cz3, Value.slice Az4 y.news.length cz4] : Array Value).size from hX5.there)
      have hxl5 := hX5.lt
      have HB5 := Lib.hid hB5
      have hzb := hB5.size
      have HRA5 := Lib.hid hra
      clear hB5 hra hX5 x0 q0 q1 q2 q3 q4 q5
      go_wp2_with (with_reducible refine wpList_store_mid rfl 47 _ _ rfl w.heap.size 0 #[Value.int IntKind.i64 y.num, Value.int IntKind.i64 y.level, Value.slice Az1 y.elems.length cz1, Value.slice Az2 y.holes.length cz2, Value.slice Az3 y.aparts.length cz3, Value.slice Az4 y.news.length cz4] rfl rfl HT.out (by kernel_rfl) (by kernel_rfl) ?_)
      try simp only [Exit.inBlock, Exit.then]
      refine bodyPost_ret (v := .tuple #[.agg #[.int .i64 y.num, .int .i64 y.level, .slice Az1 y.elems.length cz1, .slice Az2 y.holes.length cz2, .slice Az3 y.aparts.length cz3, .slice Az4 y.news.length cz4], .bool true]) ?_ rfl ⟨Below.setCells' _ _ (HBB.out.trans (HB5.out.mono (by have := HBB.out.size; omega))) (Nat.le_refl _), ?_⟩
      · exact results_cell_tmp (t := 3) (s := 4) (T := 47) rfl _ _ w.heap.size [Value.int IntKind.i64 y.num, Value.int IntKind.i64 y.level, Value.slice Az1 y.elems.length cz1, Value.slice Az2 y.holes.length cz2, Value.slice Az3 y.aparts.length cz3, Value.slice Az4 y.news.length cz4] _ rfl (World.rangeAt_setCells_same w5 w.heap.size 0 [Value.int IntKind.i64 y.num, Value.int IntKind.i64 y.level, Value.slice Az1 y.elems.length cz1, Value.slice Az2 y.holes.length cz2, Value.slice Az3 y.aparts.length cz3, Value.slice Az4 y.news.length cz4] HT.out) Try.underlying47 rfl (by kernel_rfl)
      · have e := HY.out
        rw [lookR_is hlt (by rw [← e]; exact HK.out) HNO.out, ← e]
        exact ⟨Az1, cz1, Az2, cz2, Az3, cz3, Az4, cz4, rfl, HRA5.out.keep (by rw [size_setCells]; omega) (fun j hj hl => ⟨⟨by have := hj.1; omega, by rw [size_setCells]; omega⟩, blk_setCells _ _ _ _ _ (by have := hj.1; have := HZ1.out; omega)⟩)⟩
    · have t1 : (y.num == k) = false := by simpa using hk
      have HK := Lib.hid hk
      clear hk
      go_wp2_with fail
      go_roundw
      case rel =>
       refine ⟨m + 1, by go_num, by omega, fun j h hj => ?_, HB.out⟩
       rcases Nat.lt_or_ge j m with h2 | h2
       · exact HNO.out j h h2
       · obtain rfl : j = m := by omega
         rw [← HY.out]; exact HK.out
      case measure => simp [intOf]; omega
  · obtain rfl : m = l.length := by omega
    have HT := Lib.hid (show wr.there w.heap.size 0 (#[Value.int IntKind.i64 0, Value.int IntKind.i64 0, Value.slice none 0 0, Value.slice none 0 0, Value.slice none 0 0, Value.slice none 0 0] : Array Value).size from hX.there)
    have HBB := Lib.hid hBB
    clear hB hBB hX hno
    go_wp2_with (with_reducible refine wpList_store_mid rfl 47 _ _ rfl w.heap.size 0 #[Value.int IntKind.i64 0, Value.int IntKind.i64 0, Value.slice none 0 0, Value.slice none 0 0, Value.slice none 0 0, Value.slice none 0 0] rfl rfl HT.out (by kernel_rfl) (by kernel_rfl) ?_)
    try simp only [Exit.inBlock, Exit.then]
    refine bodyPost_ret (v := .tuple #[.agg #[.int .i64 0, .int .i64 0, .slice none 0 0, .slice none 0 0, .slice none 0 0, .slice none 0 0], .bool false]) ?_ rfl ⟨Below.setCells' _ _ HBB.out (Nat.le_refl _), ?_⟩
    · exact results_cell_tmp (t := 3) (s := 4) (T := 47) rfl _ _ w.heap.size [Value.int IntKind.i64 0, Value.int IntKind.i64 0, Value.slice none 0 0, Value.slice none 0 0, Value.slice none 0 0, Value.slice none 0 0] _ rfl (World.rangeAt_setCells_same wr w.heap.size 0 [Value.int IntKind.i64 0, Value.int IntKind.i64 0, Value.slice none 0 0, Value.slice none 0 0, Value.slice none 0 0, Value.slice none 0 0] HT.out) Try.underlying47 rfl (by kernel_rfl)
    · rw [lookR_no (fun j h => HNO.out j h h)]
      exact ⟨none, 0, none, 0, none, 0, none, 0, rfl, recat0 _ _⟩
set_option maxHeartbeats 400000 in
theorem mkfind_is (l : List RecordT) (A : Option Addr) (c : Nat) (w : World) :
 Calls Try.prog 13 #[.slice A l.length c] w fun e w' => e = .returned (.func (.func 47) #[] #[.pointer (some ⟨w.heap.size, 0, none⟩)]) ∧ Below w.heap.size w w' ∧ Blk w' w.heap.size 23 #[.slice A l.length c] := by
 go_enter Try.func13, Try.ntmps13
 go_wp2
 go_ret
 exact ⟨rfl, (Below.refl _ _).alloc (Nat.le_refl _) _, Blk.new _ _ _⟩
theorem find_spec (n kb B : Nat) (l : List RecordT) (A : Option Addr) (c : Nat) (W0 : World) (hkb : Blk W0 kb 23 #[.slice A l.length c]) (hrd : RowR (repRecordT n) (· < B) W0 A c l) (hs : ∀ r ∈ l, SmR n r) (_ : B ≤ W0.heap.size) (hkB : kb < B) :
 FindSpec n B 47 #[.pointer (some ⟨kb, 0, none⟩)] (lookR l) (fun E _ w => (∀ k, ¬ E k) ∧ Below B W0 w ∧ B ≤ w.heap.size) where
 enter := by intro args w; kernel_rfl
 lt := fun h k hk => absurd hk (h.1 k)
 steady := fun h hF hM => ⟨h.1, h.2.1.trans ⟨hF.os, hF.tape, hF.output, hF.size, fun k hk => hF.block k (Nat.lt_of_lt_of_le hk h.2.2) (fun hm => by have := (hM k hm).2; omega)⟩, Nat.le_trans h.2.2 hF.size⟩
 call := fun {E ks w} k _ _ h => by
  refine (find1_is n kb l A c k w (hkb.below h.2.1 hkB) (hrd.keep h.2.1.size (fun j hj _ => ⟨hj, h.2.1.block j hj⟩)) hs).mono ?_
  rintro e w' ⟨hb, A1, c1, A2, c2, A3, c3, A4, c4, he, hr⟩
  exact ⟨fun _ => False, ⟨fun _ h => h, h.2.1.trans (hb.mono h.2.2), Nat.le_trans h.2.2 hb.size⟩, fun _ h => h.elim, Fr.of_new hb, A1, c1, A2, c2, A3, c3, A4, c4, he, hr.keep (Nat.le_refl _) (fun j hj _ => ⟨⟨hj, fun h => h⟩, rfl⟩)⟩
end Go.Proofs.Ytnfgilbaglfkeaa
namespace Go.Proofs.Ytnfgilbaglfkeaa
open Go.RowKit
def QRow (w : World) (e : TypeId) (size : Nat) (v : Value) (n : Nat) (xs : List Value) : Prop :=
 ∃ A cap, v = .slice A n cap ∧ n ≤ cap ∧ cap ≤ maxLen ∧ xs.length = n * size ∧ (A = none → cap = 0) ∧
   ∀ b, A = some b → b.spot = none ∧ (cap = 0 ∨ ∃ cur, Blk w b.block e cur ∧ b.off + cap * size ≤ cur.size) ∧ ∀ j u, xs[j]? = some u → w.cell? ⟨b.block, b.off + j, none⟩ = some u
section
variable {w w' : World} {e : TypeId} {size n : Nat} {v : Value} {xs : List Value}
theorem QRow.form (h : QRow w e size v n xs) : ∃ A cap, v = .slice A n cap ∧ n ≤ cap ∧ cap ≤ maxLen := by
 obtain ⟨A, cap, rfl, h1, h2, _⟩ := h
 exact ⟨A, cap, rfl, h1, h2⟩
theorem QRow.of_own (h : w.ownsRow 0 e size v n xs) : QRow w e size v n xs := by
 rcases ownsRow_form h with ⟨rfl, rfl, rfl⟩ | ⟨g, cap, rfl, h1, h2, ⟨cur, hb, hs⟩, h3, h4⟩
 · exact ⟨none, 0, rfl, Nat.le_refl _, Nat.zero_le _, by simp, fun _ => rfl, fun b hb => by cases hb⟩
 · exact ⟨_, cap, rfl, h1, h2, h3, fun h => by (cases h), fun b hb' => by cases hb'; exact ⟨rfl, .inr ⟨cur, hb, by simp [hs]⟩, fun j u hu => by simpa using h4 j u hu⟩⟩
theorem QRow.keep {M : Nat → Prop} (h : QRow w e size v n xs) (hF : Fr M w w') (hm : ∀ k, v.ownBlock = some k → ¬ M k) (hlt : ∀ k, v.ownBlock = some k → k < w.heap.size) : QRow w' e size v n xs := by
 obtain ⟨A, cap, rfl, h1, h2, h3, h4, h5⟩ := h
 refine ⟨A, cap, rfl, h1, h2, h3, h4, fun b hb => ?_⟩
 subst hb
 obtain ⟨g1, g2, g3⟩ := h5 b rfl
 have hk := hm b.block rfl
 have hl := hlt b.block rfl
 exact ⟨g1, g2.imp id (fun ⟨cur, hc, hs⟩ => ⟨cur, hc.fr hF hk, hs⟩), fun j u hu => (hF.cell (p := ⟨b.block, b.off + j, none⟩) hl hk).trans (g3 j u hu)⟩
theorem QRow.new_ (h : QRow w e size v n xs) (hb : Below w.heap.size w w') (hlt : ∀ k, v.ownBlock = some k → k < w.heap.size) : QRow w' e size v n xs :=
 h.keep (M := fun _ => False) (Fr.of_new hb) (fun _ _ h => h) hlt
theorem QRow.head {A : Option Addr} {m cap : Nat} (h : QRow w e 1 (.slice A (m + 1) cap) (m + 1) xs) : ∃ b off x, A = some ⟨b, off, none⟩ ∧ m + 1 ≤ cap ∧ xs[0]? = some x ∧ w.cell? ⟨b, off, none⟩ = some x := by
 obtain ⟨A', cap', hv, h1, h2, h3, h4, h5⟩ := h
 injection hv with e1 e2 e3
 subst e1; subst e3
 cases A with
 | none => have := h4 rfl; omega
 | some b =>
   obtain ⟨g1, g2, g3⟩ := h5 b rfl
   obtain ⟨bb, off, sp⟩ := b
   dsimp only at g1
   subst g1
   cases xs with
   | nil => simp at h3
   | cons x xs => exact ⟨bb, off, x, rfl, h1, rfl, by simpa using g3 0 x rfl⟩
theorem QRow.tail {b off m cap : Nat} {x : Value} (h : QRow w e 1 (.slice (some ⟨b, off, none⟩) (m + 1) cap) (m + 1) (x :: xs)) : QRow w e 1 (.slice (if cap = 1 then some ⟨b, off, none⟩ else some ⟨b, off + 1, none⟩) m (cap - 1)) m xs := by
 obtain ⟨A', cap', hv, h1, h2, h3, h4, h5⟩ := h
 injection hv with e1 e2 e3
 subst e1; subst e3
 obtain ⟨_, g2, g3⟩ := h5 _ rfl
 have hx : xs.length = m * 1 := by simp at h3 ⊢; omega
 by_cases hc : cap = 1
 · rw [if_pos hc]
   have hm : m = 0 := by omega
   have : xs = [] := List.eq_nil_of_length_eq_zero (by omega)
   subst this
   exact ⟨_, cap - 1, rfl, by omega, by omega, hx, fun h => (by cases h), fun b' hb' => by cases hb'; exact ⟨rfl, .inl (by omega), fun j u hu => by simp at hu⟩⟩
 · rw [if_neg hc]
   refine ⟨_, cap - 1, rfl, by omega, by omega, hx, fun h => (by cases h), fun b' hb' => ?_⟩
   injection hb' with hb'
   subst hb'
   refine ⟨rfl, .inr ?_, fun j u hu => ?_⟩
   · rcases g2 with g2 | ⟨cur, hc, hs⟩
     · omega
     · exact ⟨cur, hc, by dsimp only at hs ⊢; omega⟩
   · have := g3 (j + 1) u (by simpa using hu)
     dsimp only at this ⊢
     rwa [show off + 1 + j = off + (j + 1) by omega]
theorem blk_setCells_same {g t : Nat} {cs : Array Value} (h : Blk w g t cs) (vs : List Value) (o : Nat) : ∃ cs', Blk (w.setCells g o vs) g t cs' ∧ cs'.size = cs.size := Blk.setCells_ vs o h
end
section
variable {P : Program} (w : World)
theorem wpList_append_Q {ops : Array Oper} {rest : List Oper} {o : Oper} {a : Act} {Q : Exit → Act → World → Prop} (hgd : o.guard = none) (s x : Operand) (t : TypeId)
 (ho : o.op = .call { callee := .builtin .append, args := #[s, x], argTypes := #[t, t] })
 (e : TypeId) (i : TypeInfo) (z : Value) (size bytes : Nat) (ht : P.underlying t = some (.slice e)) (hi : P.info? e = some i) (hz : i.zero = some z)
 (hsize : i.size = size) (hby : i.bytes = bytes) (hzs : z.cells.size = size) (hsz : 0 < size)
 (v : Value) (n : Nat) (xs : List Value) (hs : a.eval s = v) (hown : QRow w e size v n xs)
 (ad : Addr) (c : Nat) (news : List Value) (hx : a.eval x = .slice (some ad) 1 c) (hn : news.length = size)
 (hnews : ∀ j u, news[j]? = some u → w.cell? (ad.add j) = some u) (h1 : ∀ u ∈ news, u.oneCell' = true)
 (h63 : n + 1 ≤ maxLen) (hbytes : (n + 1) * bytes ≤ 140737488355328)
 (h : ∀ v' w', QRow w' e size v' (n + 1) (xs ++ news) → Fr (fun k => v.ownBlock = some k) w w' → (∀ g t cs, t ≠ e → Blk w g t cs → Blk w' g t cs) → (v'.ownBlock = v.ownBlock ∨ ∀ k, v'.ownBlock = some k → w.heap.size ≤ k ∧ k < w'.heap.size) → wpList P ops Q rest (a.put o.dst v') w') :
 wpList P ops Q (o :: rest) a w := by
 have fin : ∀ v' w', w'.ownsRow w.heap.size e size v' (n + 1) (xs ++ news) → w.grownBy w' none → wpList P ops Q rest (a.put o.dst v') w' := fun v' w' g1 g2 => by
  have g0 : w'.ownsRow 0 e size v' (n + 1) (xs ++ news) := ⟨g1.1, g1.2.imp id fun ⟨g, cap, cur, hv, h0, hr⟩ => ⟨g, cap, cur, hv, Nat.zero_le _, hr⟩⟩
  have hF : Fr (fun k => v.ownBlock = some k) w w' := (Fr.refl _ w).grown g2 (fun k hk => by cases hk)
  refine h v' w' (.of_own g0) hF (fun g t cs _ hb => hb.grown g2 (by simp)) (.inr fun k hk => ⟨?_, own_lt g0 k hk⟩)
  rcases g1.2 with ⟨rfl, hn0⟩ | ⟨g, cap, cur, rfl, hb, _⟩
  · omega
  · simp only [Value.ownBlock, Option.some.injEq] at hk
    omega
 obtain ⟨A, cap, rfl, q1, q2, q3, q4, q5⟩ := hown
 by_cases hr : n + 1 ≤ cap
 · cases A with
   | none => have := q4 rfl; omega
   | some b =>
     obtain ⟨b, off, sp⟩ := b
     obtain ⟨g1, g2, g3⟩ := q5 _ rfl
     dsimp only at g1
     subst g1
     obtain ⟨cur, hcur, hcs⟩ : ∃ cur, Blk w b e cur ∧ off + cap * size ≤ cur.size := by
      rcases g2 with g2 | g2
      · omega
      · exact g2
     have hmul : (n + 1) * size ≤ cap * size := Nat.mul_le_mul_right _ hr
     rw [Nat.add_mul] at hmul
     refine wpList_append_arg w hgd s x t ho e i z size bytes ht hi hz hsize hby hzs hsz b off n cap xs hs q3 (fun j u hu => by simpa using g3 j u hu) ad 1 c news hx (by omega) hnews h1 (fun _ j hj => ?_) h63 hbytes (fun _ => ?_) (fun hc => by omega)
     · rw [hcur.cell]
       exact ⟨by rw [Array.getElem?_eq_getElem (by omega)]; rfl, hcur.frozen _⟩
     · have hF : Fr (fun k => (Value.slice (some ⟨b, off, none⟩) n cap).ownBlock = some k) w (w.setCells b (off + n * size) news) := Fr.setCells news _ (Fr.refl _ w) (.inl rfl)
       obtain ⟨cur', hb', hz'⟩ := Blk.setCells_ news (off + n * size) hcur
       refine h _ _ ⟨some ⟨b, off, none⟩, cap, rfl, hr, q2, by rw [List.length_append, q3, hn, Nat.add_mul]; omega, fun h => (by cases h), fun b2 hb2 => ?_⟩ hF (fun g t cs hne hb => ?_) (.inl rfl)
       · injection hb2 with hb2
         subst hb2
         refine ⟨rfl, .inr ⟨cur', hb', by rw [hz']; exact hcs⟩, fun j u hu => ?_⟩
         dsimp only
         rcases Nat.lt_or_ge j xs.length with hj | hj
         · rw [List.getElem?_append_left hj] at hu
           have hra : w.rangeAt b off xs := fun j v hv => g3 j v hv
           exact World.rangeAt_setCells_apart hra b (off + n * size) news (.inr (.inl (by rw [q3]; omega))) j u hu
         · rw [List.getElem?_append_right hj] at hu
           have hth : w.there b (off + n * size) news.length := fun k hk => by
            rw [hcur.cell]
            exact ⟨by rw [Array.getElem?_eq_getElem (by omega)]; rfl, hcur.frozen _⟩
           have := World.rangeAt_setCells_same w b (off + n * size) news hth (j - xs.length) u hu
           rwa [show off + n * size + (j - xs.length) = off + j by omega] at this
       · exact Blk.farCells news _ hb (fun e2 => by subst e2; exact hb.ne_ hcur hne rfl)
 · have hA : ∀ b, A = some b → b = ⟨b.block, b.off, none⟩ := fun b hb => by
    have := (q5 b hb).1
    obtain ⟨_, _, _⟩ := b
    dsimp only at this
    subst this; rfl
   refine wpList_append_grows w hgd s x t ho e i z size bytes ht hi hz hsize hby hzs hsz A n cap xs hs (fun hn => by have := q4 hn; exact ⟨by omega, this⟩) q3 (fun b hb j u hu => ?_) ad 1 c news hx (by omega) hnews h1 (by omega) h63 hbytes fin
   rw [hA b hb]
   have := (q5 b hb).2.2 j u hu
   rwa [Go.WideShapes.add_plain]
end
end Go.Proofs.Ytnfgilbaglfkeaa
namespace Go.Proofs.Ytnfgilbaglfkeaa
open Go.RowKit
theorem flat_set1 {α : Type} {cells : α → List Value} (hsz : ∀ x, (cells x).length = 1) (_h0 : 0 < 1) (l : List α) (k : Nat) (hk : k < l.length) (y : α) :
 setAll (l.flatMap cells) k (cells y) = (l.set k y).flatMap cells := by
 have h := flat_set hsz (by omega) l k hk y
 rwa [Nat.mul_one] at h
end Go.Proofs.Ytnfgilbaglfkeaa
namespace Go.Proofs.Ytnfgilbaglfkeaa
open Go.RowKit
abbrev Bnum := Int
def Bnum.cells (n : Bnum) : List Value := [.int .i64 n]
theorem Bnum.cells_length (n : Bnum) : (Bnum.cells n).length = 1 := rfl
def cmpBnum (a b : Bnum) : Int := cmpInt a b
theorem tc_bnum : TC cmpBnum := tc_int
set_option maxHeartbeats 400000 in
theorem cmp_bnum (a b : Bnum) (w : World) : Calls Try.prog 117 #[.int .i64 a, .int .i64 b] w fun e w' => e = .returned (.int .i64 (cmpBnum a b)) ∧ Below w.heap.size w w' := by
 go_enter Try.func117, Try.ntmps117
 go_wp2
 all_goals (go_ret; refine ⟨?_, Below.refl _ _⟩; unfold cmpBnum cmpInt; (repeat' split) <;> first | rfl | (exfalso; omega))
end Go.Proofs.Ytnfgilbaglfkeaa
namespace Go.Proofs.Ytnfgilbaglfkeaa
open Go.RowKit
structure Sl where
 A : Option Addr
 n : Nat
 c : Nat
structure PgR where
 kk : Int
 num : Int
 level : Int
 elems : Sl
 holes : Sl
 aparts : Sl
 news : Sl
def PgR.cells (x : PgR) : List Value := [.int .i64 x.kk, .int .i64 x.num, .int .i64 x.level, .slice x.elems.A x.elems.n x.elems.c, .slice x.holes.A x.holes.n x.holes.c, .slice x.aparts.A x.aparts.n x.aparts.c, .slice x.news.A x.news.n x.news.c]
theorem PgR.cells_length (x : PgR) : x.cells.length = 7 := rfl
def cmpPgR (a b : PgR) : Int := cmpInt a.kk b.kk
theorem tc_pgr : TC cmpPgR := ⟨fun _ => tc_int.refl _, fun _ _ => tc_int.symm _ _, fun _ _ _ => tc_int.trans _ _ _⟩
theorem nilAhead_kPgR (k : Int) (w : World) : (nilAhead 306 83 (.int .i64 k) "Compare").run Try.prog w = .ok (some false) w := by kernel_rfl
theorem method_kPgR (k : Int) (w : World) : (method 306 83 (.int .i64 k) "Compare").run Try.prog w = .ok (117, .int .i64 k) w := by kernel_rfl
set_option maxRecDepth 100000 in
set_option maxHeartbeats 4000000 in
theorem cmp_pgr (a b : PgR) (w : World) : Calls Try.prog 129 #[.agg #[.int .i64 a.kk, .int .i64 a.num, .int .i64 a.level, .slice a.elems.A a.elems.n a.elems.c, .slice a.holes.A a.holes.n a.holes.c, .slice a.aparts.A a.aparts.n a.aparts.c, .slice a.news.A a.news.n a.news.c], .agg #[.int .i64 b.kk, .int .i64 b.num, .int .i64 b.level, .slice b.elems.A b.elems.n b.elems.c, .slice b.holes.A b.holes.n b.holes.c, .slice b.aparts.A b.aparts.n b.aparts.c, .slice b.news.A b.news.n b.news.c]] w fun e w' => e = .returned (.int .i64 (cmpPgR a b)) ∧ Below w.heap.size w w' := by
 have N := nilAhead_kPgR
 have M := method_kPgR
 go_enter Try.func129, Try.ntmps129
 go_wp2_with fail
 refine (cmp_bnum a.kk b.kk _).mono ?_
 rintro e w1 ⟨rfl, hb1⟩
 have HB1 := Lib.hid ((((Below.refl w.heap.size w).alloc (Nat.le_refl _) _).alloc (by simp) _).trans (hb1.mono (by simp; omega)))
 clear hb1
 go_wp2_with fail
 go_ret
 exact ⟨rfl, HB1.out⟩
end Go.Proofs.Ytnfgilbaglfkeaa
namespace Go.Proofs.Ytnfgilbaglfkeaa
open Go.RowKit
structure PgT where
 kk : Int
 tr : TraceT
def PgT.cells (x : PgT) : List Value := [.int .i64 x.kk, .int .i64 x.tr.elem.id.kind, .string x.tr.elem.id.text, .int .i64 x.tr.elem.id.n, .int .i64 x.tr.elem.attr.kind, .string x.tr.elem.attr.text, .int .i64 x.tr.elem.attr.n, .int .i64 x.tr.elem.value.kind, .string x.tr.elem.value.text, .int .i64 x.tr.elem.value.n, .bool x.tr.elem.acc, .bool x.tr.elem.goal, .int .i64 x.tr.elem.tag, .int .i64 x.tr.level, .int .i64 x.tr.cause]
theorem PgT.cells_length (x : PgT) : x.cells.length = 15 := rfl
def cmpPgT (a b : PgT) : Int := cmpInt a.kk b.kk
theorem tc_pgt : TC cmpPgT := ⟨fun _ => tc_int.refl _, fun _ _ => tc_int.symm _ _, fun _ _ _ => tc_int.trans _ _ _⟩
theorem nilAhead_kPgT (k : Int) (w : World) : (nilAhead 306 83 (.int .i64 k) "Compare").run Try.prog w = .ok (some false) w := by kernel_rfl
theorem method_kPgT (k : Int) (w : World) : (method 306 83 (.int .i64 k) "Compare").run Try.prog w = .ok (117, .int .i64 k) w := by kernel_rfl
set_option maxRecDepth 100000 in
set_option maxHeartbeats 4000000 in
theorem cmp_pgt (a b : PgT) (w : World) : Calls Try.prog 131 #[.agg #[.int .i64 a.kk, .int .i64 a.tr.elem.id.kind, .string a.tr.elem.id.text, .int .i64 a.tr.elem.id.n, .int .i64 a.tr.elem.attr.kind, .string a.tr.elem.attr.text, .int .i64 a.tr.elem.attr.n, .int .i64 a.tr.elem.value.kind, .string a.tr.elem.value.text, .int .i64 a.tr.elem.value.n, .bool a.tr.elem.acc, .bool a.tr.elem.goal, .int .i64 a.tr.elem.tag, .int .i64 a.tr.level, .int .i64 a.tr.cause], .agg #[.int .i64 b.kk, .int .i64 b.tr.elem.id.kind, .string b.tr.elem.id.text, .int .i64 b.tr.elem.id.n, .int .i64 b.tr.elem.attr.kind, .string b.tr.elem.attr.text, .int .i64 b.tr.elem.attr.n, .int .i64 b.tr.elem.value.kind, .string b.tr.elem.value.text, .int .i64 b.tr.elem.value.n, .bool b.tr.elem.acc, .bool b.tr.elem.goal, .int .i64 b.tr.elem.tag, .int .i64 b.tr.level, .int .i64 b.tr.cause]] w fun e w' => e = .returned (.int .i64 (cmpPgT a b)) ∧ Below w.heap.size w w' := by
 have N := nilAhead_kPgT
 have M := method_kPgT
 go_enter Try.func131, Try.ntmps131
 go_wp2_with fail
 refine (cmp_bnum a.kk b.kk _).mono ?_
 rintro e w1 ⟨rfl, hb1⟩
 have HB1 := Lib.hid ((((Below.refl w.heap.size w).alloc (Nat.le_refl _) _).alloc (by simp) _).trans (hb1.mono (by simp; omega)))
 clear hb1
 go_wp2_with fail
 go_ret
 exact ⟨rfl, HB1.out⟩
end Go.Proofs.Ytnfgilbaglfkeaa
namespace Go.Proofs.Ytnfgilbaglfkeaa
open Go.RowKit
def pushes (lv : Int) (r : RecordT) : List Int := (r.elems.filter fun e => decide (lv ≤ e.level) && decide (0 < e.cause)).map TraceT.cause
section
variable (look : Int → RecordT × Bool) (lv : Int) (keys : List Int)
def bfs : Nat → List Int → List Int → List Int
 | 0, _, done => done
 | _ + 1, [], done => done
 | f + 1, k :: todo, done => if k ∈ done then bfs f todo done else if (look k).2 = true then bfs f (todo ++ pushes lv (look k).1) (done ++ [k]) else bfs f todo (done ++ [k])
def left (done : List Int) : Nat := ((keys.filter fun k => decide (k ∉ done)).map fun k => (pushes lv (look k).1).length).sum
def cost (todo done : List Int) : Nat := todo.length + left look lv keys done
theorem left_le (done : List Int) (k : Int) : left look lv keys (done ++ [k]) ≤ left look lv keys done := by
 unfold left
 induction keys with
 | nil => simp
 | cons x keys ih =>
   by_cases h : x ∈ done
   · have h2 : x ∈ done ++ [k] := by simp [h]
     simp only [List.filter_cons, h, h2, not_true_eq_false, decide_false, Bool.false_eq_true, if_false]
     exact ih
   · by_cases h2 : x ∈ done ++ [k]
     · simp only [List.filter_cons, h, h2, not_true_eq_false, not_false_eq_true, decide_false, decide_true, Bool.false_eq_true, if_false, if_true, List.map_cons, List.sum_cons]
       omega
     · simp only [List.filter_cons, h, h2, not_false_eq_true, decide_true, if_true, List.map_cons, List.sum_cons]
       omega
theorem left_lt {done : List Int} {k : Int} (hk : k ∈ keys) (hd : k ∉ done) : left look lv keys (done ++ [k]) + (pushes lv (look k).1).length ≤ left look lv keys done := by
 induction keys with
 | nil => cases hk
 | cons x keys ih =>
   have hle := left_le look lv keys done k
   unfold left at ih hle ⊢
   by_cases hxk : x = k
   · subst hxk
     have h2 : x ∈ done ++ [x] := by simp
     simp only [List.filter_cons, hd, h2, not_true_eq_false, not_false_eq_true, decide_false, decide_true, Bool.false_eq_true, if_false, if_true, List.map_cons, List.sum_cons]
     omega
   · have hk' : k ∈ keys := by
      rcases List.mem_cons.1 hk with h | h
      · exact absurd h.symm hxk
      · exact h
     have := ih hk'
     by_cases h : x ∈ done
     · have h2 : x ∈ done ++ [k] := by simp [h]
       simp only [List.filter_cons, h, h2, not_true_eq_false, decide_false, Bool.false_eq_true, if_false]
       exact this
     · have h2 : x ∉ done ++ [k] := by simp [h, hxk]
       simp only [List.filter_cons, h, h2, not_false_eq_true, decide_true, if_true, List.map_cons, List.sum_cons]
       omega
variable (hkeys : ∀ k, (look k).2 = true → k ∈ keys)
include hkeys
theorem cost_new {todo done : List Int} {k : Int} (hd : k ∉ done) (hl : (look k).2 = true) : cost look lv keys (todo ++ pushes lv (look k).1) (done ++ [k]) + 1 ≤ cost look lv keys (k :: todo) done := by
 have := left_lt look lv keys (hkeys k hl) hd
 unfold cost
 simp only [List.length_append, List.length_cons]
 omega
theorem bfs_fuel : ∀ (f f' : Nat) (todo done : List Int), cost look lv keys todo done ≤ f → cost look lv keys todo done ≤ f' → bfs look lv f todo done = bfs look lv f' todo done := by
 intro f
 induction f with
 | zero =>
   intro f' todo done h _
   have : todo = [] := List.eq_nil_of_length_eq_zero (by unfold cost at h; omega)
   subst this
   cases f' <;> rfl
 | succ f ih =>
   intro f' todo done h h'
   cases todo with
   | nil => cases f' <;> rfl
   | cons k todo =>
     cases f' with
     | zero => unfold cost at h'; simp at h'
     | succ f' =>
       have hsk : cost look lv keys todo done + 1 ≤ cost look lv keys (k :: todo) done := by unfold cost; simp; omega
       unfold bfs
       by_cases hd : k ∈ done
       · rw [if_pos hd, if_pos hd]; exact ih f' todo done (by omega) (by omega)
       · rw [if_neg hd, if_neg hd]
         by_cases hl : (look k).2 = true
         · rw [if_pos hl, if_pos hl]
           have := cost_new look lv keys hkeys (todo := todo) hd hl
           exact ih f' _ _ (by omega) (by omega)
         · rw [if_neg hl, if_neg hl]
           have h9 : cost look lv keys todo (done ++ [k]) + 1 ≤ cost look lv keys (k :: todo) done := by
            have := left_le look lv keys done k
            unfold cost; simp; omega
           exact ih f' _ _ (by omega) (by omega)
omit hkeys in
def reach (todo done : List Int) : List Int := bfs look lv (cost look lv keys todo done) todo done
omit hkeys in
theorem reach_nil (done : List Int) : reach look lv keys [] done = done := by unfold reach; cases cost look lv keys [] done <;> rfl
omit hkeys in
theorem reach_seen {k : Int} {todo done : List Int} (h : k ∈ done) : reach look lv keys (k :: todo) done = reach look lv keys todo done := by
 have hc : cost look lv keys (k :: todo) done = cost look lv keys todo done + 1 := by unfold cost; simp; omega
 have e : reach look lv keys (k :: todo) done = bfs look lv (cost look lv keys todo done + 1) (k :: todo) done := by unfold reach; rw [hc]
 rw [e, bfs, if_pos h]; rfl
theorem reach_lost {k : Int} {todo done : List Int} (h : k ∉ done) (hl : (look k).2 = false) : reach look lv keys (k :: todo) done = reach look lv keys todo (done ++ [k]) := by
 have hc : cost look lv keys (k :: todo) done = cost look lv keys todo done + 1 := by unfold cost; simp; omega
 have e : reach look lv keys (k :: todo) done = bfs look lv (cost look lv keys todo done + 1) (k :: todo) done := by unfold reach; rw [hc]
 rw [e, bfs, if_neg h, if_neg (by rw [hl]; simp)]
 have := left_le look lv keys done k
 exact bfs_fuel look lv keys hkeys _ _ _ _ (by unfold cost; omega) (Nat.le_refl _)
theorem reach_new {k : Int} {todo done : List Int} (h : k ∉ done) (hl : (look k).2 = true) : reach look lv keys (k :: todo) done = reach look lv keys (todo ++ pushes lv (look k).1) (done ++ [k]) := by
 have hc : cost look lv keys (k :: todo) done = cost look lv keys todo done + 1 := by unfold cost; simp; omega
 have e : reach look lv keys (k :: todo) done = bfs look lv (cost look lv keys todo done + 1) (k :: todo) done := by unfold reach; rw [hc]
 rw [e, bfs, if_neg h, if_pos hl]
 have := cost_new look lv keys hkeys (todo := todo) h hl
 exact bfs_fuel look lv keys hkeys _ _ _ _ (by omega) (Nat.le_refl _)
end
abbrev KR := Int × RecordT
def cmpKR (a b : KR) : Int := cmpInt a.1 b.1
theorem tc_kr : TC cmpKR := ⟨fun _ => tc_int.refl _, fun _ _ => tc_int.symm _ _, fun _ _ _ => tc_int.trans _ _ _⟩
def addR (look : Int → RecordT × Bool) (R : List KR) (k : Int) : List KR := if (look k).2 = true then put cmpKR R (k, (look k).1) else R
def recsOf (look : Int → RecordT × Bool) (done : List Int) : List KR := done.foldl (addR look) []
def lostOf (look : Int → RecordT × Bool) (done : List Int) : Nat := (done.filter fun k => !(look k).2).length
theorem recsOf_snoc (look : Int → RecordT × Bool) (done : List Int) (k : Int) : recsOf look (done ++ [k]) = addR look (recsOf look done) k := by unfold recsOf; rw [List.foldl_append]; rfl
theorem lostOf_snoc (look : Int → RecordT × Bool) (done : List Int) (k : Int) : lostOf look (done ++ [k]) = lostOf look done + (if (look k).2 = true then 0 else 1) := by
 unfold lostOf
 rw [List.filter_append, List.length_append]
 cases h : (look k).2 <;> simp [h]
theorem mem_put {α : Type} {cmp : α → α → Int} {l : List α} {x y : α} (h : y ∈ put cmp l x) : y ∈ l ∨ y = x := by
 unfold put at h
 split at h
 · exact .inl h
 · simp only [List.mem_append, List.mem_cons] at h
   rcases h with h | h | h
   · exact .inl (mem_below.1 h).1
   · exact .inr h
   · exact .inl (mem_above.1 h).1
theorem mem_recs {look : Int → RecordT × Bool} {done : List Int} {p : KR} (h : p ∈ recsOf look done) : p.1 ∈ done ∧ (look p.1).2 = true ∧ p.2 = (look p.1).1 := by
 have : ∀ (done : List Int) (R : List KR) (D : List Int), (∀ p ∈ R, p.1 ∈ D ∧ (look p.1).2 = true ∧ p.2 = (look p.1).1) → (∀ k ∈ done, k ∈ D) → ∀ p ∈ done.foldl (addR look) R, p.1 ∈ D ∧ (look p.1).2 = true ∧ p.2 = (look p.1).1 := by
  intro done
  induction done with
  | nil => intro R D h _ p hp; exact h p hp
  | cons k done ih =>
    intro R D h hd p hp
    refine ih (addR look R k) D (fun q hq => ?_) (fun j hj => hd j (by simp [hj])) p hp
    unfold addR at hq
    split at hq
    · rename_i hl
      rcases mem_put hq with hq | rfl
      · exact h q hq
      · exact ⟨hd k (by simp), hl, rfl⟩
    · exact h q hq
 exact this done [] done (fun p hp => by cases hp) (fun k hk => hk) p h
theorem has_recs {look : Int → RecordT × Bool} {done : List Int} {k : Int} (h : k ∉ done) (r : RecordT) : has cmpKR (recsOf look done) (k, r) = false := by
 rw [has_false]
 intro y hy e
 have := (mem_recs hy).1
 rw [cmpInt_eq.1 e] at this
 exact h this
theorem srt_recs (look : Int → RecordT × Bool) (done : List Int) : Srt cmpKR (recsOf look done) := by
 have : ∀ (done : List Int) (R : List KR), Srt cmpKR R → Srt cmpKR (done.foldl (addR look) R) := by
  intro done
  induction done with
  | nil => intro R h; exact h
  | cons k done ih =>
    intro R h
    refine ih _ ?_
    unfold addR
    split
    · exact h.put tc_kr _
    · exact h
 exact this done [] Srt.nil
theorem len_recs (look : Int → RecordT × Bool) (done : List Int) : (recsOf look done).length ≤ done.length := by
 have : ∀ (done : List Int) (R : List KR), Srt cmpKR R → (done.foldl (addR look) R).length ≤ R.length + done.length := by
  intro done
  induction done with
  | nil => intro R _; simp
  | cons k done ih =>
    intro R h
    have h1 : Srt cmpKR (addR look R k) := by
     unfold addR
     split
     · exact h.put tc_kr _
     · exact h
    have h2 : (addR look R k).length ≤ R.length + 1 := by
     unfold addR
     split
     · exact length_put_le tc_kr h _
     · omega
    have := ih _ h1
    simp only [List.foldl_cons, List.length_cons]
    omega
 have := this done [] Srt.nil
 simpa [recsOf] using this
def cmpTag (a b : TraceT) : Int := cmpInt a.elem.tag b.elem.tag
theorem tc_tag : TC cmpTag := ⟨fun _ => tc_int.refl _, fun _ _ => tc_int.symm _ _, fun _ _ _ => tc_int.trans _ _ _⟩
def bare (e : TraceT) : TraceT := { e with cause := 0 }
def lows (lv : Int) (r : RecordT) : List TraceT := (r.elems.filter fun e => decide (e.level < lv)).map bare
def groundsOf (lv : Int) (R : List KR) : List TraceT := puts cmpTag [] (R.flatMap fun p => lows lv p.2)
def once (l : List Sym) (s : Sym) : List Sym := if s ∈ l then l else l ++ [s]
def newsOf (R : List KR) : List Sym := (R.flatMap fun p => p.2.news).foldl once []
structure TrailV where
 elems : List TraceT
 holes : List HoleT
 aparts : List ApartT
 news : List Sym
 visited : Nat
 lost : Nat
def trailV (look : Int → RecordT × Bool) (lv : Int) (done : List Int) : TrailV :=
 ⟨groundsOf lv (recsOf look done), (recsOf look done).flatMap fun p => p.2.holes, (recsOf look done).flatMap fun p => p.2.aparts, newsOf (recsOf look done), (recsOf look done).length, lostOf look done⟩
def PgRel (n : Nat) (D : Nat → Prop) (w : World) (p : KR) (x : PgR) : Prop :=
 x.kk = p.1 ∧ x.num = p.2.num ∧ x.level = p.2.level ∧ x.elems.n = p.2.elems.length ∧ x.holes.n = p.2.holes.length ∧ x.aparts.n = p.2.aparts.length ∧ x.news.n = p.2.news.length ∧ RecAt n D w p.2 x.elems.A x.elems.c x.holes.A x.holes.c x.aparts.A x.aparts.c x.news.A x.news.c
theorem PgRel.keep {n : Nat} {D D' : Nat → Prop} {w w' : World} {p : KR} {x : PgR} (h : PgRel n D w p x) (hs : w.heap.size ≤ w'.heap.size) (hk : ∀ k, D k → k < w.heap.size → D' k ∧ w'.heap[k]? = w.heap[k]?) : PgRel n D' w' p x := by
 obtain ⟨h1, h2, h3, h4, h5, h6, h7, h8⟩ := h
 exact ⟨h1, h2, h3, h4, h5, h6, h7, h8.keep hs hk⟩
theorem Each2.filter {α β : Type} {R : α → β → Prop} {f : α → Bool} {g : β → Bool} (hr : ∀ a b, R a b → f a = g b) : ∀ {l : List α} {m : List β}, Each2 R l m → Each2 R (l.filter f) (m.filter g)
 | _, _, .nil => .nil
 | _, _, .cons (a := a) (b := b) h t => by
   rw [List.filter_cons, List.filter_cons, hr a b h]
   split
   · exact .cons h (t.filter hr)
   · exact t.filter hr
theorem Each2.any {α β : Type} {R : α → β → Prop} {f : α → Bool} {g : β → Bool} (hr : ∀ a b, R a b → f a = g b) : ∀ {l : List α} {m : List β}, Each2 R l m → l.any f = m.any g
 | _, _, .nil => rfl
 | _, _, .cons (a := a) (b := b) h t => by rw [List.any_cons, List.any_cons, hr a b h, t.any hr]
theorem Each2.put {R : KR → PgR → Prop} (hr : ∀ a b, R a b → b.kk = a.1) {l : List KR} {m : List PgR} (h : Each2 R l m) {a : KR} {b : PgR} (hab : R a b) : has cmpKR l a = has cmpPgR m b ∧ Each2 R (put cmpKR l a) (put cmpPgR m b) := by
 have hc : ∀ x y, R x y → cmpKR x a = cmpPgR y b := fun x y hxy => by unfold cmpKR cmpPgR; rw [hr _ _ hxy, hr _ _ hab]
 have hh : has cmpKR l a = has cmpPgR m b := h.any (fun x y hxy => by rw [hc x y hxy])
 refine ⟨hh, ?_⟩
 unfold Ytnfgilbaglfkeaa.put
 rw [hh]
 split
 · exact h
 · exact (h.filter (fun x y hxy => by rw [hc x y hxy])).append (.cons hab (h.filter (fun x y hxy => by rw [hc x y hxy])))
theorem mem_puts {done : List Int} {l : List Int} {k : Int} : k ∈ puts cmpBnum l done ↔ k ∈ l ∨ k ∈ done := by
 induction done generalizing l with
 | nil => simp [puts]
 | cons x done ih =>
   have e : puts cmpBnum l (x :: done) = puts cmpBnum (put cmpBnum l x) done := rfl
   rw [e, ih, List.mem_cons]
   have hp : k ∈ put cmpBnum l x ↔ k ∈ l ∨ k = x := by
    constructor
    · exact mem_put
    · intro h
      unfold put
      split
      · rename_i hh
        rcases h with h | h
        · exact h
        · obtain ⟨y, hy, e⟩ := has_iff.1 hh
          rw [h, ← cmpInt_eq.1 e]; exact hy
      · rename_i hh
        simp only [List.mem_append, List.mem_cons]
        rcases h with h | h
        · have := has_false.1 (by simpa using hh) k h
          rcases Int.lt_trichotomy (cmpBnum k x) 0 with h2 | h2 | h2
          · exact .inl (mem_below.2 ⟨h, h2⟩)
          · exact absurd h2 this
          · exact .inr (.inr (mem_above.2 ⟨h, h2⟩))
        · exact .inr (.inl h)
   rw [hp]
   constructor
   · rintro ((h | h) | h)
     · exact .inl h
     · exact .inr (.inl h)
     · exact .inr (.inr h)
   · rintro (h | h | h)
     · exact .inl (.inl h)
     · exact .inl (.inr h)
     · exact .inr h
theorem has_puts (done : List Int) (k : Int) : has cmpBnum (puts cmpBnum [] done) k = decide (k ∈ done) := by
 by_cases h : k ∈ done
 · rw [decide_eq_true h]
   exact has_iff.2 ⟨k, mem_puts.2 (.inr h), cmpInt_eq.2 rfl⟩
 · rw [decide_eq_false h, has_false]
   intro y hy e
   rcases mem_puts.1 hy with h2 | h2
   · cases h2
   · exact h (by rw [← cmpInt_eq.1 e]; exact h2)
end Go.Proofs.Ytnfgilbaglfkeaa
namespace Go.Proofs.Ytnfgilbaglfkeaa
theorem nodup_len {α : Type} [DecidableEq α] : ∀ {l m : List α}, l.Nodup → (∀ x ∈ l, x ∈ m) → l.length ≤ m.length
 | [], _, _, _ => by simp
 | x :: l, m, hn, hs => by
   have hx : x ∈ m := hs x (by simp)
   have := nodup_len (l := l) (m := m.erase x) (List.nodup_cons.1 hn).2 (fun y hy => by
    have : y ≠ x := fun e => (List.nodup_cons.1 hn).1 (e ▸ hy)
    exact (List.mem_erase_of_ne this).2 (hs y (by simp [hy])))
   rw [List.length_erase_of_mem hx] at this
   have := List.length_pos_of_mem hx
   simp only [List.length_cons]; omega
theorem srt_sub {α : Type} {cmp : α → α → Int} (t : TC cmp) : ∀ {m l : List α}, Srt cmp l → Srt cmp m → (∀ x ∈ l, x ∈ m) → l.Sublist m
 | [], l, _, _, hs => by
   have : l = [] := List.eq_nil_iff_forall_not_mem.2 (fun x hx => by simpa using hs x hx)
   rw [this]; exact List.Sublist.slnil
 | y :: m, [], _, _, _ => List.nil_sublist _
 | y :: m, x :: l, hl, hm, hs => by
   obtain ⟨hl1, hl2⟩ := List.pairwise_cons.1 hl
   obtain ⟨hm1, hm2⟩ := List.pairwise_cons.1 hm
   rcases List.mem_cons.1 (hs x (by simp)) with h | h
   · subst h
     refine (srt_sub t hl2 hm2 (fun z hz => ?_)).cons_cons x
     rcases List.mem_cons.1 (hs z (by simp [hz])) with h | h
     · subst h
       have := hl1 z hz; have := t.refl z; omega
     · exact h
   · refine (srt_sub t hl hm2 (fun z hz => ?_)).cons y
     rcases List.mem_cons.1 (hs z hz) with h2 | h2
     · subst h2
       exfalso
       have hyx := hm1 x h
       rcases List.mem_cons.1 hz with h3 | h3
       · subst h3; have := t.refl z; omega
       · have := hl1 z h3
         have := t.lt_trans hyx this
         have := t.refl z; omega
     · exact h2
theorem srt_ext2 {α : Type} {cmp : α → α → Int} (t : TC cmp) {l m : List α} (hl : Srt cmp l) (hm : Srt cmp m) (h : ∀ x, x ∈ l ↔ x ∈ m) : l = m :=
 (srt_sub t hl hm (fun x hx => (h x).1 hx)).eq_of_length_le (srt_sub t hm hl (fun x hx => (h x).2 hx)).length_le
section
variable {look : Int → RecordT × Bool} {lv : Int} {keys : List Int} (hkeys : ∀ k, (look k).2 = true → k ∈ keys)
include hkeys
theorem reach_rec {Q : List Int → List Int → List Int → Prop} (h0 : ∀ done, Q [] done done)
 (h1 : ∀ k todo done res, k ∈ done → Q todo done res → Q (k :: todo) done res)
 (h2 : ∀ k todo done res, k ∉ done → (look k).2 = false → Q todo (done ++ [k]) res → Q (k :: todo) done res)
 (h3 : ∀ k todo done res, k ∉ done → (look k).2 = true → Q (todo ++ pushes lv (look k).1) (done ++ [k]) res → Q (k :: todo) done res) :
 ∀ todo done, Q todo done (reach look lv keys todo done) := by
 have : ∀ (f : Nat) todo done, cost look lv keys todo done ≤ f → Q todo done (reach look lv keys todo done) := by
  intro f
  induction f with
  | zero =>
    intro todo done h
    have : todo = [] := List.eq_nil_of_length_eq_zero (by unfold cost at h; omega)
    subst this; rw [reach_nil]; exact h0 done
  | succ f ih =>
    intro todo done h
    cases todo with
    | nil => rw [reach_nil]; exact h0 done
    | cons k todo =>
      have hsk : cost look lv keys todo done + 1 ≤ cost look lv keys (k :: todo) done := by unfold cost; simp; omega
      by_cases hd : k ∈ done
      · rw [reach_seen look lv keys hd]; exact h1 k todo done _ hd (ih _ _ (by omega))
      · cases hl : (look k).2 with
        | true =>
          rw [reach_new look lv keys hkeys hd hl]
          have := cost_new look lv keys hkeys (todo := todo) hd hl
          exact h3 k todo done _ hd hl (ih _ _ (by omega))
        | false =>
          rw [reach_lost look lv keys hkeys hd hl]
          have := left_le look lv keys done k
          exact h2 k todo done _ hd hl (ih _ _ (by unfold cost at *; omega))
 exact fun todo done => this _ todo done (Nat.le_refl _)
theorem reach_sound {C : Int → Prop} (hC : ∀ j, C j → (look j).2 = true → ∀ k ∈ pushes lv (look j).1, C k) (todo done : List Int) (h1 : ∀ k ∈ todo, C k) (h2 : ∀ k ∈ done, C k) : ∀ k ∈ reach look lv keys todo done, C k := by
 refine reach_rec (lv := lv) hkeys (Q := fun todo done res => (∀ k ∈ todo, C k) → (∀ k ∈ done, C k) → ∀ k ∈ res, C k) ?_ ?_ ?_ ?_ todo done h1 h2
 · intro done _ h k hk; exact h k hk
 · intro k todo done res _ ih h1 h2; exact ih (fun j hj => h1 j (by simp [hj])) h2
 · intro k todo done res _ _ ih h1 h2
   exact ih (fun j hj => h1 j (by simp [hj])) (fun j hj => by rcases List.mem_append.1 hj with h | h; exact h2 j h; exact h1 j (by simp at h; simp [h]))
 · intro k todo done res _ hl ih h1 h2
   refine ih (fun j hj => ?_) (fun j hj => by rcases List.mem_append.1 hj with h | h; exact h2 j h; exact h1 j (by simp at h; simp [h]))
   rcases List.mem_append.1 hj with h | h
   · exact h1 j (by simp [h])
   · exact hC k (h1 k (by simp)) hl j h
theorem reach_nodup (todo : List Int) {done : List Int} (h : done.Nodup) : (reach look lv keys todo done).Nodup := by
 have hs : ∀ (done : List Int) (k : Int), k ∉ done → done.Nodup → (done ++ [k]).Nodup := by
  intro done k hk hd
  rw [List.nodup_append]
  refine ⟨hd, by simp, fun a ha b hb => ?_⟩
  simp at hb; subst hb; exact fun e => hk (e ▸ ha)
 refine reach_rec (lv := lv) hkeys (Q := fun _ done res => done.Nodup → res.Nodup) (fun _ h => h) (fun _ _ _ _ _ ih => ih) (fun k _ done _ hk _ ih h => ih (hs done k hk h)) (fun k _ done _ hk _ ih h => ih (hs done k hk h)) todo done h
theorem reach_start (todo done : List Int) : (∀ k ∈ todo, k ∈ reach look lv keys todo done) ∧ ∀ k ∈ done, k ∈ reach look lv keys todo done := by
 refine reach_rec (lv := lv) hkeys (Q := fun todo done res => (∀ k ∈ todo, k ∈ res) ∧ ∀ k ∈ done, k ∈ res) ?_ ?_ ?_ ?_ todo done
 · intro done; exact ⟨fun k hk => (by cases hk), fun k hk => hk⟩
 · intro k todo done res hk ih
   exact ⟨fun j hj => by rcases List.mem_cons.1 hj with rfl | h; exact ih.2 j hk; exact ih.1 j h, ih.2⟩
 · intro k todo done res _ _ ih
   exact ⟨fun j hj => by rcases List.mem_cons.1 hj with rfl | h; exact ih.2 j (by simp); exact ih.1 j h, fun j hj => ih.2 j (by simp [hj])⟩
 · intro k todo done res _ _ ih
   exact ⟨fun j hj => by rcases List.mem_cons.1 hj with rfl | h; exact ih.2 j (by simp); exact ih.1 j (by simp [h]), fun j hj => ih.2 j (by simp [hj])⟩
theorem reach_closed (todo done : List Int) (h : ∀ j ∈ done, (look j).2 = true → ∀ k ∈ pushes lv (look j).1, k ∈ done ∨ k ∈ todo) : ∀ j ∈ reach look lv keys todo done, (look j).2 = true → ∀ k ∈ pushes lv (look j).1, k ∈ reach look lv keys todo done := by
 refine reach_rec (lv := lv) hkeys (Q := fun todo done res => (∀ j ∈ done, (look j).2 = true → ∀ k ∈ pushes lv (look j).1, k ∈ done ∨ k ∈ todo) → ∀ j ∈ res, (look j).2 = true → ∀ k ∈ pushes lv (look j).1, k ∈ res) ?_ ?_ ?_ ?_ todo done h
 · intro done h j hj hl k hk
   rcases h j hj hl k hk with h | h
   · exact h
   · cases h
 · intro k todo done res hk ih h
   refine ih (fun j hj hl i hi => ?_)
   rcases h j hj hl i hi with h2 | h2
   · exact .inl h2
   · rcases List.mem_cons.1 h2 with rfl | h2
     · exact .inl hk
     · exact .inr h2
 · intro k todo done res _ hl0 ih h
   refine ih (fun j hj hl i hi => ?_)
   rcases List.mem_append.1 hj with hj | hj
   · rcases h j hj hl i hi with h2 | h2
     · exact .inl (by simp [h2])
     · rcases List.mem_cons.1 h2 with rfl | h2
       · exact .inl (by simp)
       · exact .inr h2
   · simp at hj; subst hj; rw [hl0] at hl; cases hl
 · intro k todo done res _ hl0 ih h
   refine ih (fun j hj hl i hi => ?_)
   rcases List.mem_append.1 hj with hj | hj
   · rcases h j hj hl i hi with h2 | h2
     · exact .inl (by simp [h2])
     · rcases List.mem_cons.1 h2 with rfl | h2
       · exact .inl (by simp)
       · exact .inr (by simp [h2])
   · simp at hj; subst hj; exact .inr (by simp [hi])
theorem reach_sub {nums nums' : List Int} (h : ∀ k ∈ nums, k ∈ nums') : ∀ k ∈ reach look lv keys nums [], k ∈ reach look lv keys nums' [] :=
 reach_sound hkeys (C := (· ∈ reach look lv keys nums' [])) (fun j hj hl k hk => reach_closed hkeys nums' [] (fun j hj => by cases hj) j hj hl k hk) nums [] (fun k hk => (reach_start hkeys nums' []).1 k (h k hk)) (fun k hk => by cases hk)
omit hkeys in
theorem left_bound {m : Nat} (hm : ∀ k, (look k).1.elems.length ≤ m) (done : List Int) : left look lv keys done ≤ keys.length * m := by
 unfold left
 induction keys with
 | nil => simp
 | cons x keys ih =>
   have h1 : (pushes lv (look x).1).length ≤ m := by unfold pushes; rw [List.length_map]; exact Nat.le_trans (List.length_filter_le _ _) (hm x)
   have h2 : (keys.length + 1) * m = keys.length * m + m := by rw [Nat.add_mul]; simp
   rw [List.filter_cons]
   split
   · simp only [List.map_cons, List.sum_cons, List.length_cons]; omega
   · simp only [List.length_cons]; omega
omit hkeys in
theorem cost_bound {m : Nat} (hm : ∀ k, (look k).1.elems.length ≤ m) (nums : List Int) : cost look lv keys nums [] ≤ nums.length + keys.length * m := by
 have := left_bound (lv := lv) (keys := keys) hm []
 unfold cost; omega
omit hkeys in
theorem mem_recs_iff {done : List Int} {p : KR} : p ∈ recsOf look done ↔ p.1 ∈ done ∧ (look p.1).2 = true ∧ p.2 = (look p.1).1 := by
 refine ⟨mem_recs, ?_⟩
 have hput : ∀ (R : List KR) (x y : KR), (∀ q ∈ R, q.2 = (look q.1).1) → x.2 = (look x.1).1 → (y ∈ R ∨ y = x) → y ∈ put cmpKR R x := by
  intro R x y hR hx h
  unfold put
  split
  · rename_i hh
    rcases h with h | h
    · exact h
    · obtain ⟨z, hz, e⟩ := has_iff.1 hh
      have e1 : z.1 = x.1 := cmpInt_eq.1 e
      have : z = x := Prod.ext e1 (by rw [hR z hz, hx, e1])
      rw [h, ← this]; exact hz
  · rename_i hh
    simp only [List.mem_append, List.mem_cons]
    rcases h with h | h
    · have := has_false.1 (by simpa using hh) y h
      rcases Int.lt_trichotomy (cmpKR y x) 0 with h2 | h2 | h2
      · exact .inl (mem_below.2 ⟨h, h2⟩)
      · exact absurd h2 this
      · exact .inr (.inr (mem_above.2 ⟨h, h2⟩))
    · exact .inr (.inl h)
 have : ∀ (done : List Int) (R : List KR), (∀ q ∈ R, q.2 = (look q.1).1) → ∀ p : KR, (p ∈ R ∨ (p.1 ∈ done ∧ (look p.1).2 = true ∧ p.2 = (look p.1).1)) → p ∈ done.foldl (addR look) R := by
  intro done
  induction done with
  | nil => intro R _ p h; rcases h with h | h; exact h; cases h.1
  | cons k done ih =>
    intro R hR p h
    have hR' : ∀ q ∈ addR look R k, q.2 = (look q.1).1 := by
     intro q hq
     unfold addR at hq
     split at hq
     · rcases mem_put hq with hq | rfl
       · exact hR q hq
       · rfl
     · exact hR q hq
    refine ih _ hR' p ?_
    rcases h with h | ⟨h1, h2, h3⟩
    · left; unfold addR; split
      · exact hput R _ p hR rfl (.inl h)
      · exact h
    · rcases List.mem_cons.1 h1 with h4 | h4
      · left; unfold addR
        rw [← h4, if_pos h2]
        exact hput R _ p hR rfl (.inr (Prod.ext rfl h3))
      · exact .inr ⟨h4, h2, h3⟩
 exact fun h => this done [] (fun q hq => by cases hq) p (.inr h)
omit hkeys in
theorem recs_sub {d d' : List Int} (h : ∀ k ∈ d, k ∈ d') : (recsOf look d).Sublist (recsOf look d') :=
 srt_sub tc_kr (srt_recs look d) (srt_recs look d') (fun p hp => by obtain ⟨h1, h2, h3⟩ := mem_recs hp; exact mem_recs_iff.2 ⟨h p.1 h1, h2, h3⟩)
omit hkeys in
theorem lost_sub {d d' : List Int} (hn : d.Nodup) (h : ∀ k ∈ d, k ∈ d') : lostOf look d ≤ lostOf look d' := by
 unfold lostOf
 exact nodup_len (hn.sublist List.filter_sublist) (fun x hx => by rw [List.mem_filter] at hx ⊢; exact ⟨h x hx.1, hx.2⟩)
theorem trail_same {nums nums' : List Int} (h : ∀ k, k ∈ nums ↔ k ∈ nums') : trailV look lv (reach look lv keys nums []) = trailV look lv (reach look lv keys nums' []) := by
 have h1 := reach_sub (lv := lv) hkeys (fun k hk => (h k).1 hk)
 have h2 := reach_sub (lv := lv) hkeys (fun k hk => (h k).2 hk)
 have e1 : recsOf look (reach look lv keys nums []) = recsOf look (reach look lv keys nums' []) := (recs_sub h1).eq_of_length_le (recs_sub h2).length_le
 have e2 : lostOf look (reach look lv keys nums []) = lostOf look (reach look lv keys nums' []) := Nat.le_antisymm (lost_sub (reach_nodup hkeys nums List.nodup_nil) h1) (lost_sub (reach_nodup hkeys nums' List.nodup_nil) h2)
 unfold trailV; rw [e1, e2]
omit hkeys in
theorem sub_nodup : ∀ {l : List KR}, Srt cmpKR l → (l.map (·.1)).Nodup
 | [], _ => by simp
 | p :: l, h => by
   obtain ⟨h1, h2⟩ := List.pairwise_cons.1 h
   rw [List.map_cons, List.nodup_cons]
   refine ⟨fun hm => ?_, sub_nodup h2⟩
   obtain ⟨q, hq, e⟩ := List.mem_map.1 hm
   have := h1 q hq
   have := cmpInt_eq.2 e.symm
   unfold cmpKR at *; omega
theorem recs_le (done : List Int) : (recsOf look done).length ≤ keys.length := by
 have := nodup_len (sub_nodup (srt_recs look done)) (m := keys) (fun k hk => by
  obtain ⟨p, hp, rfl⟩ := List.mem_map.1 hk
  exact hkeys _ (mem_recs hp).2.1)
 simpa using this
omit hkeys in
theorem recs_lost {done : List Int} (h : done.Nodup) : (recsOf look done).length + lostOf look done = done.length := by
 have e1 : (recsOf look done).length = (done.filter fun k => (look k).2).length := by
  refine Nat.le_antisymm ?_ ?_
  · have := nodup_len (sub_nodup (srt_recs look done)) (m := done.filter fun k => (look k).2) (fun k hk => by
     obtain ⟨p, hp, rfl⟩ := List.mem_map.1 hk
     have := mem_recs hp
     exact List.mem_filter.2 ⟨this.1, this.2.1⟩)
    simpa using this
  · have := nodup_len (h.sublist (List.filter_sublist (p := fun k => (look k).2))) (m := (recsOf look done).map (·.1)) (fun k hk => by
     obtain ⟨h1, h2⟩ := List.mem_filter.1 hk
     exact List.mem_map.2 ⟨(k, (look k).1), mem_recs_iff.2 ⟨h1, h2, rfl⟩, rfl⟩)
    simpa using this
 rw [e1]; unfold lostOf
 have : ∀ (f : Int → Bool) (l : List Int), (l.filter f).length + (l.filter fun k => !f k).length = l.length := by
  intro f l
  induction l with
  | nil => rfl
  | cons x l ih =>
    simp only [List.filter_cons]
    cases f x <;> simp <;> omega
 exact this _ _
end
theorem put_mem {α : Type} {cmp : α → α → Int} {l : List α} {x y : α} (h : y ∈ l) : y ∈ put cmp l x := by
 unfold put
 split
 · exact h
 · rename_i hh
   have := has_false.1 (by simpa using hh) y h
   simp only [List.mem_append, List.mem_cons]
   rcases Int.lt_trichotomy (cmp y x) 0 with h2 | h2 | h2
   · exact .inl (mem_below.2 ⟨h, h2⟩)
   · exact absurd h2 this
   · exact .inr (.inr (mem_above.2 ⟨h, h2⟩))
theorem put_self {α : Type} {cmp : α → α → Int} (t : TC cmp) (l : List α) (x : α) : ∃ y ∈ put cmp l x, cmp y x = 0 := by
 unfold put
 split
 · rename_i hh; exact has_iff.1 hh
 · exact ⟨x, by simp, t.refl x⟩
theorem puts_mem {α : Type} {cmp : α → α → Int} {xs l : List α} {y : α} (h : y ∈ puts cmp l xs) : y ∈ l ∨ y ∈ xs := by
 induction xs generalizing l with
 | nil => exact .inl h
 | cons x xs ih =>
   rcases ih (show y ∈ puts cmp (put cmp l x) xs from h) with h | h
   · rcases mem_put h with h | h
     · exact .inl h
     · exact .inr (by simp [h])
   · exact .inr (by simp [h])
theorem puts_keep {α : Type} {cmp : α → α → Int} {xs l : List α} {y : α} (h : y ∈ l) : y ∈ puts cmp l xs := by
 induction xs generalizing l with
 | nil => exact h
 | cons x xs ih => exact ih (put_mem h)
theorem puts_has {α : Type} {cmp : α → α → Int} (t : TC cmp) {xs l : List α} {x : α} (h : x ∈ xs) : ∃ y ∈ puts cmp l xs, cmp y x = 0 := by
 induction xs generalizing l with
 | nil => cases h
 | cons z xs ih =>
   rcases List.mem_cons.1 h with rfl | h
   · obtain ⟨y, hy, e⟩ := put_self t l x
     exact ⟨y, puts_keep (xs := xs) hy, e⟩
   · exact ih (l := put cmp l z) h
theorem srt_grounds (lv : Int) (R : List KR) : Srt cmpTag (groundsOf lv R) := Srt.puts tc_tag _ Srt.nil
theorem mem_grounds {lv : Int} {R : List KR} {e : TraceT} (h : e ∈ groundsOf lv R) : ∃ p ∈ R, ∃ x ∈ p.2.elems, x.level < lv ∧ e = bare x := by
 rcases puts_mem h with h | h
 · cases h
 · obtain ⟨p, hp, h⟩ := List.mem_flatMap.1 h
   obtain ⟨x, hx, rfl⟩ := List.mem_map.1 h
   obtain ⟨h1, h2⟩ := List.mem_filter.1 hx
   exact ⟨p, hp, x, h1, by simpa using h2, rfl⟩
theorem grounds_more {lv : Int} {R R' : List KR} (h : ∀ p ∈ R, p ∈ R') {e : TraceT} (he : e ∈ groundsOf lv R) : ∃ e' ∈ groundsOf lv R', e.elem.tag = e'.elem.tag := by
 rcases puts_mem he with h2 | h2
 · cases h2
 · obtain ⟨p, hp, h2⟩ := List.mem_flatMap.1 h2
   obtain ⟨y, hy, e⟩ := puts_has tc_tag (l := []) (xs := R'.flatMap fun p => lows lv p.2) (List.mem_flatMap.2 ⟨p, h p hp, h2⟩)
   exact ⟨y, hy, (cmpInt_eq.1 e).symm⟩
theorem once_nodup : ∀ (l a : List Sym), a.Nodup → (l.foldl once a).Nodup ∧ ∀ s, s ∈ l.foldl once a ↔ s ∈ a ∨ s ∈ l
 | [], a, h => ⟨h, fun s => by simp⟩
 | x :: l, a, h => by
   have h1 : (once a x).Nodup ∧ ∀ s, s ∈ once a x ↔ s ∈ a ∨ s = x := by
    unfold once
    split
    · rename_i hx
      exact ⟨h, fun s => ⟨.inl, fun h => by rcases h with h | rfl; exact h; exact hx⟩⟩
    · rename_i hx
      refine ⟨?_, fun s => by simp⟩
      rw [List.nodup_append]
      refine ⟨h, by simp, fun u hu b hb => ?_⟩
      simp at hb; subst hb; exact fun e => hx (e ▸ hu)
   obtain ⟨h2, h3⟩ := once_nodup l (once a x) h1.1
   refine ⟨h2, fun s => ?_⟩
   simp only [List.foldl_cons]
   rw [h3, h1.2, List.mem_cons]
   constructor
   · rintro ((h | h) | h)
     · exact .inl h
     · exact .inr (.inl h)
     · exact .inr (.inr h)
   · rintro (h | h | h)
     · exact .inl (.inl h)
     · exact .inl (.inr h)
     · exact .inr h
theorem news_le {R R' : List KR} (h : ∀ p ∈ R, p ∈ R') : (newsOf R).length ≤ (newsOf R').length := by
 obtain ⟨h1, h2⟩ := once_nodup (R.flatMap fun p => p.2.news) [] List.nodup_nil
 obtain ⟨_, h3⟩ := once_nodup (R'.flatMap fun p => p.2.news) [] List.nodup_nil
 refine nodup_len h1 (fun s hs => (h3 s).2 (.inr ?_))
 rcases (h2 s).1 hs with h4 | h4
 · cases h4
 · obtain ⟨p, hp, h5⟩ := List.mem_flatMap.1 h4
   exact List.mem_flatMap.2 ⟨p, h p hp, h5⟩
theorem flatlen_le {α β : Type} {l m : List α} (h : l.Sublist m) (f : α → List β) : (l.flatMap f).length ≤ (m.flatMap f).length := by
 induction h with
 | slnil => simp
 | cons a _ ih => simp only [List.flatMap_cons, List.length_append]; omega
 | cons_cons a _ ih => simp only [List.flatMap_cons, List.length_append]; omega
theorem lookR_keys (l : List RecordT) : ∀ k, (lookR l k).2 = true → k ∈ l.map RecordT.num := fun k h => by
 obtain ⟨h1, h2⟩ := lookR_num h
 exact List.mem_map.2 ⟨_, h1, h2⟩
theorem lookR_all {l : List RecordT} {Q : RecordT → Prop} (h0 : Q zRec) (h : ∀ r ∈ l, Q r) (k : Int) : Q (lookR l k).1 := by
 cases hb : (lookR l k).2 with
 | true => exact h _ (lookR_num hb).1
 | false => rw [lookR_none hb]; exact h0
theorem smR_zero (n : Nat) : SmR n zRec := ⟨by simp [zRec], by simp [zRec], by simp [zRec], by simp [zRec], fun h hh => by simp [zRec] at hh⟩
theorem light_cost {l : List RecordT} (h0 : l.length ≤ 20) (h : ∀ r ∈ l, r.elems.length ≤ 20) (lv : Int) (nums : List Int) (hn : nums.length ≤ 100) : cost (lookR l) lv (l.map RecordT.num) nums [] ≤ 100000 ∧ (recsOf (lookR l) (reach (lookR l) lv (l.map RecordT.num) nums [])).length ≤ 500 := by
 have h1 := cost_bound (look := lookR l) (lv := lv) (keys := l.map RecordT.num) (m := 20) (lookR_all (Q := fun r => r.elems.length ≤ 20) (by simp [zRec]) h) nums
 have h2 := recs_le (lookR_keys l) (reach (lookR l) lv (l.map RecordT.num) nums [])
 rw [List.length_map] at h1 h2
 have : l.length * 20 ≤ 20 * 20 := Nat.mul_le_mul_right 20 h0
 exact ⟨by omega, by omega⟩
end Go.Proofs.Ytnfgilbaglfkeaa
