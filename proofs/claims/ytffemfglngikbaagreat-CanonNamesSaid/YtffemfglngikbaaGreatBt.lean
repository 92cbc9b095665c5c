/-
  Texts put together: RefPlain, Ref06A, Ref06B.
-/
import Derived.Test.YtffemfglngikbaaGreatBq
import Derived.Test.YtffemfglngikbaaGreatBs
import Derived.IntWalk
import Derived.Test.YtffemfglngikbaaGreatBg
import Derived.Test.YtffemfglngikbaaGreatBc
namespace Go.Proofs.YtffemfglngikbaaGreat
open Go.RowKit Go.Shelf
def namesW (k : Nat) : List ByteArray := (List.range k).map fun i => nameW (i + 1)
theorem namesW_len (k : Nat) : (namesW k).length = k := by simp [namesW]
theorem namesW_succ (k : Nat) : namesW (k + 1) = namesW k ++ [nameW (k + 1)] := by simp [namesW, List.range_succ]
theorem namesW_at {k i : Nat} (h : i < k) : (namesW k)[i]? = some (nameW (i + 1)) := by simp [namesW, h]
theorem otherT_ix {v : ByteArray} : ∀ (l m : List ByteArray) (i : Nat) (x : ByteArray), v ∈ l → ixOf v l = i → m[i]? = some x → otherT l m v = x
 | a :: l, b :: m, i, x, hv, hi, hx => by
   rw [otherT]
   by_cases e : a = v
   · rw [if_pos e]
     rw [ixOf, if_pos e] at hi
     subst hi
     simpa using hx
   · rw [if_neg e]
     rw [ixOf, if_neg e] at hi
     subst hi
     exact otherT_ix l m _ x (by rcases List.mem_cons.1 hv with h | h; exact absurd h.symm e; exact h) rfl (by simpa using hx)
 | a :: l, [], i, x, hv, hi, hx => by simp at hx
theorem otherT_num {us : List ByteArray} {v : ByteArray} (hv : v ∈ us) : otherT us (namesW us.length) v = numT us v := by
 rw [numT, if_pos hv]
 exact otherT_ix us _ _ _ hv rfl (namesW_at (ixOf_lt hv).1)
section
variable {t t' : ByteArray → ByteArray}
theorem one_congr {v : ByteArray} (h : ∀ x ∈ oneN v, t x = t' x) : oneR t v = oneR t' v := by
 by_cases hv : v.toList = []
 · rw [oneR, oneR, if_pos hv, if_pos hv]
 · rw [oneN_yes hv] at h
   rw [oneR, oneR, if_neg hv, if_neg hv, h v (by simp)]
theorem tests_congr {l : List TestT} (h : ∀ x ∈ varsT l, t x = t' x) : l.map (testR t) = l.map (testR t') := by
 refine List.map_congr_left fun x hx => ?_
 show TestT.mk x.rel (oneR t x.var) x.sym x.list = _
 rw [one_congr (fun y hy => h y (List.mem_flatMap.2 ⟨x, hx, hy⟩))]
 rfl
theorem cond_congr : ∀ (n : Nat) (c : CondT), (∀ x ∈ namesN n c, t x = t' x) → condR t n c = condR t' n c
 | 0, _, _ => rfl
 | n + 1, c, h => by
   have e : namesN (n + 1) c = oneN c.id ++ (varsT c.attr ++ (varsT c.value ++ c.conds.flatMap (namesN n))) := rfl
   rw [e] at h
   have h3 : c.conds.map (condR t n) = c.conds.map (condR t' n) :=
    List.map_congr_left fun x hx => cond_congr n x (fun y hy => h y (by simp only [List.mem_append, List.mem_flatMap]; exact .inr (.inr (.inr ⟨x, hx, hy⟩))))
   show CondT.mk c.kind c.goal (oneR t c.id) (c.attr.map (testR t)) (c.value.map (testR t)) c.acc (c.conds.map (condR t n)) = _
   rw [one_congr (fun y hy => h y (by simp [hy])), tests_congr (fun y hy => h y (by simp [hy])), tests_congr (fun y hy => h y (by simp [hy])), h3]
   rfl
theorem act_congr (a : ActT) (h : ∀ x ∈ varsA a, t x = t' x) : actR t a = actR t' a := by
 rw [vars5] at h
 show ActT.mk (oneR t a.id) ⟨oneR t a.attr.var, a.attr.sym⟩ ⟨a.value.op, ⟨oneR t a.value.a.var, a.value.a.sym⟩, ⟨oneR t a.value.b.var, a.value.b.sym⟩⟩ a.pref ⟨oneR t a.other.var, a.other.sym⟩ = _
 rw [one_congr (fun y hy => h y (by simp [hy])), one_congr (fun y hy => h y (by simp [hy])), one_congr (fun y hy => h y (by simp [hy])), one_congr (fun y hy => h y (by simp [hy])), one_congr (fun y hy => h y (by simp [hy]))]
 rfl
theorem prod_congr {n : Nat} {p : ProdT} (h : ∀ x ∈ varsP n p, t x = t' x) : prodR t n p = prodR t' n p := by
 unfold prodR
 congr 1
 · exact List.map_congr_left fun c hc => cond_congr n c (fun y hy => h y (mem_varsC hc hy))
 · exact List.map_congr_left fun a ha => act_congr a (fun y hy => h y (mem_varsA ha hy))
end
theorem rplain_eq (n : Nat) (p : ProdT) : plainP n p = ⟨⟨#[120]⟩, (prodR (otherT (uq (varsP n p)) (namesW (uq (varsP n p)).length)) n p).conds, (prodR (otherT (uq (varsP n p)) (namesW (uq (varsP n p)).length)) n p).acts⟩ := by
 rw [prod_congr (t' := numT (uq (varsP n p))) (fun x hx => otherT_num (uq_mem.2 hx))]
 rfl
structure RQ (W0 : World) (out : List ByteArray) (A : Option Addr) (cp : Nat) (w : World) : Prop where
 own : w.ownsRow 0 9 1 (.slice A out.length cp) out.length (out.flatMap strC)
 ain : AIn A (W0.heap.size ≤ ·)
 bel : Below W0.heap.size W0 w
section
variable {W0 w w' : World} {A : Option Addr} {cp : Nat} {out ys : List ByteArray}
theorem RQ.new_ (h : RQ W0 out A cp w) (hb : Below w.heap.size w w') : RQ W0 out A cp w' := ⟨ownsRow_new h.own hb, h.ain, h.bel.trans (hb.mono h.bel.size)⟩
theorem RQ.app {v : Value} (h : RQ W0 out A cp w) (hown : w'.ownsRow 0 9 1 v (out.length + ys.length) (out.flatMap strC ++ ys.flatMap strC)) (hg : w.grownBy w' (Value.slice A out.length cp).ownBlock) (hat : v.ownBlock = (Value.slice A out.length cp).ownBlock ∨ v.ownBlock = some w.heap.size) :
 ∃ A' c', v = .slice A' (out ++ ys).length c' ∧ RQ W0 (out ++ ys) A' c' w' := by
 obtain ⟨A', c', rfl, h1, h2, h3, h4⟩ := grown_str hown hg hat h.ain h.bel.size
 exact ⟨A', c', rfl, ⟨h1, h2, h.bel.trans h3⟩⟩
end
theorem RQ.appN {W0 w w' : World} {A : Option Addr} {cp j : Nat} {out ys : List ByteArray} {v : Value} (h : RQ W0 out A cp w) (hl : out.length = j) (hown : w'.ownsRow 0 9 1 v (j + ys.length) (out.flatMap strC ++ ys.flatMap strC)) (hg : w.grownBy w' (Value.slice A j cp).ownBlock) (hat : v.ownBlock = (Value.slice A j cp).ownBlock ∨ v.ownBlock = some w.heap.size) :
 ∃ A' c', v = .slice A' (out ++ ys).length c' ∧ RQ W0 (out ++ ys) A' c' w' := by
 subst hl
 exact h.app hown hg hat
theorem inB_dec (l : List ByteArray) (v : ByteArray) : inB l v = decide (v ∈ l) := by
 unfold inB
 by_cases h : v ∈ l
 · rw [decide_eq_true h, List.any_eq_true]
   exact ⟨v, h, by simp⟩
 · rw [decide_eq_false h, List.any_eq_false]
   intro x hx e
   have e2 : x = v := by
    by_cases e3 : x = v
    · exact e3
    · exact absurd (of_decide_eq_true e) (toList_ne e3)
   exact h (e2 ▸ hx)
set_option maxRecDepth 100000 in
set_option maxHeartbeats 16000000 in
theorem rplain_is {D : Nat → Prop} (n : Nat) (p : ProdT) (A1 : Option Addr) (c1 : Nat) (A2 : Option Addr) (c2 : Nat) (w : World)
 (h1 : RowR (repCondT n) D w A1 c1 p.conds) (h2 : RowR repActT D w A2 c2 p.acts) (hl1 : p.conds.length ≤ 1000) (hl2 : p.acts.length ≤ 1000) (hs : ∀ x ∈ p.conds, SmC n x) (hlen : (varsP n p).length ≤ 100000) :
 Calls Tryz.prog 39 #[.agg #[.string p.name, .slice A1 p.conds.length c1, .slice A2 p.acts.length c2]] w (FreshP n (plainP n p) w) := by
 obtain ⟨i0, hi0, hz0, hz1, hz2⟩ := info_parts info_Str
 have HPE := Lib.hid (rplain_eq n p)
 obtain ⟨vs, hvs⟩ : ∃ vs, vs = varsP n p := ⟨_, rfl⟩
 rw [← hvs] at hlen HPE
 have HRV := Lib.hid (show ∀ Y, Below w.heap.size w Y → Calls Tryz.prog 99 #[.agg #[.string p.name, .slice A1 p.conds.length c1, .slice A2 p.acts.length c2]] Y (StrsTo Y vs) from fun Y hY => by rw [hvs]; exact rvars_is n p A1 c1 A2 c2 D Y (h1.new_ hY) (h2.new_ hY) hs hl2 (by rw [← hvs]; exact hlen))
 have H1 := Lib.hid h1
 have H2 := Lib.hid h2
 have HS := Lib.hid hs
 clear hvs h1 h2 hs
 go_enter Tryz.func39, Tryz.ntmps39
 go_upto_region 1 with fail
 obtain ⟨w1, hw1⟩ : ∃ w1, w1 = ((w.alloc (.cells #[.string p.name, .slice A1 p.conds.length c1, .slice A2 p.acts.length c2] 25)).alloc (.cells #[.string ⟨#[]⟩, .slice none 0 0, .slice none 0 0] 25)) := ⟨_, rfl⟩
 rw [← hw1]
 have HB := Lib.hid (show Below w.heap.size w w1 by rw [hw1]; exact (by repeat (first | exact Below.refl _ _ | refine Below.drew ?_ | refine Below.al ?_ _ | refine Below.sc ?_ _)))
 have Kp := Lib.hid (show Blk w1 (w.heap.size) 25 #[.string p.name, .slice A1 p.conds.length c1, .slice A2 p.acts.length c2] by rw [hw1]; exact ((Blk.new w 25 #[.string p.name, .slice A1 p.conds.length c1, .slice A2 p.acts.length c2]).alloc (.cells #[.string ⟨#[]⟩, .slice none 0 0, .slice none 0 0] 25)))
 have Kr := Lib.hid (show Blk w1 (w.heap.size + 1) 25 #[.string ⟨#[]⟩, .slice none 0 0, .slice none 0 0] by rw [hw1]; have hh := (Blk.new (w.alloc (.cells #[.string p.name, .slice A1 p.conds.length c1, .slice A2 p.acts.length c2] 25)) 25 #[.string ⟨#[]⟩, .slice none 0 0, .slice none 0 0]); simp only [World.size_alloc] at hh; exact hh)
 clear hw1
 obtain ⟨p0, p1, p2⟩ := Kp.out.c3
 have pz := Kp.out.lt
 obtain ⟨r0, r1, r2⟩ := Kr.out.c3
 have rz := Kr.out.lt
 go_wp2_with fail
 with_reducible refine (HRV.out _ (by (repeat (first | exact Below.refl _ _ | exact HB.out | refine Below.drew ?_ | refine Below.al ?_ _ | refine Below.sc ?_ _)))).mono ?_
 rintro e w2 ⟨Ar, cr, rfl, hor, _, hb⟩
 have hbs := Below.trans (show Below w1.heap.size w1 _ from (by (repeat (first | exact Below.refl _ _ | refine Below.drew ?_ | refine Below.al ?_ _ | refine Below.sc ?_ _)))) (hb.mono (by simp <;> omega))
 have Kp := Lib.hid (Kp.out.new_ hbs)
 have Kr := Lib.hid (Kr.out.new_ hbs)
 have HB := Lib.hid (HB.out.trans (hbs.mono HB.out.size))
 have hsz2 := hbs.size
 clear p0 p1 p2 pz r0 r1 r2 rz hb hbs
 obtain ⟨p0, p1, p2⟩ := Kp.out.c3
 have pz := Kp.out.lt
 obtain ⟨r0, r1, r2⟩ := Kr.out.c3
 have rz := Kr.out.lt
 have HRR := Lib.hid (strs_row rfl hor)
 have hcr := (strs_row rfl hor).1
 have hcm := (strs_row rfl hor).2.1
 clear hor
 have HQ0 := Lib.hid (show RQ w2 [] none 0 w2 from ⟨owns_nilC _ _ _, AIn.none_ _, Below.refl _ _⟩)
 clear p0 p1 p2 pz r0 r1 r2 rz 
 go_wp2_with fail
 go_loopw [3, 5] (fun v s wr => ∃ (i : Nat) (out : List ByteArray) (A : Option Addr) (cp : Nat), s = .int .i64 i ∧ v = .slice A out.length cp ∧ i ≤ vs.length ∧ out = uq (vs.take i) ∧ RQ w2 out A cp wr) (fun v s wr => vs.length - (intOf s).toNat)
 case atStart => exact ⟨0, [], none, 0, rfl, rfl, Nat.zero_le _, rfl, HQ0.out⟩
 case round =>
  clear HQ0
  obtain ⟨i, out, A, cp, rfl, rfl, hi, hout, hn⟩ := hrel
  have HNR := Lib.hid hn
  have HOUT := Lib.hid hout
  have hol : out.length ≤ 100000 := by have h1 := uq_len (vs.take i); rw [← hout] at h1; have h2 : (vs.take i).length ≤ i := by rw [List.length_take]; omega
                                       omega
  clear hn hout
  by_cases hlt : i < vs.length
  · obtain ⟨x, hx⟩ : ∃ x, x = vs[i] := ⟨_, rfl⟩
    obtain ⟨g, off, rfl, hg, q0⟩ := str_at (HRR.out.new_ HNR.out.bel) hlt
    rw [← hx] at q0
    have HUQ := Lib.hid (show uq (vs.take (i + 1)) = uqStep (uq (vs.take i)) x by rw [← take_snoc hlt, uq_snoc, hx])
    obtain ⟨b, hb⟩ : ∃ b, b = decide (x ∈ out) := ⟨_, rfl⟩
    have HIN := Lib.hid (show ∀ Y, Below wr.heap.size wr Y → Calls Tryz.prog 82 #[.slice A out.length cp, .string x] Y fun e w' => e = .returned (.bool b) ∧ Y = w' from fun Y hY => by rw [hb, ← inB_dec]; exact inB_is out x Y (strs_row rfl (ownsRow_new HNR.out.own hY)))
    have HBB := Lib.hid hb
    have j1 : (0 : Int) ≤ (i : Int) := by omega
    have j2 : (i : Int) < (vs.length : Int) := by omega
    clear hx hb
    go_wp2_with fail
    refine (HIN.out wr (Below.refl _ _)).mono ?_
    rintro e w0 ⟨rfl, rfl⟩
    cases b with
    | true =>
      have HON := Lib.hid (show out = uq (vs.take (i + 1)) by rw [HUQ.out, uqStep, ← HOUT.out, if_pos (of_decide_eq_true HBB.out.symm)])
      go_wp2_with fail
      go_roundw
      case rel => exact ⟨i + 1, out, A, cp, by go_num, rfl, by omega, HON.out, HNR.out⟩
      case measure => simp [intOf] <;> omega
    | false =>
      have HON := Lib.hid (show out ++ [x] = uq (vs.take (i + 1)) by rw [HUQ.out, uqStep, ← HOUT.out, if_neg (of_decide_eq_false HBB.out.symm)])
      obtain ⟨Y9, hY9⟩ : ∃ Y9, Y9 = wr.alloc (.cells #[.string x] 9) := ⟨_, rfl⟩
      have hb9 : Below wr.heap.size wr Y9 := by rw [hY9]; exact (Below.refl _ _).alloc (Nat.le_refl _) _
      have HY9 := Lib.hid hY9
      have HN9 := Lib.hid (HNR.out.new_ hb9)
      have HW9 := Lib.hid (show 0 < 1 → ∃ ad, (some (⟨wr.heap.size, 0, none⟩ : Addr)) = some ad ∧ ∀ j u, ([x].flatMap strC)[j]? = some u → Y9.cell? (ad.add j) = some u from fun _ => ⟨_, rfl, by rw [hY9]; exact World.news_of_block (heap_alloc_new _ _)⟩)
      clear hY9 hb9
      go_wp2_with (at_builtin; rw [← HY9.out]; refine wpList_append_src Y9 rfl (.tmp 24) (.tmp 29) 117 rfl 9 i0 _ 1 16 Tryz.underlying117 hi0 hz0 hz1 hz2 rfl (by decide) (.slice A out.length cp) out.length (out.flatMap strC) rfl HN9.out.own (some ⟨wr.heap.size, 0, none⟩) 1 1 ([x].flatMap strC) rfl rfl HW9.out (str_one _) (by unfold maxLen; omega) (by omega) ?_; intro v1 w9 hown1 hg1 hnil1 hat1; obtain ⟨A9, c9, rfl, hn9⟩ := HN9.out.app (ys := [x]) hown1 hg1 hat1; have HN10 := Lib.hid hn9; clear hown1 hg1 hnil1 hat1 hn9)
      go_roundw
      case rel => exact ⟨i + 1, out ++ [x], A9, c9, by go_num, by simp, by omega, HON.out, HN10.out⟩
      case measure => simp [intOf] <;> omega
  · obtain rfl : i = vs.length := by omega
    obtain ⟨us, hus⟩ : ∃ us, us = uq vs := ⟨_, rfl⟩
    have hou : out = us := by rw [HOUT.out, List.take_length, hus]
    subst hou
    rw [← hus] at HPE
    obtain ⟨wm, hwm⟩ : ∃ wm, wm = wr := ⟨_, rfl⟩
    rw [← hwm] at HNR ⊢
    have HBM := Lib.hid (HB.out.trans (HNR.out.bel.mono HB.out.size))
    have HUR := Lib.hid (strs_row rfl HNR.out.own)
    have hcu := (strs_row rfl HNR.out.own).1
    have hcv := (strs_row rfl HNR.out.own).2.1
    have HQ0 := Lib.hid (show RQ wm (namesW 0) none 0 wm from ⟨owns_nilC _ _ _, AIn.none_ _, Below.refl _ _⟩)
    clear hus hwm HOUT
    go_wp2_with fail
    go_loopw [6, 7] (fun v s wr => ∃ (j : Nat) (A : Option Addr) (cp : Nat), s = .int .i64 j ∧ v = .slice A j cp ∧ j ≤ out.length ∧ RQ wm (namesW j) A cp wr) (fun v s wr => out.length - (intOf s).toNat)
    case atStart => exact ⟨0, none, 0, rfl, rfl, Nat.zero_le _, HQ0.out⟩
    case round =>
     clear HQ0
     obtain ⟨j, B, bp, rfl, rfl, hj, hn⟩ := hrel
     have HNJ := Lib.hid hn
     clear hn
     by_cases hlt : j < out.length
     · have j1 : (0 : Int) ≤ (j : Int) := by omega
       have j2 : (j : Int) < (out.length : Int) := by omega
       have vw : IntKind.i64.wrap ((j : Int) + 1) = (j : Int) + 1 := IntWalk.i64_in _ (by omega)
       obtain ⟨x, hx⟩ : ∃ x, x = decB (j + 1) := ⟨_, rfl⟩
       have hxs : x.size ≤ 100010 := by rw [hx]; have := decB_size (j + 1); omega
       have hcz : ¬ 9223372036854775807 < 1 + x.size := by omega
       have HNUM := Lib.hid (show ∀ Y, Calls Tryz.prog 100 #[.int .i64 ((j : Int) + 1)] Y fun e w' => e = .returned (.string x) ∧ Below Y.heap.size Y w' from fun Y => by
        have := rnumber_is ((j : Int) + 1) (by omega) (by omega) Y
        rw [show numB ((j : Int) + 1) = x by rw [hx, show ((j : Int) + 1) = ((j + 1 : Nat) : Int) by omega, numB_nat]] at this
        exact this)
       have HNW := Lib.hid (show namesW j ++ [(⟨#[118]⟩ : ByteArray) ++ x] = namesW (j + 1) by rw [namesW_succ, nameW, hx])
       have HNL := Lib.hid (show (namesW j).length = j from namesW_len j)
       clear hx
       go_wp2_with fail
       refine (HNUM.out _).mono ?_
       rintro e w5 ⟨rfl, hb5⟩
       have HN5 := Lib.hid (HNJ.out.new_ hb5)
       obtain ⟨Y9, hY9⟩ : ∃ Y9, Y9 = w5.alloc (.cells #[.string ((⟨#[118]⟩ : ByteArray) ++ x)] 9) := ⟨_, rfl⟩
       have hb9 : Below w5.heap.size w5 Y9 := by rw [hY9]; exact (Below.refl _ _).alloc (Nat.le_refl _) _
       have HY9 := Lib.hid hY9
       have HN9 := Lib.hid (HN5.out.new_ hb9)
       have HW9 := Lib.hid (show 0 < 1 → ∃ ad, (some (⟨w5.heap.size, 0, none⟩ : Addr)) = some ad ∧ ∀ j u, ([(⟨#[118]⟩ : ByteArray) ++ x].flatMap strC)[j]? = some u → Y9.cell? (ad.add j) = some u from fun _ => ⟨_, rfl, by rw [hY9]; exact World.news_of_block (heap_alloc_new _ _)⟩)
       have HOW9 := Lib.hid (show Y9.ownsRow 0 9 1 (.slice B j bp) j ((namesW j).flatMap strC) by have := HN9.out.own; rwa [HNL.out] at this)
       clear hY9 hb9 hb5
       go_wp2_with (at_builtin; rw [← HY9.out]; refine wpList_append_src Y9 rfl (.tmp 37) (.tmp 42) 117 rfl 9 i0 _ 1 16 Tryz.underlying117 hi0 hz0 hz1 hz2 rfl (by decide) (.slice B j bp) j ((namesW j).flatMap strC) rfl HOW9.out (some ⟨w5.heap.size, 0, none⟩) 1 1 ([(⟨#[118]⟩ : ByteArray) ++ x].flatMap strC) rfl rfl HW9.out (str_one _) (by unfold maxLen; omega) (by omega) ?_; intro v1 w9 hown1 hg1 hnil1 hat1; obtain ⟨A9, c9, rfl, hn9⟩ := HN9.out.appN HNL.out (ys := [(⟨#[118]⟩ : ByteArray) ++ x]) hown1 hg1 hat1; rw [HNW.out, namesW_len]; rw [HNW.out] at hn9; have HN10 := Lib.hid hn9; clear hown1 hg1 hnil1 hat1 hn9)
       go_roundw
       case rel => exact ⟨j + 1, A9, c9, by go_num, rfl, by omega, HN10.out⟩
       case measure => simp [intOf] <;> omega
     · obtain rfl : j = out.length := by omega
       have HZM := Lib.hid (show Below w.heap.size w wr from HBM.out.trans (HNJ.out.bel.mono HBM.out.size))
       have HRW := Lib.hid (strs_row rfl HNJ.out.own)
       have HUW := Lib.hid (HUR.out.new_ HNJ.out.bel)
       have hkp := (Kp.out.new_ HNR.out.bel).new_ HNJ.out.bel
       have HRB := Lib.hid ((Kr.out.new_ HNR.out.bel).new_ HNJ.out.bel)
       have hok : OtherOk (.slice A out.length cp) (.slice B out.length bp) wr (otherT out (namesW out.length)) := fun v W hW => by
        have := otherR_is v out (namesW out.length) A B cp bp W (HUW.out.new_ hW) (HRW.out.new_ hW)
        rwa [namesW_len] at this
       have HREN := Lib.hid (rrename_is hok n p A1 c1 A2 c2 wr (Below.refl _ _) (H1.out.new_ HZM.out) (H2.out.new_ HZM.out) hl1 hl2 HS.out)
       obtain ⟨r, hr⟩ : ∃ r, r = prodR (otherT out (namesW out.length)) n p := ⟨_, rfl⟩
       rw [← hr] at HREN
       have HR := Lib.hid (show plainP n p = ⟨⟨#[120]⟩, r.conds, r.acts⟩ ∧ r.name = p.name by rw [HPE.out, hr]; exact ⟨rfl, rfl⟩)
       obtain ⟨b0, b1, b2⟩ := hkp.c3
       have bz := hkp.lt
       clear hok hr hkp
       go_wp2_with fail
       refine HREN.out.mono ?_
       rintro e w5 ⟨E1, d1, E2, d2, rfl, r1, r2, hb5⟩
       rw [HR.out.2]
       have hRr := HRB.out.new_ hb5
       obtain ⟨w6, hw6⟩ : ∃ W, W = w5.alloc (.cells #[.string p.name, .slice E1 r.conds.length d1, .slice E2 r.acts.length d2] 25) := ⟨_, rfl⟩
       have hb6 : Below w5.heap.size w5 w6 := by rw [hw6]; exact (Below.refl _ _).alloc (Nat.le_refl _) _
       have hg6 : Blk w6 w5.heap.size 25 #[.string p.name, .slice E1 r.conds.length d1, .slice E2 r.acts.length d2] := by rw [hw6]; exact Blk.new _ _ _
       obtain ⟨w7, hw7⟩ : ∃ W, W = w6.setCell ⟨w5.heap.size, 0, none⟩ (.string ⟨#[120]⟩) := ⟨_, rfl⟩
       have hg7 : Blk w7 w5.heap.size 25 #[.string ⟨#[120]⟩, .slice E1 r.conds.length d1, .slice E2 r.acts.length d2] := by rw [hw7]; exact hg6.set_ 0 _
       have hb7 : Below w5.heap.size w5 w7 := by rw [hw7]; exact hb6.setCell (Nat.le_refl _) _
       have g0 : w6.cell? ⟨w5.heap.size, 0, none⟩ = some (.string p.name) := (hg6.cell 0).trans rfl
       have gf := hg6.frozen 0
       have gl := hg6.lt
       have HW6 := Lib.hid hw6
       have HW7 := Lib.hid hw7
       have HG7 := Lib.hid hg7
       have HR7 := Lib.hid (hRr.new_ hb7)
       have hz5 := hb5.size
       have hzx := HZM.out.size
       have HRZ := Lib.hid HRB.out.lt
       have HB7 := Lib.hid (HZM.out.trans ((hb5.trans (hb7.mono hz5)).mono hzx))
       have HR1 := Lib.hid (r1.newD (B' := wr.heap.size) hb7 (Nat.le_refl _))
       have HR2 := Lib.hid (r2.newD (B' := wr.heap.size) hb7 (Nat.le_refl _))
       clear hb5 hb6 hb7 hg6 hg7 hw6 hw7 hRr r1 r2 b0 b1 b2 bz
       go_upto_region 14 with fail
       rw [← HW6.out]
       go_upto_region 15 with fail
       rw [← HW7.out]
       clear g0 gf gl HW6 HW7
       have HT9 := Lib.hid (show w7.there (w.heap.size + 1) 0 (#[Value.string ⟨#[120]⟩, Value.slice E1 r.conds.length d1, Value.slice E2 r.acts.length d2] : Array Value).size from HR7.out.there)
       have HRG := Lib.hid (show w7.rangeAt w5.heap.size 0 [Value.string ⟨#[120]⟩, Value.slice E1 r.conds.length d1, Value.slice E2 r.acts.length d2] from HG7.out.range)
       have hrl := HR7.out.lt
       have hgl := HG7.out.lt
       go_wp2_with (first | (with_reducible refine wpList_load_mid rfl 25 _ rfl w5.heap.size 0 rfl [Value.string ⟨#[120]⟩, Value.slice E1 r.conds.length d1, Value.slice E2 r.acts.length d2] _ HRG.out Tryz.underlying25 rfl (by kernel_rfl) ?_) | (with_reducible refine wpList_store_mid rfl 25 _ _ rfl (w.heap.size + 1) 0 #[Value.string ⟨#[120]⟩, Value.slice E1 r.conds.length d1, Value.slice E2 r.acts.length d2] rfl rfl HT9.out (by kernel_rfl) (by kernel_rfl) ?_))
       try simp only [Exit.inBlock, Exit.then]
       have hB8 : Below w.heap.size w (w7.setCells (w.heap.size + 1) 0 [Value.string ⟨#[120]⟩, Value.slice E1 r.conds.length d1, Value.slice E2 r.acts.length d2]) := Below.setCells' _ _ HB7.out (by omega)
       have hup : ∀ j, NewD wr.heap.size w7 j → j < w7.heap.size → NewD w.heap.size (w7.setCells (w.heap.size + 1) 0 [Value.string ⟨#[120]⟩, Value.slice E1 r.conds.length d1, Value.slice E2 r.acts.length d2]) j ∧ (w7.setCells (w.heap.size + 1) 0 [Value.string ⟨#[120]⟩, Value.slice E1 r.conds.length d1, Value.slice E2 r.acts.length d2]).heap[j]? = w7.heap[j]? := fun j hj hl => ⟨⟨by have := hj.1; omega, by rw [size_setCells]; omega⟩, blk_setCells _ _ _ _ _ (by have := hj.1; have := HRZ.out; omega)⟩
       refine bodyPost_ret (v := .agg #[.string ⟨#[120]⟩, .slice E1 r.conds.length d1, .slice E2 r.acts.length d2]) ?_ rfl (by rw [HR.out.1]; exact ⟨E1, d1, E2, d2, rfl, HR1.out.keep (by rw [size_setCells]; omega) hup, HR2.out.keep (by rw [size_setCells]; omega) hup, hB8⟩)
       exact results_cell (t := 2) (T := 25) rfl _ _ (w.heap.size + 1) [Value.string ⟨#[120]⟩, Value.slice E1 r.conds.length d1, Value.slice E2 r.acts.length d2] _ rfl (World.rangeAt_setCells_same w7 (w.heap.size + 1) 0 [Value.string ⟨#[120]⟩, Value.slice E1 r.conds.length d1, Value.slice E2 r.acts.length d2] HT9.out) Tryz.underlying25 rfl (by kernel_rfl)
end Go.Proofs.YtffemfglngikbaaGreat
namespace Go.Proofs.YtffemfglngikbaaGreat
open Go.RowKit Go.Shelf
attribute [local go_sem] Oper.semAt_some
set_option linter.unusedSimpArgs false
theorem eqz_sym (s : Sym) (W : World) : (binOp .eql 38 (.agg #[.int .i64 s.kind, .string s.text, .int .i64 s.n]) (.agg #[.int .i64 0, .string ⟨#[]⟩, .int .i64 0])).run Tryz.prog W = .ok (.bool (noneB s)) W := eql_sym s zS W
set_option maxRecDepth 100000 in
set_option maxHeartbeats 8000000 in
theorem rconst_is (s : Sym) (w : World) : Calls Tryz.prog 67 #[.agg #[.int .i64 s.kind, .string s.text, .int .i64 s.n]] w fun e w' => e = .returned (.bool (constB s)) ∧ Below w.heap.size w w' := by
 by_cases hk : s.kind = 1
 · skip
   have ka : (s.kind == 1) = true := by simp [hk]
   have kb : decide (s.kind = 1) = true := by simp [hk]
   have kc : (s.kind != 1) = false := by simp [hk]
   have HK := Lib.hid hk
   clear hk
   go_enter Tryz.func67, Tryz.ntmps67
   go_upto_region 1 with fail
   obtain ⟨w1, hw1⟩ : ∃ w1, w1 = (w.alloc (.cells #[.int .i64 s.kind, .string s.text, .int .i64 s.n] 38)) := ⟨_, rfl⟩
   rw [← hw1]
   have HB := Lib.hid (show Below w.heap.size w w1 by rw [hw1]; exact (by repeat (first | exact Below.refl _ _ | refine Below.drew ?_ | refine Below.al ?_ _ | refine Below.sc ?_ _)))
   have Ks := Lib.hid (show Blk w1 (w.heap.size) 38 #[.int .i64 s.kind, .string s.text, .int .i64 s.n] by rw [hw1]; exact (Blk.new w 38 #[.int .i64 s.kind, .string s.text, .int .i64 s.n]))
   clear hw1
   obtain ⟨s0, s1, s2⟩ := Ks.out.c3
   have sz := Ks.out.lt
   cases hv : validB s
   · skip
     have hc := fun W => rvalid_is s W
     simp only [hv] at hc
     have HCv := Lib.hid hc
     clear hc
     go_wp2_with fail
     with_reducible refine (HCv.out _).mono ?_
     rintro e w2 ⟨rfl, hb⟩
     have hbs := Below.trans (show Below w1.heap.size w1 _ from (by (repeat (first | exact Below.refl _ _ | refine Below.drew ?_ | refine Below.al ?_ _ | refine Below.sc ?_ _)))) (hb.mono (by simp <;> omega))
     have Ks := Lib.hid (Ks.out.new_ hbs)
     have HB := Lib.hid (HB.out.trans (hbs.mono HB.out.size))
     have hsz2 := hbs.size
     clear s0 s1 s2 sz hb hbs
     obtain ⟨s0, s1, s2⟩ := Ks.out.c3
     have sz := Ks.out.lt
     have HR := Lib.hid (show constB s = false by simp [constB, HK.out, hv])
     go_wp2_with fail
     go_ret
     exact ⟨by rw [HR.out] <;> rfl, by (repeat (first | exact Below.refl _ _ | exact HB.out | refine Below.drew ?_ | refine Below.al ?_ _ | refine Below.sc ?_ _))⟩
   · skip
     have hc := fun W => rvalid_is s W
     simp only [hv] at hc
     have HCv := Lib.hid hc
     clear hc
     go_wp2_with fail
     with_reducible refine (HCv.out _).mono ?_
     rintro e w2 ⟨rfl, hb⟩
     have hbs := Below.trans (show Below w1.heap.size w1 _ from (by (repeat (first | exact Below.refl _ _ | refine Below.drew ?_ | refine Below.al ?_ _ | refine Below.sc ?_ _)))) (hb.mono (by simp <;> omega))
     have Ks := Lib.hid (Ks.out.new_ hbs)
     have HB := Lib.hid (HB.out.trans (hbs.mono HB.out.size))
     have hsz2 := hbs.size
     clear s0 s1 s2 sz hb hbs
     obtain ⟨s0, s1, s2⟩ := Ks.out.c3
     have sz := Ks.out.lt
     have HR := Lib.hid (show constB s = false by simp [constB, HK.out, hv])
     go_wp2_with fail
     go_ret
     exact ⟨by rw [HR.out] <;> rfl, by (repeat (first | exact Below.refl _ _ | exact HB.out | refine Below.drew ?_ | refine Below.al ?_ _ | refine Below.sc ?_ _))⟩
 · skip
   have ka : (s.kind == 1) = false := by simp [hk]
   have kb : decide (s.kind = 1) = false := by simp [hk]
   have kc : (s.kind != 1) = true := by simp [hk]
   have HK := Lib.hid hk
   clear hk
   go_enter Tryz.func67, Tryz.ntmps67
   go_upto_region 1 with fail
   obtain ⟨w1, hw1⟩ : ∃ w1, w1 = (w.alloc (.cells #[.int .i64 s.kind, .string s.text, .int .i64 s.n] 38)) := ⟨_, rfl⟩
   rw [← hw1]
   have HB := Lib.hid (show Below w.heap.size w w1 by rw [hw1]; exact (by repeat (first | exact Below.refl _ _ | refine Below.drew ?_ | refine Below.al ?_ _ | refine Below.sc ?_ _)))
   have Ks := Lib.hid (show Blk w1 (w.heap.size) 38 #[.int .i64 s.kind, .string s.text, .int .i64 s.n] by rw [hw1]; exact (Blk.new w 38 #[.int .i64 s.kind, .string s.text, .int .i64 s.n]))
   clear hw1
   obtain ⟨s0, s1, s2⟩ := Ks.out.c3
   have sz := Ks.out.lt
   cases hv : validB s
   · skip
     have hc := fun W => rvalid_is s W
     simp only [hv] at hc
     have HCv := Lib.hid hc
     clear hc
     go_wp2_with fail
     with_reducible refine (HCv.out _).mono ?_
     rintro e w2 ⟨rfl, hb⟩
     have hbs := Below.trans (show Below w1.heap.size w1 _ from (by (repeat (first | exact Below.refl _ _ | refine Below.drew ?_ | refine Below.al ?_ _ | refine Below.sc ?_ _)))) (hb.mono (by simp <;> omega))
     have Ks := Lib.hid (Ks.out.new_ hbs)
     have HB := Lib.hid (HB.out.trans (hbs.mono HB.out.size))
     have hsz2 := hbs.size
     clear s0 s1 s2 sz hb hbs
     obtain ⟨s0, s1, s2⟩ := Ks.out.c3
     have sz := Ks.out.lt
     have HR := Lib.hid (show constB s = false by simp [constB, HK.out, hv])
     go_wp2_with fail
     go_ret
     exact ⟨by rw [HR.out] <;> rfl, by (repeat (first | exact Below.refl _ _ | exact HB.out | refine Below.drew ?_ | refine Below.al ?_ _ | refine Below.sc ?_ _))⟩
   · skip
     have hc := fun W => rvalid_is s W
     simp only [hv] at hc
     have HCv := Lib.hid hc
     clear hc
     go_wp2_with fail
     with_reducible refine (HCv.out _).mono ?_
     rintro e w2 ⟨rfl, hb⟩
     have hbs := Below.trans (show Below w1.heap.size w1 _ from (by (repeat (first | exact Below.refl _ _ | refine Below.drew ?_ | refine Below.al ?_ _ | refine Below.sc ?_ _)))) (hb.mono (by simp <;> omega))
     have Ks := Lib.hid (Ks.out.new_ hbs)
     have HB := Lib.hid (HB.out.trans (hbs.mono HB.out.size))
     have hsz2 := hbs.size
     clear s0 s1 s2 sz hb hbs
     obtain ⟨s0, s1, s2⟩ := Ks.out.c3
     have sz := Ks.out.lt
     have HR := Lib.hid (show constB s = true by simp [constB, HK.out, hv])
     go_wp2_with fail
     go_ret
     exact ⟨by rw [HR.out] <;> rfl, by (repeat (first | exact Below.refl _ _ | exact HB.out | refine Below.drew ?_ | refine Below.al ?_ _ | refine Below.sc ?_ _))⟩
set_option maxRecDepth 100000 in
set_option maxHeartbeats 8000000 in
theorem ratom_is (a : AtomT) (w : World) : Calls Tryz.prog 177 #[.agg #[.string a.var, .int .i64 a.sym.kind, .string a.sym.text, .int .i64 a.sym.n]] w fun e w' => e = .returned (.bool (atomB a)) ∧ Below w.heap.size w w' := by
 have hq := eqz_sym a.sym
 by_cases hv : a.var.toList = []
 · skip
   have va : (a.var.toList == []) = true := by simp [hv]
   have vb : a.var.toList.isEmpty = true := by simp [hv]
   have vc : decide (a.var.toList = []) = true := by simp [hv]
   have HV := Lib.hid hv
   clear hv
   have vd : (a.var.toList != []) = false := by simp [HV.out]
   go_enter Tryz.func177, Tryz.ntmps177
   go_upto_region 1 with fail
   obtain ⟨w1, hw1⟩ : ∃ w1, w1 = (w.alloc (.cells #[.string a.var, .int .i64 a.sym.kind, .string a.sym.text, .int .i64 a.sym.n] 94)) := ⟨_, rfl⟩
   rw [← hw1]
   have HB := Lib.hid (show Below w.heap.size w w1 by rw [hw1]; exact (by repeat (first | exact Below.refl _ _ | refine Below.drew ?_ | refine Below.al ?_ _ | refine Below.sc ?_ _)))
   have Ka := Lib.hid (show Blk w1 (w.heap.size) 94 #[.string a.var, .int .i64 a.sym.kind, .string a.sym.text, .int .i64 a.sym.n] by rw [hw1]; exact (Blk.new w 94 #[.string a.var, .int .i64 a.sym.kind, .string a.sym.text, .int .i64 a.sym.n]))
   clear hw1
   obtain ⟨a0, a1, a2, a3⟩ := Ka.out.c4
   have az := Ka.out.lt
   go_wp2_with fail
   with_reducible refine (rconst_is a.sym _).mono ?_
   rintro e w2 ⟨rfl, hb⟩
   have hbs := Below.trans (show Below w1.heap.size w1 _ from (by (repeat (first | exact Below.refl _ _ | refine Below.drew ?_ | refine Below.al ?_ _ | refine Below.sc ?_ _)))) (hb.mono (by simp <;> omega))
   have Ka := Lib.hid (Ka.out.new_ hbs)
   have HB := Lib.hid (HB.out.trans (hbs.mono HB.out.size))
   have hsz2 := hbs.size
   clear a0 a1 a2 a3 az hb hbs
   obtain ⟨a0, a1, a2, a3⟩ := Ka.out.c4
   have az := Ka.out.lt
   have HR := Lib.hid (show atomB a = constB a.sym by simp [atomB, HV.out])
   go_wp2_with fail
   go_ret
   exact ⟨by rw [HR.out] <;> rfl, by (repeat (first | exact Below.refl _ _ | exact HB.out | refine Below.drew ?_ | refine Below.al ?_ _ | refine Below.sc ?_ _))⟩
 · skip
   have va : (a.var.toList == []) = false := by simp [hv]
   have vb : a.var.toList.isEmpty = false := by simp [hv]
   have vc : decide (a.var.toList = []) = false := by simp [hv]
   have HV := Lib.hid hv
   clear hv
   have vd : (a.var.toList != []) = true := by simp [HV.out]
   go_enter Tryz.func177, Tryz.ntmps177
   go_upto_region 1 with fail
   obtain ⟨w1, hw1⟩ : ∃ w1, w1 = (w.alloc (.cells #[.string a.var, .int .i64 a.sym.kind, .string a.sym.text, .int .i64 a.sym.n] 94)) := ⟨_, rfl⟩
   rw [← hw1]
   have HB := Lib.hid (show Below w.heap.size w w1 by rw [hw1]; exact (by repeat (first | exact Below.refl _ _ | refine Below.drew ?_ | refine Below.al ?_ _ | refine Below.sc ?_ _)))
   have Ka := Lib.hid (show Blk w1 (w.heap.size) 94 #[.string a.var, .int .i64 a.sym.kind, .string a.sym.text, .int .i64 a.sym.n] by rw [hw1]; exact (Blk.new w 94 #[.string a.var, .int .i64 a.sym.kind, .string a.sym.text, .int .i64 a.sym.n]))
   clear hw1
   obtain ⟨a0, a1, a2, a3⟩ := Ka.out.c4
   have az := Ka.out.lt
   cases hw : isWord a.var
   · skip
     have hc := fun W => rword_is a.var W
     simp only [hw] at hc
     have HCw := Lib.hid hc
     clear hc
     go_wp2_with fail
     with_reducible refine (HCw.out _).mono ?_
     rintro e w0 ⟨rfl, rfl⟩
     have HR := Lib.hid (show atomB a = false by simp [atomB, HV.out, hw])
     go_wp2_with fail
     go_ret
     exact ⟨by rw [HR.out] <;> rfl, by (repeat (first | exact Below.refl _ _ | exact HB.out | refine Below.drew ?_ | refine Below.al ?_ _ | refine Below.sc ?_ _))⟩
   · skip
     have hc := fun W => rword_is a.var W
     simp only [hw] at hc
     have HCw := Lib.hid hc
     clear hc
     go_wp2_with fail
     with_reducible refine (HCw.out _).mono ?_
     rintro e w0 ⟨rfl, rfl⟩
     have HR := Lib.hid (show atomB a = noneB a.sym by simp [atomB, HV.out, hw])
     go_wp2_with fail
     go_ret
     exact ⟨by rw [HR.out] <;> rfl, by (repeat (first | exact Below.refl _ _ | exact HB.out | refine Below.drew ?_ | refine Below.al ?_ _ | refine Below.sc ?_ _))⟩
theorem zsym_iff {s : Sym} (h0 : s.kind = 0) (h1 : s.text.toList = []) (h2 : s.n = 0) : s = zS := Sym.ext' h0 (toList_inj (h1.trans (show ([] : List UInt8) = zS.text.toList by kernel_rfl))) h2
theorem nzsym {a : AtomT} (h : ¬ (a.sym.kind = 0 ∧ a.sym.text.toList = [] ∧ a.sym.n = 0)) : emptyB a = false := by
 have : a.sym ≠ zS := fun e => h (by rw [e]; exact ⟨rfl, by kernel_rfl, rfl⟩)
 simp [emptyB, noneB, this]
theorem eqz_atom (a : AtomT) (W : World) : (binOp .eql 94 (.agg #[.string a.var, .int .i64 a.sym.kind, .string a.sym.text, .int .i64 a.sym.n]) (.agg #[.string ⟨#[]⟩, .int .i64 0, .string ⟨#[]⟩, .int .i64 0])).run Tryz.prog W = .ok (.bool (emptyB a)) W := by
 rw [run_eql_struct]
 go_simp
 by_cases e0 : a.var.toList = []
 case neg => rw [show emptyB a = false by simp [emptyB, e0]]; simp [e0]
 by_cases e1 : a.sym.kind = 0
 case neg => rw [nzsym (fun h => e1 h.1)]; simp [e0, e1]
 by_cases e2 : a.sym.text.toList = []
 case neg => rw [nzsym (fun h => e2 h.2.1)]; simp [e0, e1, e2]
 by_cases e3 : a.sym.n = 0
 case neg => rw [nzsym (fun h => e3 h.2.2)]; simp [e0, e1, e2, e3]
 rw [show emptyB a = true by simp [emptyB, noneB, e0, zsym_iff e1 e2 e3]]
 simp [e0, e1, e2, e3]
theorem neqz_atom (a : AtomT) (W : World) : (binOp .neq 94 (.agg #[.string a.var, .int .i64 a.sym.kind, .string a.sym.text, .int .i64 a.sym.n]) (.agg #[.string ⟨#[]⟩, .int .i64 0, .string ⟨#[]⟩, .int .i64 0])).run Tryz.prog W = .ok (.bool (!emptyB a)) W := by
 rw [run_neq_struct]
 go_simp
 by_cases e0 : a.var.toList = []
 case neg => rw [show emptyB a = false by simp [emptyB, e0]]; simp [e0]
 by_cases e1 : a.sym.kind = 0
 case neg => rw [nzsym (fun h => e1 h.1)]; simp [e0, e1]
 by_cases e2 : a.sym.text.toList = []
 case neg => rw [nzsym (fun h => e2 h.2.1)]; simp [e0, e1, e2]
 by_cases e3 : a.sym.n = 0
 case neg => rw [nzsym (fun h => e3 h.2.2)]; simp [e0, e1, e2, e3]
 rw [show emptyB a = true by simp [emptyB, noneB, e0, zsym_iff e1 e2 e3]]
 simp [e0, e1, e2, e3]
theorem atomB_str {a : AtomT} (h : atomB a = true) (hk : a.sym.kind = 3) : a.var.toList = [] := by
 by_cases hv : a.var.toList = []
 · exact hv
 · have : a.sym = zS := by simpa [atomB, hv, noneB] using (show isWord a.var = true ∧ noneB a.sym = true by simpa [atomB, hv] using h).2
   rw [this] at hk; exact absurd hk (by decide)
set_option maxRecDepth 100000 in
set_option maxHeartbeats 8000000 in
theorem ract_is (a : ActT) (w : World) : Calls Tryz.prog 106 #[.agg #[.string a.id, .string a.attr.var, .int .i64 a.attr.sym.kind, .string a.attr.sym.text, .int .i64 a.attr.sym.n, .int .i64 a.value.op, .string a.value.a.var, .int .i64 a.value.a.sym.kind, .string a.value.a.sym.text, .int .i64 a.value.a.sym.n, .string a.value.b.var, .int .i64 a.value.b.sym.kind, .string a.value.b.sym.text, .int .i64 a.value.b.sym.n, .int .i64 a.pref, .string a.other.var, .int .i64 a.other.sym.kind, .string a.other.sym.text, .int .i64 a.other.sym.n]] w fun e w' => e = .returned (.bool (actB a)) ∧ Below w.heap.size w w' := by
 have hq := eqz_atom a.other
 have hq2 := neqz_atom a.value.b
 go_enter Tryz.func106, Tryz.ntmps106
 go_upto_region 1 with fail
 obtain ⟨w1, hw1⟩ : ∃ w1, w1 = (w.alloc (.cells #[.string a.id, .string a.attr.var, .int .i64 a.attr.sym.kind, .string a.attr.sym.text, .int .i64 a.attr.sym.n, .int .i64 a.value.op, .string a.value.a.var, .int .i64 a.value.a.sym.kind, .string a.value.a.sym.text, .int .i64 a.value.a.sym.n, .string a.value.b.var, .int .i64 a.value.b.sym.kind, .string a.value.b.sym.text, .int .i64 a.value.b.sym.n, .int .i64 a.pref, .string a.other.var, .int .i64 a.other.sym.kind, .string a.other.sym.text, .int .i64 a.other.sym.n] 99)) := ⟨_, rfl⟩
 rw [← hw1]
 have HB := Lib.hid (show Below w.heap.size w w1 by rw [hw1]; exact (by repeat (first | exact Below.refl _ _ | refine Below.drew ?_ | refine Below.al ?_ _ | refine Below.sc ?_ _)))
 have Ka := Lib.hid (show Blk w1 (w.heap.size) 99 #[.string a.id, .string a.attr.var, .int .i64 a.attr.sym.kind, .string a.attr.sym.text, .int .i64 a.attr.sym.n, .int .i64 a.value.op, .string a.value.a.var, .int .i64 a.value.a.sym.kind, .string a.value.a.sym.text, .int .i64 a.value.a.sym.n, .string a.value.b.var, .int .i64 a.value.b.sym.kind, .string a.value.b.sym.text, .int .i64 a.value.b.sym.n, .int .i64 a.pref, .string a.other.var, .int .i64 a.other.sym.kind, .string a.other.sym.text, .int .i64 a.other.sym.n] by rw [hw1]; exact (Blk.new w 99 #[.string a.id, .string a.attr.var, .int .i64 a.attr.sym.kind, .string a.attr.sym.text, .int .i64 a.attr.sym.n, .int .i64 a.value.op, .string a.value.a.var, .int .i64 a.value.a.sym.kind, .string a.value.a.sym.text, .int .i64 a.value.a.sym.n, .string a.value.b.var, .int .i64 a.value.b.sym.kind, .string a.value.b.sym.text, .int .i64 a.value.b.sym.n, .int .i64 a.pref, .string a.other.var, .int .i64 a.other.sym.kind, .string a.other.sym.text, .int .i64 a.other.sym.n]))
 clear hw1
 obtain ⟨a0, a1, a2, a3, a4, a5, a6, a7, a8, a9, a10, a11, a12, a13, a14, a15, a16, a17, a18⟩ := Ka.out.c19
 have az := Ka.out.lt
 cases hw : isWord a.id
 · skip
   have hc := fun W => rword_is a.id W
   simp only [hw] at hc
   have HCw := Lib.hid hc
   clear hc
   go_wp2_with fail
   with_reducible refine (HCw.out _).mono ?_
   rintro e w0 ⟨rfl, rfl⟩
   have HR := Lib.hid (show actB a = false by simp [actB, termB, otherB, hw])
   go_wp2_with fail
   go_ret
   exact ⟨by rw [HR.out] <;> rfl, by (repeat (first | exact Below.refl _ _ | exact HB.out | refine Below.drew ?_ | refine Below.al ?_ _ | refine Below.sc ?_ _))⟩
 · skip
   have hc := fun W => rword_is a.id W
   simp only [hw] at hc
   have HCw := Lib.hid hc
   clear hc
   go_wp2_with fail
   with_reducible refine (HCw.out _).mono ?_
   rintro e w0 ⟨rfl, rfl⟩
   cases hat : atomB a.attr
   · skip
     have hc := fun W => ratom_is a.attr W
     simp only [hat] at hc
     have HCat := Lib.hid hc
     clear hc
     go_wp2_with fail
     with_reducible refine (HCat.out _).mono ?_
     rintro e w2 ⟨rfl, hb⟩
     have hbs := Below.trans (show Below w1.heap.size w1 _ from (by (repeat (first | exact Below.refl _ _ | refine Below.drew ?_ | refine Below.al ?_ _ | refine Below.sc ?_ _)))) (hb.mono (by simp <;> omega))
     have Ka := Lib.hid (Ka.out.new_ hbs)
     have HB := Lib.hid (HB.out.trans (hbs.mono HB.out.size))
     have hsz2 := hbs.size
     clear a0 a1 a2 a3 a4 a5 a6 a7 a8 a9 a10 a11 a12 a13 a14 a15 a16 a17 a18 az hb hbs
     obtain ⟨a0, a1, a2, a3, a4, a5, a6, a7, a8, a9, a10, a11, a12, a13, a14, a15, a16, a17, a18⟩ := Ka.out.c19
     have az := Ka.out.lt
     have HR := Lib.hid (show actB a = false by simp [actB, termB, otherB, hw, hat])
     go_wp2_with fail
     go_ret
     exact ⟨by rw [HR.out] <;> rfl, by (repeat (first | exact Below.refl _ _ | exact HB.out | refine Below.drew ?_ | refine Below.al ?_ _ | refine Below.sc ?_ _))⟩
   · skip
     have hc := fun W => ratom_is a.attr W
     simp only [hat] at hc
     have HCat := Lib.hid hc
     clear hc
     go_wp2_with fail
     with_reducible refine (HCat.out _).mono ?_
     rintro e w2 ⟨rfl, hb⟩
     have hbs := Below.trans (show Below w1.heap.size w1 _ from (by (repeat (first | exact Below.refl _ _ | refine Below.drew ?_ | refine Below.al ?_ _ | refine Below.sc ?_ _)))) (hb.mono (by simp <;> omega))
     have Ka := Lib.hid (Ka.out.new_ hbs)
     have HB := Lib.hid (HB.out.trans (hbs.mono HB.out.size))
     have hsz2 := hbs.size
     clear a0 a1 a2 a3 a4 a5 a6 a7 a8 a9 a10 a11 a12 a13 a14 a15 a16 a17 a18 az hb hbs
     obtain ⟨a0, a1, a2, a3, a4, a5, a6, a7, a8, a9, a10, a11, a12, a13, a14, a15, a16, a17, a18⟩ := Ka.out.c19
     have az := Ka.out.lt
     cases hva : atomB a.value.a
     · skip
       have hc := fun W => ratom_is a.value.a W
       simp only [hva] at hc
       have HCva := Lib.hid hc
       clear hc
       go_wp2_with fail
       with_reducible refine (HCva.out _).mono ?_
       rintro e w3 ⟨rfl, hb⟩
       have hbs := Below.trans (show Below w2.heap.size w2 _ from (by (repeat (first | exact Below.refl _ _ | refine Below.drew ?_ | refine Below.al ?_ _ | refine Below.sc ?_ _)))) (hb.mono (by simp <;> omega))
       have Ka := Lib.hid (Ka.out.new_ hbs)
       have HB := Lib.hid (HB.out.trans (hbs.mono HB.out.size))
       have hsz3 := hbs.size
       clear a0 a1 a2 a3 a4 a5 a6 a7 a8 a9 a10 a11 a12 a13 a14 a15 a16 a17 a18 az hb hbs
       obtain ⟨a0, a1, a2, a3, a4, a5, a6, a7, a8, a9, a10, a11, a12, a13, a14, a15, a16, a17, a18⟩ := Ka.out.c19
       have az := Ka.out.lt
       have HR := Lib.hid (show actB a = false by simp [actB, termB, otherB, hw, hat, hva])
       go_wp2_with fail
       go_ret
       exact ⟨by rw [HR.out] <;> rfl, by (repeat (first | exact Below.refl _ _ | exact HB.out | refine Below.drew ?_ | refine Below.al ?_ _ | refine Below.sc ?_ _))⟩
     · skip
       have hc := fun W => ratom_is a.value.a W
       simp only [hva] at hc
       have HCva := Lib.hid hc
       clear hc
       go_wp2_with fail
       with_reducible refine (HCva.out _).mono ?_
       rintro e w3 ⟨rfl, hb⟩
       have hbs := Below.trans (show Below w2.heap.size w2 _ from (by (repeat (first | exact Below.refl _ _ | refine Below.drew ?_ | refine Below.al ?_ _ | refine Below.sc ?_ _)))) (hb.mono (by simp <;> omega))
       have Ka := Lib.hid (Ka.out.new_ hbs)
       have HB := Lib.hid (HB.out.trans (hbs.mono HB.out.size))
       have hsz3 := hbs.size
       clear a0 a1 a2 a3 a4 a5 a6 a7 a8 a9 a10 a11 a12 a13 a14 a15 a16 a17 a18 az hb hbs
       obtain ⟨a0, a1, a2, a3, a4, a5, a6, a7, a8, a9, a10, a11, a12, a13, a14, a15, a16, a17, a18⟩ := Ka.out.c19
       have az := Ka.out.lt
       by_cases hol : a.value.op < 0
       · skip
         have o0 : decide (a.value.op < 0) = true := decide_eq_true hol
         have Hol := Lib.hid hol
         clear hol
         have HR := Lib.hid (show actB a = false by simp [actB, termB, otherB, hw, hat, hva, Hol.out])
         go_wp2_with fail
         go_ret
         exact ⟨by rw [HR.out] <;> rfl, by (repeat (first | exact Below.refl _ _ | exact HB.out | refine Below.drew ?_ | refine Below.al ?_ _ | refine Below.sc ?_ _))⟩
       · skip
         have o0 : decide (a.value.op < 0) = false := decide_eq_false hol
         have Hol := Lib.hid hol
         clear hol
         by_cases hoh : 3 < a.value.op
         · skip
           have o1 : decide (3 < a.value.op) = true := decide_eq_true hoh
           have Hoh := Lib.hid hoh
           clear hoh
           have HR := Lib.hid (show actB a = false by simp [actB, termB, otherB, hw, hat, hva, Hol.out, Hoh.out])
           go_wp2_with fail
           go_ret
           exact ⟨by rw [HR.out] <;> rfl, by (repeat (first | exact Below.refl _ _ | exact HB.out | refine Below.drew ?_ | refine Below.al ?_ _ | refine Below.sc ?_ _))⟩
         · skip
           have o1 : decide (3 < a.value.op) = false := decide_eq_false hoh
           have Hoh := Lib.hid hoh
           clear hoh
           by_cases hpl : a.pref < 1
           · skip
             have p0 : decide (a.pref < 1) = true := decide_eq_true hpl
             have Hpl := Lib.hid hpl
             clear hpl
             have HR := Lib.hid (show actB a = false by simp [actB, termB, otherB, hw, hat, hva, Hol.out, Hoh.out, Hpl.out])
             go_wp2_with fail
             go_ret
             exact ⟨by rw [HR.out] <;> rfl, by (repeat (first | exact Below.refl _ _ | exact HB.out | refine Below.drew ?_ | refine Below.al ?_ _ | refine Below.sc ?_ _))⟩
           · skip
             have p0 : decide (a.pref < 1) = false := decide_eq_false hpl
             have Hpl := Lib.hid hpl
             clear hpl
             by_cases hph : 10 < a.pref
             · skip
               have p1 : decide (10 < a.pref) = true := decide_eq_true hph
               have Hph := Lib.hid hph
               clear hph
               have HR := Lib.hid (show actB a = false by simp [actB, termB, otherB, hw, hat, hva, Hol.out, Hoh.out, Hpl.out, Hph.out])
               go_wp2_with fail
               go_ret
               exact ⟨by rw [HR.out] <;> rfl, by (repeat (first | exact Below.refl _ _ | exact HB.out | refine Below.drew ?_ | refine Below.al ?_ _ | refine Below.sc ?_ _))⟩
             · skip
               have p1 : decide (10 < a.pref) = false := decide_eq_false hph
               have Hph := Lib.hid hph
               clear hph
               by_cases hop : a.value.op = 0
               · skip
                 have oa : (a.value.op == 0) = true := by simp [hop]
                 have ob : decide (a.value.op = 0) = true := by simp [hop]
                 have HOP := Lib.hid hop
                 clear hop
                 cases he : emptyB a.value.b
                 · skip
                   simp only [he] at hq2
                   have HE := Lib.hid he
                   clear he
                   have HR := Lib.hid (show actB a = false by simp [actB, termB, otherB, hw, hat, hva, Hol.out, Hoh.out, Hpl.out, Hph.out, HOP.out, HE.out])
                   go_wp2_with fail
                   go_ret
                   exact ⟨by rw [HR.out] <;> rfl, by (repeat (first | exact Below.refl _ _ | exact HB.out | refine Below.drew ?_ | refine Below.al ?_ _ | refine Below.sc ?_ _))⟩
                 · skip
                   simp only [he] at hq2
                   have HE := Lib.hid he
                   clear he
                   by_cases hb : 8 ≤ a.pref
                   · skip
                     have b0 : decide (8 ≤ a.pref) = true := decide_eq_true hb
                     have hz : a.pref = 8 ∨ a.pref = 9 ∨ a.pref = 10 := by have := Hpl.out; have := Hph.out; omega
                     have HO := Lib.hid (show otherB a.pref = true by rcases hz with h | h | h <;> simp [otherB, h])
                     clear hb hz
                     go_wp2_with fail
                     with_reducible refine (ratom_is a.other _).mono ?_
                     rintro e w4 ⟨rfl, hb⟩
                     have hbs := Below.trans (show Below w3.heap.size w3 _ from (by (repeat (first | exact Below.refl _ _ | refine Below.drew ?_ | refine Below.al ?_ _ | refine Below.sc ?_ _)))) (hb.mono (by simp <;> omega))
                     have Ka := Lib.hid (Ka.out.new_ hbs)
                     have HB := Lib.hid (HB.out.trans (hbs.mono HB.out.size))
                     have hsz4 := hbs.size
                     clear a0 a1 a2 a3 a4 a5 a6 a7 a8 a9 a10 a11 a12 a13 a14 a15 a16 a17 a18 az hb hbs
                     obtain ⟨a0, a1, a2, a3, a4, a5, a6, a7, a8, a9, a10, a11, a12, a13, a14, a15, a16, a17, a18⟩ := Ka.out.c19
                     have az := Ka.out.lt
                     have HR := Lib.hid (show actB a = atomB a.other by simp [actB, termB, hw, hat, hva, Hol.out, Hoh.out, Hpl.out, Hph.out, HOP.out, HE.out, HO.out])
                     go_wp2_with fail
                     go_ret
                     exact ⟨by rw [HR.out] <;> rfl, by (repeat (first | exact Below.refl _ _ | exact HB.out | refine Below.drew ?_ | refine Below.al ?_ _ | refine Below.sc ?_ _))⟩
                   · skip
                     have b0 : decide (8 ≤ a.pref) = false := decide_eq_false hb
                     have HO := Lib.hid (show otherB a.pref = false by simp [otherB]; omega)
                     clear hb
                     have HR := Lib.hid (show actB a = emptyB a.other by simp [actB, termB, hw, hat, hva, Hol.out, Hoh.out, Hpl.out, Hph.out, HOP.out, HE.out, HO.out])
                     go_wp2_with fail
                     go_ret
                     exact ⟨by rw [HR.out] <;> rfl, by (repeat (first | exact Below.refl _ _ | exact HB.out | refine Below.drew ?_ | refine Below.al ?_ _ | refine Below.sc ?_ _))⟩
               · skip
                 have oa : (a.value.op == 0) = false := by simp [hop]
                 have ob : decide (a.value.op = 0) = false := by simp [hop]
                 have HOP := Lib.hid hop
                 clear hop
                 cases hvb : atomB a.value.b
                 · skip
                   have hc := fun W => ratom_is a.value.b W
                   simp only [hvb] at hc
                   have HCvb := Lib.hid hc
                   clear hc
                   go_wp2_with fail
                   with_reducible refine (HCvb.out _).mono ?_
                   rintro e w4 ⟨rfl, hb⟩
                   have hbs := Below.trans (show Below w3.heap.size w3 _ from (by (repeat (first | exact Below.refl _ _ | refine Below.drew ?_ | refine Below.al ?_ _ | refine Below.sc ?_ _)))) (hb.mono (by simp <;> omega))
                   have Ka := Lib.hid (Ka.out.new_ hbs)
                   have HB := Lib.hid (HB.out.trans (hbs.mono HB.out.size))
                   have hsz4 := hbs.size
                   clear a0 a1 a2 a3 a4 a5 a6 a7 a8 a9 a10 a11 a12 a13 a14 a15 a16 a17 a18 az hb hbs
                   obtain ⟨a0, a1, a2, a3, a4, a5, a6, a7, a8, a9, a10, a11, a12, a13, a14, a15, a16, a17, a18⟩ := Ka.out.c19
                   have az := Ka.out.lt
                   have HR := Lib.hid (show actB a = false by simp [actB, termB, otherB, hw, hat, hva, Hol.out, Hoh.out, Hpl.out, Hph.out, HOP.out, wordAB, hvb])
                   go_wp2_with fail
                   go_ret
                   exact ⟨by rw [HR.out] <;> rfl, by (repeat (first | exact Below.refl _ _ | exact HB.out | refine Below.drew ?_ | refine Below.al ?_ _ | refine Below.sc ?_ _))⟩
                 · skip
                   have hc := fun W => ratom_is a.value.b W
                   simp only [hvb] at hc
                   have HCvb := Lib.hid hc
                   clear hc
                   go_wp2_with fail
                   with_reducible refine (HCvb.out _).mono ?_
                   rintro e w4 ⟨rfl, hb⟩
                   have hbs := Below.trans (show Below w3.heap.size w3 _ from (by (repeat (first | exact Below.refl _ _ | refine Below.drew ?_ | refine Below.al ?_ _ | refine Below.sc ?_ _)))) (hb.mono (by simp <;> omega))
                   have Ka := Lib.hid (Ka.out.new_ hbs)
                   have HB := Lib.hid (HB.out.trans (hbs.mono HB.out.size))
                   have hsz4 := hbs.size
                   clear a0 a1 a2 a3 a4 a5 a6 a7 a8 a9 a10 a11 a12 a13 a14 a15 a16 a17 a18 az hb hbs
                   obtain ⟨a0, a1, a2, a3, a4, a5, a6, a7, a8, a9, a10, a11, a12, a13, a14, a15, a16, a17, a18⟩ := Ka.out.c19
                   have az := Ka.out.lt
                   by_cases ha3 : a.value.a.sym.kind = 3
                   · skip
                     have ka : (a.value.a.sym.kind == 3) = true := by simp [ha3]
                     have kb : decide (a.value.a.sym.kind = 3) = true := by simp [ha3]
                     have HA3 := Lib.hid (atomB_str hva ha3)
                     have HK3 := Lib.hid ha3
                     clear ha3
                     have HR := Lib.hid (show actB a = false by simp [actB, termB, otherB, hw, hat, hva, Hol.out, Hoh.out, Hpl.out, Hph.out, HOP.out, wordAB, hvb, HA3.out, HK3.out])
                     go_wp2_with fail
                     go_ret
                     exact ⟨by rw [HR.out] <;> rfl, by (repeat (first | exact Below.refl _ _ | exact HB.out | refine Below.drew ?_ | refine Below.al ?_ _ | refine Below.sc ?_ _))⟩
                   · skip
                     have ka : (a.value.a.sym.kind == 3) = false := by simp [ha3]
                     have kb : decide (a.value.a.sym.kind = 3) = false := by simp [ha3]
                     have HA3 := Lib.hid ha3
                     clear ha3
                     by_cases hb3 : a.value.b.sym.kind = 3
                     · skip
                       have ma : (a.value.b.sym.kind == 3) = true := by simp [hb3]
                       have mb : decide (a.value.b.sym.kind = 3) = true := by simp [hb3]
                       have HB3 := Lib.hid (atomB_str hvb hb3)
                       have HM3 := Lib.hid hb3
                       clear hb3
                       have HR := Lib.hid (show actB a = false by simp [actB, termB, otherB, hw, hat, hva, Hol.out, Hoh.out, Hpl.out, Hph.out, HOP.out, wordAB, hvb, HA3.out, HB3.out, HM3.out])
                       go_wp2_with fail
                       go_ret
                       exact ⟨by rw [HR.out] <;> rfl, by (repeat (first | exact Below.refl _ _ | exact HB.out | refine Below.drew ?_ | refine Below.al ?_ _ | refine Below.sc ?_ _))⟩
                     · skip
                       have ma : (a.value.b.sym.kind == 3) = false := by simp [hb3]
                       have mb : decide (a.value.b.sym.kind = 3) = false := by simp [hb3]
                       have HB3 := Lib.hid hb3
                       clear hb3
                       by_cases hb : 8 ≤ a.pref
                       · skip
                         have b0 : decide (8 ≤ a.pref) = true := decide_eq_true hb
                         have hz : a.pref = 8 ∨ a.pref = 9 ∨ a.pref = 10 := by have := Hpl.out; have := Hph.out; omega
                         have HO := Lib.hid (show otherB a.pref = true by rcases hz with h | h | h <;> simp [otherB, h])
                         clear hb hz
                         go_wp2_with fail
                         with_reducible refine (ratom_is a.other _).mono ?_
                         rintro e w5 ⟨rfl, hb⟩
                         have hbs := Below.trans (show Below w4.heap.size w4 _ from (by (repeat (first | exact Below.refl _ _ | refine Below.drew ?_ | refine Below.al ?_ _ | refine Below.sc ?_ _)))) (hb.mono (by simp <;> omega))
                         have Ka := Lib.hid (Ka.out.new_ hbs)
                         have HB := Lib.hid (HB.out.trans (hbs.mono HB.out.size))
                         have hsz5 := hbs.size
                         clear a0 a1 a2 a3 a4 a5 a6 a7 a8 a9 a10 a11 a12 a13 a14 a15 a16 a17 a18 az hb hbs
                         obtain ⟨a0, a1, a2, a3, a4, a5, a6, a7, a8, a9, a10, a11, a12, a13, a14, a15, a16, a17, a18⟩ := Ka.out.c19
                         have az := Ka.out.lt
                         have HR := Lib.hid (show actB a = atomB a.other by simp [actB, termB, hw, hat, hva, Hol.out, Hoh.out, Hpl.out, Hph.out, HOP.out, wordAB, hvb, HA3.out, HB3.out, HO.out])
                         go_wp2_with fail
                         go_ret
                         exact ⟨by rw [HR.out] <;> rfl, by (repeat (first | exact Below.refl _ _ | exact HB.out | refine Below.drew ?_ | refine Below.al ?_ _ | refine Below.sc ?_ _))⟩
                       · skip
                         have b0 : decide (8 ≤ a.pref) = false := decide_eq_false hb
                         have HO := Lib.hid (show otherB a.pref = false by simp [otherB]; omega)
                         clear hb
                         have HR := Lib.hid (show actB a = emptyB a.other by simp [actB, termB, hw, hat, hva, Hol.out, Hoh.out, Hpl.out, Hph.out, HOP.out, wordAB, hvb, HA3.out, HB3.out, HO.out])
                         go_wp2_with fail
                         go_ret
                         exact ⟨by rw [HR.out] <;> rfl, by (repeat (first | exact Below.refl _ _ | exact HB.out | refine Below.drew ?_ | refine Below.al ?_ _ | refine Below.sc ?_ _))⟩
end Go.Proofs.YtffemfglngikbaaGreat
namespace Go.Proofs.YtffemfglngikbaaGreat
open Go.RowKit Go.Shelf
attribute [local go_sem] Oper.semAt_some
set_option linter.unusedSimpArgs false
set_option maxRecDepth 100000 in
set_option maxHeartbeats 8000000 in
theorem rtest_is (t : TestT) (A : Option Addr) (c : Nat) (w : World) (hrd : RowRd w 3 Sym.cells A c t.list) : Calls Tryz.prog 256 #[.agg #[.int .i64 t.rel, .string t.var, .int .i64 t.sym.kind, .string t.sym.text, .int .i64 t.sym.n, .slice A t.list.length c]] w fun e w' => e = .returned (.bool (testB t)) ∧ Below w.heap.size w w' := by
 have HRD := Lib.hid hrd
 have hlc := hrd.cap
 clear hrd
 have hq : ∀ W : World, (binOp .neq 38 (.agg #[.int .i64 t.sym.kind, .string t.sym.text, .int .i64 t.sym.n]) (.agg #[.int .i64 0, .string ⟨#[]⟩, .int .i64 0])).run Tryz.prog W = .ok (.bool (!noneB t.sym)) W := fun W => neq_sym t.sym zS W
 go_enter Tryz.func256, Tryz.ntmps256
 go_upto_region 1 with fail
 obtain ⟨w1, hw1⟩ : ∃ w1, w1 = (w.alloc (.cells #[.int .i64 t.rel, .string t.var, .int .i64 t.sym.kind, .string t.sym.text, .int .i64 t.sym.n, .slice A t.list.length c] 141)) := ⟨_, rfl⟩
 rw [← hw1]
 have HB := Lib.hid (show Below w.heap.size w w1 by rw [hw1]; exact (by repeat (first | exact Below.refl _ _ | refine Below.drew ?_ | refine Below.al ?_ _ | refine Below.sc ?_ _)))
 have Kt := Lib.hid (show Blk w1 (w.heap.size) 141 #[.int .i64 t.rel, .string t.var, .int .i64 t.sym.kind, .string t.sym.text, .int .i64 t.sym.n, .slice A t.list.length c] by rw [hw1]; exact (Blk.new w 141 #[.int .i64 t.rel, .string t.var, .int .i64 t.sym.kind, .string t.sym.text, .int .i64 t.sym.n, .slice A t.list.length c]))
 clear hw1
 obtain ⟨t0, t1, t2, t3, t4, t5⟩ := Kt.out.c6
 have tz := Kt.out.lt
 by_cases h8 : t.rel = 8
 · skip
   have ra : (t.rel == 8) = true := by simp [h8]
   have rb : decide (t.rel = 8) = true := by simp [h8]
   have H8 := Lib.hid h8
   clear h8
   by_cases hv : t.var.toList = []
   · skip
     have vva : (t.var.toList == []) = true := by simp [hv]
     have vvb : t.var.toList.isEmpty = true := by simp [hv]
     have vvc : decide (t.var.toList = []) = true := by simp [hv]
     have vvd : (t.var.toList != []) = false := by simp [hv]
     have Hv := Lib.hid hv
     clear hv
     cases hn : noneB t.sym
     · skip
       simp only [hn] at hq
       have HR := Lib.hid (show testB t = false by simp [testB, H8.out, Hv.out, hn])
       go_wp2_with fail
       go_ret
       exact ⟨by rw [HR.out] <;> rfl, by (repeat (first | exact Below.refl _ _ | exact HB.out | refine Below.drew ?_ | refine Below.al ?_ _ | refine Below.sc ?_ _))⟩
     · skip
       simp only [hn] at hq
       have HN := Lib.hid hn
       clear hn
       by_cases hl : t.list.length < 1
       · skip
         have l0 : decide ((t.list.length : Int) < 1) = true := decide_eq_true (by omega)
         have Hl := Lib.hid hl
         clear hl
         have hl1 : t.list.length = 0 := by have := Hl.out; omega
         have HL1 := Lib.hid hl1
         clear hl1
         have HR := Lib.hid (show testB t = false by simp [testB, H8.out, Hv.out, HN.out, Hl.out, HL1.out])
         go_wp2_with fail
         go_ret
         exact ⟨by rw [HR.out] <;> rfl, by (repeat (first | exact Below.refl _ _ | exact HB.out | refine Below.drew ?_ | refine Below.al ?_ _ | refine Below.sc ?_ _))⟩
       · skip
         have l0 : decide ((t.list.length : Int) < 1) = false := decide_eq_false (by omega)
         have Hl := Lib.hid hl
         clear hl
         by_cases hm : 8 < t.list.length
         · skip
           have m0 : decide ((8 : Int) < (t.list.length : Int)) = true := decide_eq_true (by omega)
           have Hm := Lib.hid hm
           clear hm
           have HL1 := Lib.hid (show ¬ t.list.length ≤ 8 by have := Hm.out; omega)
           have HR := Lib.hid (show testB t = false by simp [testB, H8.out, Hv.out, HN.out, Hl.out, Hm.out, HL1.out])
           go_wp2_with fail
           go_ret
           exact ⟨by rw [HR.out] <;> rfl, by (repeat (first | exact Below.refl _ _ | exact HB.out | refine Below.drew ?_ | refine Below.al ?_ _ | refine Below.sc ?_ _))⟩
         · skip
           have m0 : decide ((8 : Int) < (t.list.length : Int)) = false := decide_eq_false (by omega)
           have Hm := Lib.hid hm
           clear hm
           have HR := Lib.hid (show testB t = t.list.all constB by
            have := Hl.out
            have := Hm.out
            simp [testB, H8.out, Hv.out, HN.out, show 1 ≤ t.list.length by omega, show t.list.length ≤ 8 by omega])
           clear t0 t1 t2 t3 t4 t5 tz 
           obtain ⟨t0, t1, t2, t3, t4, t5⟩ := Kt.out.c6
           have tz := Kt.out.lt
           go_wp2_with fail
           clear t0 t1 t2 t3 t4 t5 tz 
           go_loopw [3] (fun s wr => ∃ i : Nat, s = .int .i64 i ∧ i ≤ t.list.length ∧ (∀ k, (h : k < t.list.length) → k < i → constB t.list[k] = true) ∧ Below w.heap.size w wr ∧ Blk wr (w.heap.size) 141 #[.int .i64 t.rel, .string t.var, .int .i64 t.sym.kind, .string t.sym.text, .int .i64 t.sym.n, .slice A t.list.length c]) (fun s wr => t.list.length - (intOf s).toNat)
           case atStart => exact ⟨0, rfl, Nat.zero_le _, fun k _ h => absurd h (by omega), HB.out, Kt.out⟩
           case round =>
            obtain ⟨i, rfl, hi, hall, hB, hK⟩ := hrel
            have HALL := Lib.hid hall
            have HB := Lib.hid hB
            have Kt := Lib.hid hK
            clear hall hB hK
            obtain ⟨t0, t1, t2, t3, t4, t5⟩ := Kt.out.c6
            have tz := Kt.out.lt
            by_cases hlt : i < t.list.length
            · skip
              obtain ⟨y, hy⟩ : ∃ y, y = t.list[i] := ⟨_, rfl⟩
              obtain ⟨g, off, rfl, hg, q0, q1, q2⟩ := sym_at (HRD.out.new_ HB.out) hlt
              rw [← hy] at q0 q1 q2
              have HY := Lib.hid hy
              have b1 : (0 : Int) ≤ (i : Int) := by omega
              have b2 : (i : Int) < (t.list.length : Int) := by omega
              clear hy
              cases hcb : constB y
              · skip
                have hc := fun W => rconst_is y W
                simp only [hcb] at hc
                have HCcb := Lib.hid hc
                clear hc
                go_wp2_with fail
                with_reducible refine (HCcb.out _).mono ?_
                rintro e w2 ⟨rfl, hb⟩
                have hbs := Below.trans (show Below wr.heap.size wr _ from (by (repeat (first | exact Below.refl _ _ | refine Below.drew ?_ | refine Below.al ?_ _ | refine Below.sc ?_ _)))) (hb.mono (by simp <;> omega))
                have Kt := Lib.hid (Kt.out.new_ hbs)
                have HB := Lib.hid (HB.out.trans (hbs.mono HB.out.size))
                have hsz2 := hbs.size
                clear t0 t1 t2 t3 t4 t5 tz hb hbs
                obtain ⟨t0, t1, t2, t3, t4, t5⟩ := Kt.out.c6
                have tz := Kt.out.lt
                have HRf := Lib.hid (show t.list.all constB = false from List.all_eq_false.2 ⟨y, by rw [HY.out]; exact List.getElem_mem hlt, by rw [hcb]; simp⟩)
                clear hcb q0 q1 q2
                go_wp2_with fail
                go_ret
                exact ⟨by rw [HR.out, HRf.out] <;> rfl, by (repeat (first | exact Below.refl _ _ | exact HB.out | refine Below.drew ?_ | refine Below.al ?_ _ | refine Below.sc ?_ _))⟩
              · skip
                have hc := fun W => rconst_is y W
                simp only [hcb] at hc
                have HCcb := Lib.hid hc
                clear hc
                go_wp2_with fail
                with_reducible refine (HCcb.out _).mono ?_
                rintro e w2 ⟨rfl, hb⟩
                have hbs := Below.trans (show Below wr.heap.size wr _ from (by (repeat (first | exact Below.refl _ _ | refine Below.drew ?_ | refine Below.al ?_ _ | refine Below.sc ?_ _)))) (hb.mono (by simp <;> omega))
                have Kt := Lib.hid (Kt.out.new_ hbs)
                have HB := Lib.hid (HB.out.trans (hbs.mono HB.out.size))
                have hsz2 := hbs.size
                clear t0 t1 t2 t3 t4 t5 tz hb hbs
                obtain ⟨t0, t1, t2, t3, t4, t5⟩ := Kt.out.c6
                have tz := Kt.out.lt
                have HCB := Lib.hid hcb
                clear hcb q0 q1 q2
                go_wp2_with fail
                go_roundw
                case rel => exact ⟨i + 1, by go_num, by omega, fun k hk hki => by
                 by_cases e : k = i
                 · subst e; rw [← HY.out]; exact HCB.out
                 · exact HALL.out k hk (by omega), HB.out, Kt.out⟩
                case measure => simp [intOf] <;> omega
            · skip
              obtain rfl : i = t.list.length := by omega
              have HRt := Lib.hid (show t.list.all constB = true from List.all_eq_true.2 (fun x hx => by
               obtain ⟨k, hk, rfl⟩ := List.getElem_of_mem hx
               exact HALL.out k hk hk))
              go_wp2_with fail
              go_ret
              exact ⟨by rw [HR.out, HRt.out] <;> rfl, by (repeat (first | exact Below.refl _ _ | exact HB.out | refine Below.drew ?_ | refine Below.al ?_ _ | refine Below.sc ?_ _))⟩
   · skip
     have vva : (t.var.toList == []) = false := by simp [hv]
     have vvb : t.var.toList.isEmpty = false := by simp [hv]
     have vvc : decide (t.var.toList = []) = false := by simp [hv]
     have vvd : (t.var.toList != []) = true := by simp [hv]
     have Hv := Lib.hid hv
     clear hv
     have HR := Lib.hid (show testB t = false by simp [testB, H8.out, Hv.out])
     go_wp2_with fail
     go_ret
     exact ⟨by rw [HR.out] <;> rfl, by (repeat (first | exact Below.refl _ _ | exact HB.out | refine Below.drew ?_ | refine Below.al ?_ _ | refine Below.sc ?_ _))⟩
 · skip
   have ra : (t.rel == 8) = false := by simp [h8]
   have rb : decide (t.rel = 8) = false := by simp [h8]
   have H8 := Lib.hid h8
   clear h8
   by_cases ha : t.rel < 1
   · skip
     have a0 : decide (1 ≤ t.rel) = false := decide_eq_false (by omega)
     have Ha := Lib.hid ha
     clear ha
     have HR := Lib.hid (show testB t = false by simp [testB, H8.out, Ha.out])
     go_wp2_with fail
     go_ret
     exact ⟨by rw [HR.out] <;> rfl, by (repeat (first | exact Below.refl _ _ | exact HB.out | refine Below.drew ?_ | refine Below.al ?_ _ | refine Below.sc ?_ _))⟩
   · skip
     have a0 : decide (1 ≤ t.rel) = true := decide_eq_true (by omega)
     have Ha := Lib.hid ha
     clear ha
     by_cases hb : 7 < t.rel
     · skip
       have b0 : decide (t.rel ≤ 7) = false := decide_eq_false (by omega)
       have Hb := Lib.hid hb
       clear hb
       have HR := Lib.hid (show testB t = false by simp [testB, H8.out, Ha.out, Hb.out])
       go_wp2_with fail
       go_ret
       exact ⟨by rw [HR.out] <;> rfl, by (repeat (first | exact Below.refl _ _ | exact HB.out | refine Below.drew ?_ | refine Below.al ?_ _ | refine Below.sc ?_ _))⟩
     · skip
       have b0 : decide (t.rel ≤ 7) = true := decide_eq_true (by omega)
       have Hb := Lib.hid hb
       clear hb
       by_cases hl : t.list.length = 0
       · skip
         have lz : ((t.list.length : Int) == 0) = true := by rw [beq_iff_eq]; omega
         have ly : decide ((t.list.length : Int) = 0) = true := decide_eq_true (by omega)
         have Hl := Lib.hid hl
         clear hl
         have HS := Lib.hid (show testB t = atomB ⟨t.var, t.sym⟩ by simp [testB, atomB, H8.out, Ha.out, Hb.out, Hl.out])
         go_wp2_with fail
         with_reducible refine (ratom_is ⟨t.var, t.sym⟩ _).mono ?_
         rintro e w2 ⟨rfl, hb⟩
         have hbs := Below.trans (show Below w1.heap.size w1 _ from (by (repeat (first | exact Below.refl _ _ | refine Below.drew ?_ | refine Below.al ?_ _ | refine Below.sc ?_ _)))) (hb.mono (by simp <;> omega))
         have Kt := Lib.hid (Kt.out.new_ hbs)
         have HB := Lib.hid (HB.out.trans (hbs.mono HB.out.size))
         have hsz2 := hbs.size
         clear t0 t1 t2 t3 t4 t5 tz hb hbs
         obtain ⟨t0, t1, t2, t3, t4, t5⟩ := Kt.out.c6
         have tz := Kt.out.lt
         go_wp2_with fail
         go_ret
         exact ⟨by rw [HS.out] <;> rfl, by (repeat (first | exact Below.refl _ _ | exact HB.out | refine Below.drew ?_ | refine Below.al ?_ _ | refine Below.sc ?_ _))⟩
       · skip
         have lz : ((t.list.length : Int) == 0) = false := by rw [beq_eq_false_iff_ne]; omega
         have ly : decide ((t.list.length : Int) = 0) = false := decide_eq_false (by omega)
         have Hl := Lib.hid hl
         clear hl
         have HL1 := Lib.hid (show 0 < t.list.length by have := Hl.out; omega)
         have HR := Lib.hid (show testB t = false by simp [testB, H8.out, Ha.out, Hb.out, HL1.out])
         go_wp2_with fail
         go_ret
         exact ⟨by rw [HR.out] <;> rfl, by (repeat (first | exact Below.refl _ _ | exact HB.out | refine Below.drew ?_ | refine Below.al ?_ _ | refine Below.sc ?_ _))⟩
end Go.Proofs.YtffemfglngikbaaGreat
