/-
  Texts put together: OwnD, NamesP, ListStr, KeepTexts, RefNm, BkNames, BkNames2, BkLaw4.
-/
import Derived.Test.YtnfgilbaglfkeaaBa
import Derived.Test.YtnfgilbaglfkeaaBb
import Derived.Test.YtnfgilbaglfkeaaBc
import Derived.Test.YtnfgilbaglfkeaaBd
import Derived.Test.YtnfgilbaglfkeaaBe
import Derived.Test.YtnfgilbaglfkeaaBf
import Derived.Test.YtnfgilbaglfkeaaBg
import Derived.Test.YtnfgilbaglfkeaaBh
import Derived.Test.YtnfgilbaglfkeaaBi
import Derived.Test.YtnfgilbaglfkeaaBj
import Derived.Test.YtnfgilbaglfkeaaBk
import Derived.WalkKit
import Derived.WalkSpells
import Derived.WalkLawsBesides
import Derived.Lib.Hide
import Derived.Deep.QuietTactic
import Derived.BigQuiet
import Derived.Deep.RegionHeld3
import Derived.Deep.AppendLies
import Derived.Maps.AppendAt
import Derived.StillTailTactics
import Derived.Maps.RangeWalk
import Derived.OrdersHeld
import Derived.StillTail
import Derived.RangeFuncNested
import Derived.RangeFuncBound
import Derived.RangeFuncCalls
import Derived.RangeFuncLeaves
import Derived.OrdersIn
import Derived.OwnWalkIn
import Derived.TacticsInMore
import Derived.LoopNIn
import Derived.LoopIn
import Derived.Shelf.Abstract
import Derived.Deep.MidRow
import Derived.ProofKit
import Derived.Carry
import Derived.ChangeSame
import Derived.Deep.Slices
import Derived.Deep.Strs
import Derived.Test.YtnfgilbaglfkeaaRows
import Derived.Lib.Strings
import Derived.Deep.Cut
import Derived.Laws.EntriesVeiled
import Derived.ArgAppend
import Derived.Lib.MinMax
import Derived.Deep.LoopGhost
import Derived.IntWalk
namespace Go.Proofs.Ytnfgilbaglfkeaa
open Go.RowKit
variable {D : Nat → Prop} {W W' : World}
theorem info_parts {P : Program} {t : TypeId} {z : Value} {s b : Nat} (h : (P.info? t).map (fun i => (i.zero, i.size, i.bytes)) = some (some z, s, b)) : ∃ i, P.info? t = some i ∧ i.zero = some z ∧ i.size = s ∧ i.bytes = b := infp h
theorem row_low {e size n : Nat} {A : Option Addr} {c : Nat} {xs : List Value} (h : W.ownsRow 0 e size (.slice A n c) n xs) : AIn A (· < W.heap.size) := fun a ha => own_lt h a.block (by rw [ha]; rfl)
def Own (D : Nat → Prop) (X : World) (k : Nat) (t : TypeId) (cs : Array Value) : Prop := Blk X k t cs ∧ ¬ D k
theorem Own.step {B k : Nat} {t : TypeId} {cs : Array Value} (h : Own D W k t cs) (hF : Fr (FromB B D) W W') : Own (Plus D W W') W' k t cs :=
 ⟨h.1.fr hF (fun hk => h.2 hk.1), fun hk => hk.elim h.2 (fun hk => by have := h.1.lt; omega)⟩
def OwnRD (D : Nat → Prop) (X : World) (e : TypeId) (size n : Nat) (A : Option Addr) (c : Nat) (xs : List Value) : Prop := X.ownsRow 0 e size (.slice A n c) n xs ∧ AIn A (fun k => ¬ D k)
theorem OwnRD.step {B size n c : Nat} {e : TypeId} {A : Option Addr} {xs : List Value} (h : OwnRD D W e size n A c xs) (hF : Fr (FromB B D) W W') : OwnRD (Plus D W W') W' e size n A c xs := by
 have hl := row_low h.1
 refine ⟨ownsRow_fr h.1 hF (fun g hg hk => ?_), fun a ha hk => hk.elim (h.2 a ha) (fun hk => by have := hl a ha; omega)⟩
 rcases A with _ | a
 · simp [Value.ownBlock] at hg
 · have e : a.block = g := by simpa [Value.ownBlock] using hg
   exact h.2 a rfl (e ▸ hk.1)
theorem news_alloc {Y : World} {t : TypeId} {cs : List Value} {k : Nat} (hk : Y.heap.size = k) : ∀ (j : Nat) (u : Value), cs[j]? = some u → (Y.alloc (.cells cs.toArray t)).cell? ((⟨k, 0, none⟩ : Addr).add j) = some u := by
 subst hk
 exact World.news_of_block (heap_alloc_new _ _)
end Go.Proofs.Ytnfgilbaglfkeaa
namespace Go.Proofs.Ytnfgilbaglfkeaa
def oneN (s : ByteArray) : List ByteArray := if s.toList = [] then [] else [s]
theorem oneN_no {s : ByteArray} (h : s.toList = []) : oneN s = [] := by rw [oneN, if_pos h]
theorem oneN_yes {s : ByteArray} (h : ¬ s.toList = []) : oneN s = [s] := by rw [oneN, if_neg h]
def varsT (l : List TestT) : List ByteArray := l.flatMap fun t => oneN t.var
def namesN : Nat → CondT → List ByteArray
 | 0, _ => []
 | n + 1, c => oneN c.id ++ (varsT c.attr ++ (varsT c.value ++ c.conds.flatMap (namesN n)))
theorem oneN_len (s : ByteArray) : (oneN s).length ≤ 1 := by unfold oneN; split <;> simp
theorem varsT_len (l : List TestT) : (varsT l).length ≤ l.length := by
 unfold varsT
 induction l with
 | nil => simp
 | cons t l ih => have := oneN_len t.var; rw [List.flatMap_cons, List.length_append, List.length_cons]; omega
theorem varsT_drop {l : List TestT} {i : Nat} (h : i < l.length) : varsT (l.drop i) = oneN l[i].var ++ varsT (l.drop (i + 1)) := by
 unfold varsT
 rw [List.drop_eq_getElem_cons h, List.flatMap_cons]
def encStr (v : ByteArray) : Array Value := #[.string v]
end Go.Proofs.Ytnfgilbaglfkeaa
namespace Go.Proofs.Ytnfgilbaglfkeaa
open Go.RowKit Go.Shelf
attribute [local go_sem] Oper.semAt_some
def strC (s : ByteArray) : List Value := [.string s]
theorem strC_len (s : ByteArray) : (strC s).length = 1 := rfl
theorem str_one (l : List ByteArray) : ∀ u ∈ l.flatMap strC, u.oneCell' = true := by
 intro u hu
 obtain ⟨s, _, h⟩ := List.mem_flatMap.1 hu
 simp only [strC, List.mem_cons, List.not_mem_nil, or_false] at h
 subst h; rfl
theorem info_Str : (Try.prog.info? 9).map (fun i => (i.zero, i.size, i.bytes)) = some (some (.string ⟨#[]⟩), 1, 16) := by kernel_rfl
def StrsTo (W : World) (xs : List ByteArray) (e : Ending) (W' : World) : Prop :=
 ∃ A c, e = .returned (.slice A xs.length c) ∧ W'.ownsRow 0 9 1 (.slice A xs.length c) xs.length (xs.flatMap strC) ∧ AIn A (W.heap.size ≤ ·) ∧ Below W.heap.size W W'
def ColI (w : World) (ob : Nat) (D : Nat → Prop) (pre : List ByteArray) (X : World) : Prop :=
 ∃ A c, Own D X ob 63 #[.slice A pre.length c] ∧ OwnRD D X 9 1 pre.length A c (pre.flatMap strC) ∧ AIn A (w.heap.size ≤ ·) ∧ Below w.heap.size w X ∧ (∀ k, D k → k < X.heap.size)
theorem ColI.step {w : World} {ob B : Nat} {D : Nat → Prop} {pre : List ByteArray} {X Y : World} (h : ColI w ob D pre X) (hB : w.heap.size ≤ B) (hF : Fr (FromB B D) X Y) : ColI w ob (Plus D X Y) pre Y := by
 obtain ⟨A, c, h1, h2, h3, h4, h5⟩ := h
 exact ⟨A, c, h1.step hF, h2.step hF, h3, h4.trans (hF.below h4.size (fun k hk hn => by have := hn.2; omega)), fun k hk => hk.elim (fun hk => Nat.lt_of_lt_of_le (h5 k hk) hF.size) (·.2)⟩
set_option maxRecDepth 100000 in
set_option maxHeartbeats 4000000 in
theorem listO_is {D : Nat → Prop} (gf : Nat) (lb : Array Value) (xs : List ByteArray) (w : World) (hD : ∀ k, D k → k < w.heap.size) (hit : ∀ W, Below w.heap.size w W → IterO Try.prog gf lb encStr xs W D)
 (hent : ∀ args w, (callFunc gf args).run Try.prog w = .ok (.enter gf args) w) (hlen : xs.length ≤ 1000000) :
 Calls Try.prog 28 #[.func (.func gf) #[] lb] w (StrsTo w xs) := by
 obtain ⟨i0, hi0, hz0, hz1, hz2⟩ := info_parts info_Str
 have hbe : ∀ W, (binOp .eql 66 (.func (.func gf) #[] lb) .nilFunc).run Try.prog W = .ok (.bool false) W := fun W => by kernel_rfl
 have HD := Lib.hid hD
 have HIT := Lib.hid hit
 have HENT := Lib.hid hent
 clear hD hit hent
 refine (callsIn_wide (n := 0)).1 ?_
 refine callsIn_of_wp_marks Try.func28 rfl trivial ?_
 refine wpIn_wide.2 ?_
 simp only [Try.ntmps28, List.size_toArray, List.length_cons, List.length_nil, Nat.reduceAdd, Nat.reduceSub, Array.replicate_succ, Array.replicate_zero, List.push_toArray, List.append_toArray, List.nil_append, List.cons_append]
 go_upto_region 2 with fail
 obtain ⟨w1, hw1⟩ : ∃ w1, w1 = (w.alloc (.cells #[.slice none 0 0] 63)) := ⟨_, rfl⟩
 rw [← hw1]
 have HB := Lib.hid (show Below w.heap.size w w1 by rw [hw1]; exact (by repeat (first | exact Below.refl _ _ | refine Below.drew ?_ | refine Below.al ?_ _ | refine Below.sc ?_ _)))
 have Ko := Lib.hid (show Blk w1 (w.heap.size) 63 #[.slice none 0 0] by rw [hw1]; exact (Blk.new w 63 #[.slice none 0 0]))
 clear hw1
 have o0 := Ko.out.c1
 have of0 := Ko.out.frozen 0
 have oz := Ko.out.lt
 go_wp2_with fail
 obtain ⟨I, hI⟩ : ∃ I : (Nat → Prop) → List ByteArray → World → Prop, I = fun D' pre X => ColI w (w.heap.size) D' pre X := ⟨_, rfl⟩
 obtain ⟨Ix, hIx⟩ : ∃ Ix : Code → (Nat → Prop) → List ByteArray → World → Prop, Ix = fun cd D' pre X => False := ⟨_, rfl⟩
 have hzs := HB.out.size
 have hst : Steady w1.heap.size I := by
  subst hI
  intro D' pre X Y h hF
  exact h.step HB.out.size hF
 have hstx : ∀ cd, Steady w1.heap.size (Ix cd) := by
  subst hIx
  intro cd D' pre X Y h hF
  exact h.elim
 have HST := Lib.hid hst
 have HZ1 := Lib.hid hzs
 refine (wpIn_wide (n := 0)).1 ?_
 refine wpIn_rangeO (w := w1) (by rfl) HENT.out (fun k hk => Nat.lt_of_lt_of_le (HD.out k hk) HZ1.out) (fun W hW => HIT.out W (HB.out.trans (hW.mono HZ1.out))) (fun x => by rfl) I Ix hst hstx ?_ ?_ ?_ ?_
 · subst hI
   exact ⟨none, 0, ⟨Ko.out, (fun hd => by have := HD.out _ hd; omega)⟩, ⟨owns_nilC _ _ _, AIn.none_ _⟩, AIn.none_ _, HB.out, fun k hk => Nat.lt_of_lt_of_le (HD.out k hk) HZ1.out⟩
 · intro D' lo pre x post X hx hlo hDl hIX
   have hpl : pre.length + 1 ≤ 1000000 := by
    have := congrArg List.length hx
    simp at this
    omega
   simp only [encStr, Array.zip]
   gi_wp2_with fail
   refine ⟨Fr.refl _ _, fun X2 hF2 hz2 _ => ?_⟩
   have hI2 := hst.same hIX (hF2.mono (fun k _ e => by rw [e]; exact ⟨hDl, hlo⟩)) hz2
   have HI := Lib.hid hI
   have HIX := Lib.hid hIx
   rw [hI] at hI2
   clear hI hIx hst hstx hIX hF2 hz2 HST hx
   obtain ⟨A, c, hbo, hro, hao, hbl, hdl⟩ := hI2
   have b0 := (hbo.1.cell 0).trans rfl
   have bf := hbo.1.frozen 0
   have bz := hbo.1.lt
   obtain ⟨X9, hX9⟩ : ∃ X9, X9 = X2.alloc (.cells #[.string x] 9) := ⟨_, rfl⟩
   have hb9 : Below X2.heap.size X2 X9 := by rw [hX9]; exact (Below.refl _ _).alloc (Nat.le_refl _) _
   have HX9 := Lib.hid hX9
   have HB9 := Lib.hid hb9
   have HO9 := Lib.hid (ownsRow_new hro.1 hb9)
   have HN9 := Lib.hid (show ∀ (j : Nat) (u : Value), (strC x)[j]? = some u → X9.cell? ((⟨X2.heap.size, 0, none⟩ : Addr).add j) = some u by rw [hX9]; exact news_alloc rfl)
   have HBO := Lib.hid hbo
   have HRO := Lib.hid hro
   have HAO := Lib.hid hao
   have HBL := Lib.hid hbl
   have HDL := Lib.hid hdl
   have KBB := Lib.hid (hbo.1.new_ hb9)
   clear hX9 hb9 hbo hro hao hbl hdl
   gi_wp2_with (gi_at_builtin; rw [← HX9.out]; refine wpListIn_app X9 rfl (.tmp 9) (.tmp 11) 63 rfl 9 i0 _ 1 16 Try.underlying63 hi0 hz0 hz1 hz2 rfl (by decide) _ pre.length _ rfl HO9.out _ 1 1 (strC x) rfl rfl (fun _ => ⟨_, rfl, HN9.out⟩) (by intro u hu; simp only [strC, List.mem_cons, List.not_mem_nil, or_false] at hu; subst hu; rfl) (by unfold maxLen; omega) (by omega) ?_; intro v' w6 hown hg hnil hat; obtain ⟨A3, c3, rfl, hF3, hA3, hO3⟩ := grown_own (E := fun k => ∃ a, A = some a ∧ a.block = k) (fun a ha => ⟨a, ha, rfl⟩) hown hg hat; have HF3 := Lib.hid hF3; have HA3 := Lib.hid hA3; have HO3 := Lib.hid hO3; have hkb6 := KBB.out.grown hg (own_blk_ne HO9.out KBB.out (by decide)); have b0 := (hkb6.cell 0).trans rfl; have bf := hkb6.frozen 0; have bz := hkb6.lt; have KBB6 := Lib.hid hkb6; clear hkb6 hown hg hnil hat hF3 hA3 hO3)
   have hF7 : Fr (fun k => (∃ a, A = some a ∧ a.block = k) ∨ k = w.heap.size) X2 (w6.setCell ⟨w.heap.size, 0, none⟩ (.slice A3 (pre.length + 1) c3)) :=
    ((Fr.of_new HB9.out).trans (HF3.out.mono (fun k _ hk => .inl hk))).setCell (p := ⟨w.heap.size, 0, none⟩) (.inl (.inr rfl)) _
   have hnD : ∀ k, ((∃ a, A = some a ∧ a.block = k) ∨ k = w.heap.size) → ¬ D' k := by
    rintro k (⟨a, ha, rfl⟩ | rfl)
    · exact HRO.out.2 a ha
    · exact HBO.out.2
   have hz9' := HB9.out.size
   have hlow : w.heap.size ≤ X2.heap.size := HBL.out.size
   have hAn : ∀ a, A3 = some a → ((∃ b, A = some b ∧ b.block = a.block) ∨ X2.heap.size < a.block) := fun a ha => by
    rcases HA3.out a ha with h | h
    · exact .inl h
    · refine .inr ?_
      have : X9.heap.size = X2.heap.size + 1 := by rw [HX9.out]; simp
      omega
   have hcol : ColI w (w.heap.size) D' (pre ++ [x]) (w6.setCell ⟨w.heap.size, 0, none⟩ (.slice A3 (pre.length + 1) c3)) := by
    have e1 : (pre ++ [x]).length = pre.length + 1 := by simp
    refine ⟨A3, c3, ⟨?_, HBO.out.2⟩, ⟨?_, fun a ha hd => ?_⟩, fun a ha => ?_, HBL.out.trans (hF7.below hlow (fun k hk hn => ?_)), fun k hk => Nat.lt_of_lt_of_le (HDL.out k hk) hF7.size⟩
    · rw [e1]
      simpa using KBB6.out.set_ 0 (.slice A3 (pre.length + 1) c3)
    · rw [e1, List.flatMap_append]
      have := ownsRow_setCell_other (a := ⟨w.heap.size, 0, none⟩) HO3.out (own_blk_ne HO3.out KBB6.out (by decide)) (.slice A3 (pre.length + 1) c3)
      simpa [strC] using this
    · rcases hAn a ha with ⟨b, hb, e⟩ | h
      · exact HRO.out.2 b hb (e ▸ hd)
      · exact absurd (HDL.out _ hd) (by omega)
    · rcases hAn a ha with ⟨b, hb, e⟩ | h
      · have := HAO.out b hb
        show w.heap.size ≤ a.block
        omega
      · show w.heap.size ≤ a.block
        omega
    · rcases hn with ⟨a, ha, rfl⟩ | rfl
      · have := HAO.out a ha
        omega
      · omega
   refine ⟨hF7.mono (fun k _ hk => hnD k hk), ?_⟩
   rw [HI.out]
   exact hcol
 · intro D' d X hd hDd hIX hK
   rw [hI] at hIX
   obtain ⟨A, c, hbo, hro, hao, hbl, hdl⟩ := hIX
   have b0 := (hbo.1.cell 0).trans rfl
   have bz := hbo.1.lt
   have HRO := Lib.hid hro
   have HAO := Lib.hid hao
   have HBL := Lib.hid hbl
   have HK := Lib.hid hK
   have HBO := Lib.hid hbo
   clear hI hIx hst hstx HST hbo hro hao hbl hdl hK
   go_wp2_with fail
   refine ⟨by simp, .inl ⟨_, _, rfl, run_takeDeferred HK.out, ?_⟩⟩
   have hput : Fr (· = d) X (X.putObj d (.deferred none)) := (Fr.refl (· = d) X).putObj (.inl rfl) _
   refine ⟨_, results_tmp rfl _ _ _, ?_⟩
   exact ⟨A, c, rfl, ownsRow_fr HRO.out.1 hput (fun g hg e => by
    rcases A with _ | a
    · simp [Value.ownBlock] at hg
    · have e2 : a.block = g := by simpa [Value.ownBlock] using hg
      exact HRO.out.2 a rfl (by rw [e2, e]; exact hDd)), HAO.out, HBL.out.trans (hput.below HBL.out.size (fun k hk hn => by have := HZ1.out; omega))⟩
 · intro D' d cd pre post X hd hDd hx hIX hK
   rw [hIx] at hIX
   exact hIX.elim
set_option maxRecDepth 100000 in
set_option maxHeartbeats 4000000 in
theorem firstO_is {D : Nat → Prop} (gf : Nat) (lb : Array Value) (xs : List ByteArray) (w : World) (n : Int) (hD : ∀ k, D k → k < w.heap.size) (hit : ∀ W, Below w.heap.size w W → IterO Try.prog gf lb encStr xs W D)
 (hent : ∀ args w, (callFunc gf args).run Try.prog w = .ok (.enter gf args) w) (hlen : xs.length ≤ 1000000) :
 Calls Try.prog 27 #[.func (.func gf) #[] lb, .int .i64 n] w (StrsTo w (xs.take n.toNat)) := by
 obtain ⟨i0, hi0, hz0, hz1, hz2⟩ := info_parts info_Str
 have hbe : ∀ W, (binOp .eql 66 (.func (.func gf) #[] lb) .nilFunc).run Try.prog W = .ok (.bool false) W := fun W => by kernel_rfl
 have HD := Lib.hid hD
 have HIT := Lib.hid hit
 have HENT := Lib.hid hent
 clear hD hit hent
 by_cases h1 : n < 1
 · have t1 : decide (n < 1) = true := by simp; omega
   have HT := Lib.hid (show xs.take n.toNat = [] by rw [show n.toNat = 0 by omega, List.take_zero])
   clear h1
   refine (callsIn_wide (n := 0)).1 ?_
   refine callsIn_of_wp_marks Try.func27 rfl trivial ?_
   refine wpIn_wide.2 ?_
   simp only [Try.ntmps27, List.size_toArray, List.length_cons, List.length_nil, Nat.reduceAdd, Nat.reduceSub, Array.replicate_succ, Array.replicate_zero, List.push_toArray, List.append_toArray, List.nil_append, List.cons_append]
   go_upto_region 2 with fail
   obtain ⟨w1, hw1⟩ : ∃ w1, w1 = ((w.alloc (.cells #[.int .i64 n] 3)).alloc (.cells #[.slice none 0 0] 63)) := ⟨_, rfl⟩
   rw [← hw1]
   have HB := Lib.hid (show Below w.heap.size w w1 by rw [hw1]; exact (by repeat (first | exact Below.refl _ _ | refine Below.drew ?_ | refine Below.al ?_ _ | refine Below.sc ?_ _)))
   have Kn := Lib.hid (show Blk w1 (w.heap.size) 3 #[.int .i64 n] by rw [hw1]; exact ((Blk.new w 3 #[.int .i64 n]).alloc (.cells #[.slice none 0 0] 63)))
   have Ko := Lib.hid (show Blk w1 (w.heap.size + 1) 63 #[.slice none 0 0] by rw [hw1]; have hh := (Blk.new (w.alloc (.cells #[.int .i64 n] 3)) 63 #[.slice none 0 0]); simp only [World.size_alloc] at hh; exact hh)
   clear hw1
   have n0 := Kn.out.c1
   have nz := Kn.out.lt
   have o0 := Ko.out.c1
   have of0 := Ko.out.frozen 0
   have oz := Ko.out.lt
   go_wp2_with fail
   refine ⟨_, results_tmp rfl _ _ _, ?_⟩
   rw [HT.out]
   exact ⟨none, 0, rfl, owns_nilC _ _ _, AIn.none_ _, HB.out⟩
 · have t1 : decide (n < 1) = false := by simp; omega
   obtain ⟨m, rfl⟩ : ∃ m : Nat, n = m := ⟨n.toNat, by omega⟩
   have hm : 1 ≤ m := by omega
   clear h1
   rw [Int.toNat_natCast]
   refine (callsIn_wide (n := 0)).1 ?_
   refine callsIn_of_wp_marks Try.func27 rfl trivial ?_
   refine wpIn_wide.2 ?_
   simp only [Try.ntmps27, List.size_toArray, List.length_cons, List.length_nil, Nat.reduceAdd, Nat.reduceSub, Array.replicate_succ, Array.replicate_zero, List.push_toArray, List.append_toArray, List.nil_append, List.cons_append]
   go_upto_region 2 with fail
   obtain ⟨w1, hw1⟩ : ∃ w1, w1 = ((w.alloc (.cells #[.int .i64 (m : Int)] 3)).alloc (.cells #[.slice none 0 0] 63)) := ⟨_, rfl⟩
   rw [← hw1]
   have HB := Lib.hid (show Below w.heap.size w w1 by rw [hw1]; exact (by repeat (first | exact Below.refl _ _ | refine Below.drew ?_ | refine Below.al ?_ _ | refine Below.sc ?_ _)))
   have Kn := Lib.hid (show Blk w1 (w.heap.size) 3 #[.int .i64 (m : Int)] by rw [hw1]; exact ((Blk.new w 3 #[.int .i64 (m : Int)]).alloc (.cells #[.slice none 0 0] 63)))
   have Ko := Lib.hid (show Blk w1 (w.heap.size + 1) 63 #[.slice none 0 0] by rw [hw1]; have hh := (Blk.new (w.alloc (.cells #[.int .i64 (m : Int)] 3)) 63 #[.slice none 0 0]); simp only [World.size_alloc] at hh; exact hh)
   clear hw1
   have n0 := Kn.out.c1
   have nz := Kn.out.lt
   have o0 := Ko.out.c1
   have of0 := Ko.out.frozen 0
   have oz := Ko.out.lt
   go_wp2_with fail
   obtain ⟨I, hI⟩ : ∃ I : (Nat → Prop) → List ByteArray → World → Prop, I = fun D' pre X => (ColI w (w.heap.size + 1) D' pre X) ∧ Own D' X w.heap.size 3 #[.int .i64 (m : Int)] ∧ pre.length < m := ⟨_, rfl⟩
   obtain ⟨Ix, hIx⟩ : ∃ Ix : Code → (Nat → Prop) → List ByteArray → World → Prop, Ix = fun cd D' pre X => cd = .exit 0 ∧ ColI w (w.heap.size + 1) D' pre X ∧ pre.length = m := ⟨_, rfl⟩
   have hzs := HB.out.size
   have hst : Steady w1.heap.size I := by
    subst hI
    intro D' pre X Y h hF
    exact ⟨h.1.step HB.out.size hF, h.2.1.step hF, h.2.2⟩
   have hstx : ∀ cd, Steady w1.heap.size (Ix cd) := by
    subst hIx
    intro cd D' pre X Y h hF
    exact ⟨h.1, h.2.1.step HB.out.size hF, h.2.2⟩
   have HST := Lib.hid hst
   have HZ1 := Lib.hid hzs
   refine (wpIn_wide (n := 0)).1 ?_
   refine wpIn_rangeO (w := w1) (by rfl) HENT.out (fun k hk => Nat.lt_of_lt_of_le (HD.out k hk) HZ1.out) (fun W hW => HIT.out W (HB.out.trans (hW.mono HZ1.out))) (fun x => by rfl) I Ix hst hstx ?_ ?_ ?_ ?_
   · subst hI
     exact ⟨⟨none, 0, ⟨Ko.out, (fun hd => by have := HD.out _ hd; omega)⟩, ⟨owns_nilC _ _ _, AIn.none_ _⟩, AIn.none_ _, HB.out, fun k hk => Nat.lt_of_lt_of_le (HD.out k hk) HZ1.out⟩, ⟨Kn.out, (fun hd => by have := HD.out _ hd; omega)⟩, hm⟩
   · intro D' lo pre x post X hx hlo hDl hIX
     have hpl : pre.length + 1 ≤ 1000000 := by
      have := congrArg List.length hx
      simp at this
      omega
     simp only [encStr, Array.zip]
     gi_wp2_with fail
     refine ⟨Fr.refl _ _, fun X2 hF2 hz2 _ => ?_⟩
     have hI2 := hst.same hIX (hF2.mono (fun k _ e => by rw [e]; exact ⟨hDl, hlo⟩)) hz2
     have HI := Lib.hid hI
     have HIX := Lib.hid hIx
     rw [hI] at hI2
     clear hI hIx hst hstx hIX hF2 hz2 HST hx
     obtain ⟨⟨A, c, hbo, hro, hao, hbl, hdl⟩, hbn, hpm⟩ := hI2
     have b0 := (hbo.1.cell 0).trans rfl
     have bf := hbo.1.frozen 0
     have bz := hbo.1.lt
     obtain ⟨X9, hX9⟩ : ∃ X9, X9 = X2.alloc (.cells #[.string x] 9) := ⟨_, rfl⟩
     have hb9 : Below X2.heap.size X2 X9 := by rw [hX9]; exact (Below.refl _ _).alloc (Nat.le_refl _) _
     have HX9 := Lib.hid hX9
     have HB9 := Lib.hid hb9
     have HO9 := Lib.hid (ownsRow_new hro.1 hb9)
     have HN9 := Lib.hid (show ∀ (j : Nat) (u : Value), (strC x)[j]? = some u → X9.cell? ((⟨X2.heap.size, 0, none⟩ : Addr).add j) = some u by rw [hX9]; exact news_alloc rfl)
     have HBO := Lib.hid hbo
     have HRO := Lib.hid hro
     have HAO := Lib.hid hao
     have HBL := Lib.hid hbl
     have HDL := Lib.hid hdl
     have KBB := Lib.hid (hbo.1.new_ hb9)
     clear hX9 hb9 hbo hro hao hbl hdl
     have HBN := Lib.hid hbn
     have KN9 := Lib.hid (hbn.1.new_ HB9.out)
     have hz9 := HB9.out.size
     clear hbn
     by_cases hd : m ≤ pre.length + 1
     · have t2 : decide ((m : Int) ≤ ((pre.length + 1 : Nat) : Int)) = true := by simp; omega
       have t3 : decide ((m : Int) ≤ (pre.length : Int) + 1) = true := by simp; omega
       gi_wp2_with (gi_at_builtin; rw [← HX9.out]; refine wpListIn_app X9 rfl (.tmp 15) (.tmp 17) 63 rfl 9 i0 _ 1 16 Try.underlying63 hi0 hz0 hz1 hz2 rfl (by decide) _ pre.length _ rfl HO9.out _ 1 1 (strC x) rfl rfl (fun _ => ⟨_, rfl, HN9.out⟩) (by intro u hu; simp only [strC, List.mem_cons, List.not_mem_nil, or_false] at hu; subst hu; rfl) (by unfold maxLen; omega) (by omega) ?_; intro v' w6 hown hg hnil hat; obtain ⟨A3, c3, rfl, hF3, hA3, hO3⟩ := grown_own (E := fun k => ∃ a, A = some a ∧ a.block = k) (fun a ha => ⟨a, ha, rfl⟩) hown hg hat; have HF3 := Lib.hid hF3; have HA3 := Lib.hid hA3; have HO3 := Lib.hid hO3; have hkb6 := KBB.out.grown hg (own_blk_ne HO9.out KBB.out (by decide)); have b0 := (hkb6.cell 0).trans rfl; have bf := hkb6.frozen 0; have bz := hkb6.lt; have KBB6 := Lib.hid hkb6; have hkn := KN9.out.grown hg (own_blk_ne HO9.out KN9.out (by decide)); have n0 := (hkn.cell 0).trans rfl; have nz := hkn.lt; have KN6 := Lib.hid hkn; clear hkn; clear hkb6 hown hg hnil hat hF3 hA3 hO3)
       have hF7 : Fr (fun k => (∃ a, A = some a ∧ a.block = k) ∨ k = w.heap.size + 1) X2 (w6.setCell ⟨w.heap.size + 1, 0, none⟩ (.slice A3 (pre.length + 1) c3)) :=
        ((Fr.of_new HB9.out).trans (HF3.out.mono (fun k _ hk => .inl hk))).setCell (p := ⟨w.heap.size + 1, 0, none⟩) (.inl (.inr rfl)) _
       have hnD : ∀ k, ((∃ a, A = some a ∧ a.block = k) ∨ k = w.heap.size + 1) → ¬ D' k := by
        rintro k (⟨a, ha, rfl⟩ | rfl)
        · exact HRO.out.2 a ha
        · exact HBO.out.2
       have hz9' := HB9.out.size
       have hlow : w.heap.size ≤ X2.heap.size := HBL.out.size
       have hAn : ∀ a, A3 = some a → ((∃ b, A = some b ∧ b.block = a.block) ∨ X2.heap.size < a.block) := fun a ha => by
        rcases HA3.out a ha with h | h
        · exact .inl h
        · refine .inr ?_
          have : X9.heap.size = X2.heap.size + 1 := by rw [HX9.out]; simp
          omega
       have hcol : ColI w (w.heap.size + 1) D' (pre ++ [x]) (w6.setCell ⟨w.heap.size + 1, 0, none⟩ (.slice A3 (pre.length + 1) c3)) := by
        have e1 : (pre ++ [x]).length = pre.length + 1 := by simp
        refine ⟨A3, c3, ⟨?_, HBO.out.2⟩, ⟨?_, fun a ha hd => ?_⟩, fun a ha => ?_, HBL.out.trans (hF7.below hlow (fun k hk hn => ?_)), fun k hk => Nat.lt_of_lt_of_le (HDL.out k hk) hF7.size⟩
        · rw [e1]
          simpa using KBB6.out.set_ 0 (.slice A3 (pre.length + 1) c3)
        · rw [e1, List.flatMap_append]
          have := ownsRow_setCell_other (a := ⟨w.heap.size + 1, 0, none⟩) HO3.out (own_blk_ne HO3.out KBB6.out (by decide)) (.slice A3 (pre.length + 1) c3)
          simpa [strC] using this
        · rcases hAn a ha with ⟨b, hb, e⟩ | h
          · exact HRO.out.2 b hb (e ▸ hd)
          · exact absurd (HDL.out _ hd) (by omega)
        · rcases hAn a ha with ⟨b, hb, e⟩ | h
          · have := HAO.out b hb
            show w.heap.size ≤ a.block
            omega
          · show w.heap.size ≤ a.block
            omega
        · rcases hn with ⟨a, ha, rfl⟩ | rfl
          · have := HAO.out a ha
            omega
          · omega
       have hnn : Own D' (w6.setCell ⟨w.heap.size + 1, 0, none⟩ (.slice A3 (pre.length + 1) c3)) w.heap.size 3 #[.int .i64 (m : Int)] := ⟨KN6.out.far (p := ⟨w.heap.size + 1, 0, none⟩) (by dsimp only; omega) _, HBN.out.2⟩
       refine ⟨hF7.mono (fun k _ hk => hnD k hk), ?_⟩
       rw [HIX.out]
       exact ⟨rfl, hcol, by simp; omega⟩
     · have t2 : decide ((m : Int) ≤ ((pre.length + 1 : Nat) : Int)) = false := by simp; omega
       have t3 : decide ((m : Int) ≤ (pre.length : Int) + 1) = false := by simp; omega
       gi_wp2_with (gi_at_builtin; rw [← HX9.out]; refine wpListIn_app X9 rfl (.tmp 15) (.tmp 17) 63 rfl 9 i0 _ 1 16 Try.underlying63 hi0 hz0 hz1 hz2 rfl (by decide) _ pre.length _ rfl HO9.out _ 1 1 (strC x) rfl rfl (fun _ => ⟨_, rfl, HN9.out⟩) (by intro u hu; simp only [strC, List.mem_cons, List.not_mem_nil, or_false] at hu; subst hu; rfl) (by unfold maxLen; omega) (by omega) ?_; intro v' w6 hown hg hnil hat; obtain ⟨A3, c3, rfl, hF3, hA3, hO3⟩ := grown_own (E := fun k => ∃ a, A = some a ∧ a.block = k) (fun a ha => ⟨a, ha, rfl⟩) hown hg hat; have HF3 := Lib.hid hF3; have HA3 := Lib.hid hA3; have HO3 := Lib.hid hO3; have hkb6 := KBB.out.grown hg (own_blk_ne HO9.out KBB.out (by decide)); have b0 := (hkb6.cell 0).trans rfl; have bf := hkb6.frozen 0; have bz := hkb6.lt; have KBB6 := Lib.hid hkb6; have hkn := KN9.out.grown hg (own_blk_ne HO9.out KN9.out (by decide)); have n0 := (hkn.cell 0).trans rfl; have nz := hkn.lt; have KN6 := Lib.hid hkn; clear hkn; clear hkb6 hown hg hnil hat hF3 hA3 hO3)
       have hF7 : Fr (fun k => (∃ a, A = some a ∧ a.block = k) ∨ k = w.heap.size + 1) X2 (w6.setCell ⟨w.heap.size + 1, 0, none⟩ (.slice A3 (pre.length + 1) c3)) :=
        ((Fr.of_new HB9.out).trans (HF3.out.mono (fun k _ hk => .inl hk))).setCell (p := ⟨w.heap.size + 1, 0, none⟩) (.inl (.inr rfl)) _
       have hnD : ∀ k, ((∃ a, A = some a ∧ a.block = k) ∨ k = w.heap.size + 1) → ¬ D' k := by
        rintro k (⟨a, ha, rfl⟩ | rfl)
        · exact HRO.out.2 a ha
        · exact HBO.out.2
       have hz9' := HB9.out.size
       have hlow : w.heap.size ≤ X2.heap.size := HBL.out.size
       have hAn : ∀ a, A3 = some a → ((∃ b, A = some b ∧ b.block = a.block) ∨ X2.heap.size < a.block) := fun a ha => by
        rcases HA3.out a ha with h | h
        · exact .inl h
        · refine .inr ?_
          have : X9.heap.size = X2.heap.size + 1 := by rw [HX9.out]; simp
          omega
       have hcol : ColI w (w.heap.size + 1) D' (pre ++ [x]) (w6.setCell ⟨w.heap.size + 1, 0, none⟩ (.slice A3 (pre.length + 1) c3)) := by
        have e1 : (pre ++ [x]).length = pre.length + 1 := by simp
        refine ⟨A3, c3, ⟨?_, HBO.out.2⟩, ⟨?_, fun a ha hd => ?_⟩, fun a ha => ?_, HBL.out.trans (hF7.below hlow (fun k hk hn => ?_)), fun k hk => Nat.lt_of_lt_of_le (HDL.out k hk) hF7.size⟩
        · rw [e1]
          simpa using KBB6.out.set_ 0 (.slice A3 (pre.length + 1) c3)
        · rw [e1, List.flatMap_append]
          have := ownsRow_setCell_other (a := ⟨w.heap.size + 1, 0, none⟩) HO3.out (own_blk_ne HO3.out KBB6.out (by decide)) (.slice A3 (pre.length + 1) c3)
          simpa [strC] using this
        · rcases hAn a ha with ⟨b, hb, e⟩ | h
          · exact HRO.out.2 b hb (e ▸ hd)
          · exact absurd (HDL.out _ hd) (by omega)
        · rcases hAn a ha with ⟨b, hb, e⟩ | h
          · have := HAO.out b hb
            show w.heap.size ≤ a.block
            omega
          · show w.heap.size ≤ a.block
            omega
        · rcases hn with ⟨a, ha, rfl⟩ | rfl
          · have := HAO.out a ha
            omega
          · omega
       have hnn : Own D' (w6.setCell ⟨w.heap.size + 1, 0, none⟩ (.slice A3 (pre.length + 1) c3)) w.heap.size 3 #[.int .i64 (m : Int)] := ⟨KN6.out.far (p := ⟨w.heap.size + 1, 0, none⟩) (by dsimp only; omega) _, HBN.out.2⟩
       refine ⟨hF7.mono (fun k _ hk => hnD k hk), ?_⟩
       rw [HI.out]
       exact ⟨hcol, hnn, by simp; omega⟩
   · intro D' d X hd hDd hIX hK
     rw [hI] at hIX
     obtain ⟨⟨A, c, hbo, hro, hao, hbl, hdl⟩, hbn, hpm⟩ := hIX
     have b0 := (hbo.1.cell 0).trans rfl
     have bz := hbo.1.lt
     have HRO := Lib.hid hro
     have HAO := Lib.hid hao
     have HBL := Lib.hid hbl
     have HK := Lib.hid hK
     have HBO := Lib.hid hbo
     have HT := Lib.hid (show xs.take m = xs from List.take_of_length_le (by omega))
     clear hbn hI hIx hst hstx HST hbo hro hao hbl hdl hK
     go_wp2_with fail
     refine ⟨by simp, .inl ⟨_, _, rfl, run_takeDeferred HK.out, ?_⟩⟩
     have hput : Fr (· = d) X (X.putObj d (.deferred none)) := (Fr.refl (· = d) X).putObj (.inl rfl) _
     refine ⟨_, results_tmp rfl _ _ _, ?_⟩
     rw [HT.out]
     exact ⟨A, c, rfl, ownsRow_fr HRO.out.1 hput (fun g hg e => by
      rcases A with _ | a
      · simp [Value.ownBlock] at hg
      · have e2 : a.block = g := by simpa [Value.ownBlock] using hg
        exact HRO.out.2 a rfl (by rw [e2, e]; exact hDd)), HAO.out, HBL.out.trans (hput.below HBL.out.size (fun k hk hn => by have := HZ1.out; omega))⟩
   · intro D' d cd pre post X hd hDd hx hIX hK
     rw [hIx] at hIX
     obtain ⟨rfl, ⟨A, c, hbo, hro, hao, hbl, hdl⟩, hpm⟩ := hIX
     have b0 := (hbo.1.cell 0).trans rfl
     have bz := hbo.1.lt
     have HRO := Lib.hid hro
     have HAO := Lib.hid hao
     have HBL := Lib.hid hbl
     have HK := Lib.hid hK
     have HBO := Lib.hid hbo
     have HT := Lib.hid (show xs.take m = pre by rw [hx, ← hpm]; simp)
     clear hx hpm hI hIx hst hstx HST hbo hro hao hbl hdl hK
     gi_wp2_with fail
     go_wp2_with fail
     refine ⟨by simp, .inl ⟨_, _, rfl, run_takeDeferred HK.out, ?_⟩⟩
     have hput : Fr (· = d) X (X.putObj d (.deferred none)) := (Fr.refl (· = d) X).putObj (.inl rfl) _
     refine ⟨_, results_tmp rfl _ _ _, ?_⟩
     rw [HT.out]
     exact ⟨A, c, rfl, ownsRow_fr HRO.out.1 hput (fun g hg e => by
      rcases A with _ | a
      · simp [Value.ownBlock] at hg
      · have e2 : a.block = g := by simpa [Value.ownBlock] using hg
        exact HRO.out.2 a rfl (by rw [e2, e]; exact hDd)), HAO.out, HBL.out.trans (hput.below HBL.out.size (fun k hk hn => by have := HZ1.out; omega))⟩
end Go.Proofs.Ytnfgilbaglfkeaa
namespace Go.Proofs.Ytnfgilbaglfkeaa
open Go.RowKit Go.Shelf
theorem str_at {D : Nat → Prop} {w : World} {A : Option Addr} {c k : Nat} {l : List ByteArray} (h : RowR repStr D w A c l) (hk : k < l.length) : ∃ g off, A = some ⟨g, off, none⟩ ∧ g < w.heap.size ∧ w.cell? ⟨g, off + k, none⟩ = some (.string l[k]) := by
 obtain ⟨g, off, cs, hA, hD, hg, hr, hc⟩ := h.at_ hk
 have hr2 : cs = [Value.string l[k]] := hr
 subst hr2
 exact ⟨g, off, hA, hg, by simpa [repStr, RepT.flat] using hc 0 _ rfl⟩
theorem strs_row {w : World} {A : Option Addr} {c n : Nat} {l : List ByteArray} (hn : l.length = n) (h : w.ownsRow 0 9 1 (.slice A n c) n (l.flatMap strC)) : RowR repStr (fun _ => True) w A c l := by
 subst hn
 exact RowR.of_rd (ownsRow_rd strC_len h) (fun _ _ => trivial)
set_option maxRecDepth 100000 in
set_option maxHeartbeats 2000000 in
theorem texts_is {D D' : Nat → Prop} {A B : Option Addr} {c d : Nat} (l m : List ByteArray) (w : World) (hl : RowR repStr D w A c l) (hm : RowR repStr D' w B d m) :
 Calls Try.prog 26 #[.slice A l.length c, .slice B m.length d] w fun e w' => e = .returned (.bool (decide (l = m))) ∧ Below w.heap.size w w' := by
 have HL := Lib.hid hl
 have HM := Lib.hid hm
 have hlc := hl.cap
 clear hl hm
 by_cases hlm : l.length = m.length
 · have t1 : ((l.length : Int) != (m.length : Int)) = false := by simp; omega
   have HLM := Lib.hid hlm
   clear hlm
   go_enter Try.func26, Try.ntmps26
   go_wp2_with fail
   go_loopw [5] (fun s wr => ∃ i : Nat, s = .int .i64 i ∧ i ≤ l.length ∧ (∀ k, (h : k < l.length) → (h' : k < m.length) → k < i → l[k] = m[k]) ∧ Below w.heap.size w wr) (fun s wr => l.length - (intOf s).toNat)
   case atStart => exact ⟨0, rfl, Nat.zero_le _, fun k _ _ h => absurd h (by omega), Below.refl _ _⟩
   case round =>
    obtain ⟨i, rfl, hi, hall, hB⟩ := hrel
    have HALL := Lib.hid hall
    have HB := Lib.hid hB
    clear hall hB
    by_cases hlt : i < l.length
    · have hlt2 : i < m.length := by have := HLM.out; omega
      obtain ⟨x, hx⟩ : ∃ x, x = l[i] := ⟨_, rfl⟩
      obtain ⟨y, hy⟩ : ∃ y, y = m[i] := ⟨_, rfl⟩
      obtain ⟨g, off, rfl, hgs, q0⟩ := str_at (HL.out.new_ HB.out) hlt
      obtain ⟨g2, off2, rfl, hgs2, p0⟩ := str_at (HM.out.new_ HB.out) hlt2
      rw [← hx] at q0
      rw [← hy] at p0
      have b1 : (0 : Int) ≤ (i : Int) := by omega
      have b2 : (i : Int) < (l.length : Int) := by omega
      have b3 : (i : Int) < (m.length : Int) := by omega
      have HX := Lib.hid hx
      have HY := Lib.hid hy
      clear hx hy
      by_cases he : x = y
      · have HE := Lib.hid he
        have t2 : (x.toList == y.toList) = true := by rw [he]; simp
        have t3 : decide (x.toList = y.toList) = true := by rw [he]; simp
        clear he
        go_wp2_with fail
        go_quiet (fail)
        have HB2 := Lib.hid (Below.drewN' HB.out nq)
        clear q0 p0
        go_wp2_with fail
        go_roundw
        case rel =>
         refine ⟨i + 1, by go_num, by omega, fun k h h' hk => ?_, HB2.out⟩
         rcases Nat.lt_or_ge k i with h3 | h3
         · exact HALL.out k h h' h3
         · obtain rfl : k = i := by omega
           rw [← HX.out, ← HY.out]
           exact HE.out
        case measure => simp [intOf] <;> omega
      · have HE := Lib.hid he
        have t2 : (x.toList == y.toList) = false := by simp; exact fun h => he (toList_inj h)
        have t3 : decide (x.toList = y.toList) = false := by simp; exact fun h => he (toList_inj h)
        clear he
        go_wp2_with fail
        go_quiet (fail)
        have HB2 := Lib.hid (Below.drewN' HB.out nq)
        clear q0 p0
        go_wp2_with fail
        go_ret
        refine ⟨?_, HB2.out⟩
        have : l ≠ m := by
         rintro rfl
         exact HE.out (HX.out.trans HY.out.symm)
        rw [decide_eq_false this]; rfl
    · have hie : i = l.length := by omega
      subst hie
      go_wp2_with fail
      go_ret
      refine ⟨?_, HB.out⟩
      have : l = m := List.ext_getElem HLM.out (fun k h h' => HALL.out k h h' h)
      rw [decide_eq_true this]; rfl
 · have t1 : ((l.length : Int) != (m.length : Int)) = true := by simp; omega
   have HLM := Lib.hid hlm
   clear hlm
   go_enter Try.func26, Try.ntmps26
   go_wp2_with fail
   go_ret
   refine ⟨?_, Below.refl _ _⟩
   have : l ≠ m := fun h => HLM.out (by rw [h])
   rw [decide_eq_false this]; rfl
end Go.Proofs.Ytnfgilbaglfkeaa
namespace Go.Proofs.Ytnfgilbaglfkeaa
open Go.RowKit Go.Shelf
abbrev V6 := {cs : List Value // cs.length = 6 ∧ ∀ u ∈ cs, u.oneCell' = true}
theorem v6_len (v : V6) : (v.1).length = 6 := v.2.1
theorem v6_one (l : List V6) : ∀ u ∈ l.flatMap (·.1), u.oneCell' = true := fun u hu => by
 obtain ⟨v, _, h⟩ := List.mem_flatMap.1 hu
 exact v.2.2 u h
def Raw6 (l : List TestT) (xs : List V6) : Prop := xs.map (fun v => (v.1[0]?, v.1[1]?)) = l.map (fun t => (some (Value.int .i64 t.rel), some (Value.string t.var)))
theorem Raw6.app {l m : List TestT} {xs ys : List V6} (h1 : Raw6 l xs) (h2 : Raw6 m ys) : Raw6 (l ++ m) (xs ++ ys) := by
 unfold Raw6 at *
 rw [List.map_append, List.map_append, h1, h2]
theorem Raw6.len {l : List TestT} {xs : List V6} (h : Raw6 l xs) : xs.length = l.length := by
 have := congrArg List.length h
 simpa using this
theorem Raw6.get {l : List TestT} {xs : List V6} (h : Raw6 l xs) {k : Nat} (hk : k < l.length) (hk2 : k < xs.length) : xs[k].1[0]? = some (.int .i64 l[k].rel) ∧ xs[k].1[1]? = some (.string l[k].var) := by
 have := congrArg (·[k]?) h
 simp only [List.getElem?_map, List.getElem?_eq_getElem hk, List.getElem?_eq_getElem hk2, Option.map_some, Option.some.injEq, Prod.mk.injEq] at this
 exact this
theorem raw_tests {D : Nat → Prop} {w : World} {A : Option Addr} {c : Nat} {l : List TestT} (h : RowR repTestT D w A c l) : ∃ xs : List V6, Raw6 l xs ∧ RowRd w 6 (·.1) A c xs := by
 by_cases h0 : 0 < l.length
 · obtain ⟨b, off, hA, _, hb, hall⟩ := h.2.2 h0
   have hex : ∀ i : Fin l.length, ∃ v : V6, v.1[0]? = some (.int .i64 l[i].rel) ∧ v.1[1]? = some (.string l[i].var) ∧ ∀ j u, v.1[j]? = some u → w.cell? ⟨b, off + i * 6 + j, none⟩ = some u := fun i => by
    obtain ⟨cs, ⟨A1, c1, hcs, _⟩, hc⟩ := hall i i.2
    subst hcs
    refine ⟨⟨_, by rfl, by simp [Value.oneCell']⟩, rfl, rfl, fun j u hu => hc j u hu⟩
   refine ⟨List.ofFn fun i => Classical.choose (hex i), ?_, ?_⟩
   · unfold Raw6
     apply List.ext_getElem
     · simp
     · intro k hk hk2
       simp only [List.length_map, List.length_ofFn] at hk
       simp only [List.getElem_map, List.getElem_ofFn]
       obtain ⟨g1, g2, _⟩ := Classical.choose_spec (hex ⟨k, hk⟩)
       rw [g1, g2]; rfl
   · refine ⟨by simpa using h.1, h.2.1, fun _ => ⟨b, off, hA, hb, fun k hk j u hu => ?_⟩⟩
     simp only [List.length_ofFn] at hk
     simp only [List.getElem_ofFn] at hu
     exact (Classical.choose_spec (hex ⟨k, hk⟩)).2.2 j u hu
 · have : l = [] := List.length_eq_zero_iff.1 (by omega)
   subst this
   exact ⟨[], rfl, by simp, h.2.1, fun h => absurd h (by simp)⟩
theorem rows_neN {W : World} {e1 e2 : TypeId} {z1 z2 n1 n2 b1 b2 : Nat} {v1 v2 : Value} {x1 x2 : List Value} (h1 : W.ownsRow b1 e1 z1 v1 n1 x1) (h2 : W.ownsRow b2 e2 z2 v2 n2 x2) (hne : e1 ≠ e2) {g : Nat} (hg : v1.ownBlock = some g) : v2.ownBlock ≠ some g := by
 rcases h1.2 with ⟨rfl, _⟩ | ⟨k, cap, cur, rfl, _, hk, _⟩
 · simp [Value.ownBlock] at hg
 · have e : k = g := by simpa [Value.ownBlock] using hg
   subst e
   exact own_blk_ne h2 (t := e1) (cs := cur) hk (Ne.symm hne)
theorem grown_str {B : Nat} {w w' : World} {A : Option Addr} {c : Nat} {xs ys : List ByteArray} {v : Value} (hown : w'.ownsRow 0 9 1 v (xs.length + ys.length) (xs.flatMap strC ++ ys.flatMap strC)) (hg : w.grownBy w' (Value.slice A xs.length c).ownBlock)
 (hat : v.ownBlock = (Value.slice A xs.length c).ownBlock ∨ v.ownBlock = some w.heap.size) (hA : AIn A (B ≤ ·)) (hB : B ≤ w.heap.size) :
 ∃ A' c', v = .slice A' (xs ++ ys).length c' ∧ w'.ownsRow 0 9 1 (.slice A' (xs ++ ys).length c') (xs ++ ys).length ((xs ++ ys).flatMap strC) ∧ AIn A' (B ≤ ·) ∧ Below B w w' ∧ Fr (fun k => (Value.slice A xs.length c).ownBlock = some k) w w' := by
 rw [← List.length_append, ← List.flatMap_append] at hown
 obtain ⟨A', c', rfl, _⟩ := own_form2 hown
 have hown2 : ∀ k, (Value.slice A xs.length c).ownBlock = some k → B ≤ k := fun k hk => by
  cases A with
  | none => cases hk
  | some a => simp only [Value.ownBlock, Option.some.injEq] at hk; rw [← hk]; exact hA a rfl
 refine ⟨A', c', rfl, hown, fun a ha => ?_, (Below.refl B w).grown hg hB hown2, (Fr.refl _ w).grown hg (fun k hk => .inl hk)⟩
 subst ha
 rcases hat with h | h
 · exact hown2 _ h.symm
 · simp only [Value.ownBlock, Option.some.injEq] at h
   omega
def RNSpec (n : Nat) : Prop := ∀ (c : CondT) (A1 : Option Addr) (a1 : Nat) (A2 : Option Addr) (a2 : Nat) (A3 : Option Addr) (a3 : Nat) (D : Nat → Prop) (X : World), SmC (n + 1) c → (namesN (n + 1) c).length ≤ 100000 → RowR repTestT D X A1 a1 c.attr → RowR repTestT D X A2 a2 c.value → RowR (repCondT n) D X A3 a3 c.conds →
    Calls Try.prog 24 #[.agg #[.int .i64 c.kind, .bool c.goal, .string c.id, .slice A1 c.attr.length a1, .slice A2 c.value.length a2, .bool c.acc, .slice A3 c.conds.length a3]] X (StrsTo X (namesN (n + 1) c))
structure RN (X : World) (c : CondT) (A1 : Option Addr) (a1 : Nat) (A2 : Option Addr) (a2 : Nat) (A3 : Option Addr) (a3 : Nat) (out : List ByteArray) (A : Option Addr) (cp : Nat) (w : World) : Prop where
 own : w.ownsRow 0 9 1 (.slice A out.length cp) out.length (out.flatMap strC)
 ain : AIn A (X.heap.size ≤ ·)
 blk : Blk w X.heap.size 60 #[.int .i64 c.kind, .bool c.goal, .string c.id, .slice A1 c.attr.length a1, .slice A2 c.value.length a2, .bool c.acc, .slice A3 c.conds.length a3]
 bel : Below X.heap.size X w
section
variable {X w w' : World} {c : CondT} {A1 A2 A3 A : Option Addr} {a1 a2 a3 cp : Nat} {out ys : List ByteArray}
theorem RN.new_ (h : RN X c A1 a1 A2 a2 A3 a3 out A cp w) (hb : Below w.heap.size w w') : RN X c A1 a1 A2 a2 A3 a3 out A cp w' := ⟨ownsRow_new h.own hb, h.ain, h.blk.new_ hb, h.bel.trans (hb.mono h.bel.size)⟩
theorem RN.app {v : Value} (h : RN X c A1 a1 A2 a2 A3 a3 out A cp w) (hown : w'.ownsRow 0 9 1 v (out.length + ys.length) (out.flatMap strC ++ ys.flatMap strC)) (hg : w.grownBy w' (Value.slice A out.length cp).ownBlock) (hat : v.ownBlock = (Value.slice A out.length cp).ownBlock ∨ v.ownBlock = some w.heap.size) :
 ∃ A' c', v = .slice A' (out ++ ys).length c' ∧ RN X c A1 a1 A2 a2 A3 a3 (out ++ ys) A' c' w' ∧ Fr (fun k => (Value.slice A out.length cp).ownBlock = some k) w w' := by
 obtain ⟨A', c', rfl, h1, h2, h3, h4⟩ := grown_str hown hg hat h.ain h.bel.size
 exact ⟨A', c', rfl, ⟨h1, h2, h.blk.fr h4 (fun e => own_blk_ne h.own h.blk (by decide) e), h.bel.trans h3⟩, h4⟩
end
set_option maxRecDepth 100000 in
set_option maxHeartbeats 16000000 in
theorem rnames_step (n : Nat) (ih : ∀ m, n = m + 1 → RNSpec m) : RNSpec n := by
 intro c A1 a1 A2 a2 A3 a3 D X hsm hlen h1 h2 h3
 obtain ⟨i0, hi0, hz0, hz1, hz2⟩ := info_parts info_Str
 obtain ⟨t0, ht0, hy0, hyy1, hyy2⟩ := infp inf_Test
 obtain ⟨xs1, hr1, hd1⟩ := raw_tests h1
 obtain ⟨xs2, hr2, hd2⟩ := raw_tests h2
 have hl1 : xs1.length = c.attr.length := hr1.len
 have hl2 : xs2.length = c.value.length := hr2.len
 obtain ⟨⟨hs1, _⟩, ⟨hs2, _⟩, _, hs4⟩ := hsm
 have IH := Lib.hid ih
 have HS4 := Lib.hid hs4
 have HLEN := Lib.hid hlen
 have H3 := Lib.hid h3
 have hac := h3.cap
 have HD1 := Lib.hid (show RowRd X 6 (fun v : V6 => v.1) A1 a1 xs1 from hd1)
 have HD2 := Lib.hid (show RowRd X 6 (fun v : V6 => v.1) A2 a2 xs2 from hd2)
 have HRW := Lib.hid (hr1.app hr2)
 have hlx1 : xs1.length ≤ 1000 := by omega
 have hlx2 : xs2.length ≤ 1000 := by omega
 have HL1 := Lib.hid hl1
 have HL2 := Lib.hid hl2
 clear ih hs4 hlen h1 h2 h3 hd1 hd2 hr1 hr2 hs1 hs2 hl1 hl2
 go_enter Try.func24, Try.ntmps24
 go_upto_region 1 with fail
 obtain ⟨W1, hW1⟩ : ∃ W1, W1 = X.alloc (.cells #[.int .i64 c.kind, .bool c.goal, .string c.id, .slice A1 c.attr.length a1, .slice A2 c.value.length a2, .bool c.acc, .slice A3 c.conds.length a3] 60) := ⟨_, rfl⟩
 have hb1 : Below X.heap.size X W1 := by rw [hW1]; exact (Below.refl _ _).alloc (Nat.le_refl _) _
 have HN1 := Lib.hid (show RN X c A1 a1 A2 a2 A3 a3 [] none 0 W1 from ⟨owns_nilC _ _ _, AIn.none_ _, by rw [hW1]; exact Blk.new _ _ _, hb1⟩)
 rw [← hW1]
 clear hW1 hb1
 have q2 := (HN1.out.blk.cell 2).trans rfl
 have qz := HN1.out.blk.lt
 by_cases hid : c.id.toList = []
 · have ia : (c.id.toList == []) = true := by simp [hid]
   have ib : c.id.toList.isEmpty = true := by simp [hid]
   have ic : decide (c.id.toList = []) = true := by simp [hid]
   have HOS := Lib.hid (show ([] : List ByteArray) = oneN c.id by rw [oneN_no hid])
   have HOSL := Lib.hid (show ([] : List ByteArray).length ≤ 1 by simp)
   have HNo := Lib.hid HN1.out
   clear hid
   go_upto_region 4 with fail
   clear q2 qz
   have q3 := (HNo.out.blk.cell 3).trans rfl
   have q4 := (HNo.out.blk.cell 4).trans rfl
   have qz := HNo.out.blk.lt
   refine wp_region_E (fun w9 => Below W1.heap.size W1 w9) [(0, 0), (1, 1), (3, 0), (4, 1), (2, 2), (5, 2), (6, 0)] (by kernel_rfl) (by kernel_rfl) (fun KK hKK => ?_)
   simp only [beside, List.filterMap_cons, List.filterMap_nil, List.getElem?_toArray, List.getElem?_cons_zero, List.getElem?_cons_succ, Option.map_some]
   repeat ((first | (refine wpX_w ?_ (Or.inl ⟨by rfl, fun w9 => ?_⟩) ?_; rotate_left 1; go_simp; with_reducible rfl) | (refine wpX_l ?_ (((Below.refl _ _).drew)) (Or.inl ⟨by rfl, fun w9 hw9 => ?_⟩) ?_; rotate_left 1; obtain ⟨hc9, hf9⟩ := bcell hw9; go_simp; with_reducible rfl) | refine wpX_w undef (Or.inr ⟨by rfl, rfl⟩) ?_ | refine wpX_l undef (((Below.refl _ _).drew)) (Or.inr ⟨by rfl, rfl⟩) ?_); go_frame)
   refine wpX_es (fun K9_ hK9_ => ?_)
   refine step_append_src _ rfl _ _ 57 rfl 114 t0 _ 6 80 Try.underlying57 ht0 hy0 hyy1 hyy2 rfl (by omega) (.slice none 0 0) 0 [] rfl (owns_nilC _ _ _) A1 c.attr.length a1 (xs1.flatMap (fun v : V6 => v.1)) rfl (by rw [← HL1.out]; exact flat_length v6_len xs1) (by rw [← HL1.out]; exact ((HD1.out.new_ HNo.out.bel).new_ ((Below.refl _ _).drew)).news v6_len (by omega)) (v6_one _) (by have := HL1.out; unfold maxLen; omega) (by have := HL1.out; omega) ?_
   intro vb w3 hown1 hg1 hnil1 hat1
   rw [Nat.zero_add, List.nil_append] at hown1
   obtain ⟨Ad, cd, rfl, _⟩ := own_form2 hown1
   have HB3 := Lib.hid (show Below W1.heap.size W1 w3 from ((Below.refl W1.heap.size W1).drew).trans ((Below.refl _ _).grown hg1 (Nat.le_refl _) (fun k hk => by cases hk)))
   have HO3 := Lib.hid hown1
   have HA3 := Lib.hid (show AIn Ad (W1.heap.size ≤ ·) from fun a ha => by
    subst ha
    rcases hat1 with h | h
    · cases h
    · simp only [Value.ownBlock, Option.some.injEq] at h
      exact Nat.le_of_eq h.symm)
   clear hown1 hg1 hnil1 hat1
   refine hK9_ _ _ HB3.out ?_
   clear hK9_ K9_
   refine wpX_es (fun K9_ hK9_ => ?_)
   refine step_append_src _ rfl _ _ 57 rfl 114 t0 _ 6 80 Try.underlying57 ht0 hy0 hyy1 hyy2 rfl (by omega) (.slice Ad c.attr.length cd) c.attr.length (xs1.flatMap (fun v : V6 => v.1)) rfl HO3.out A2 c.value.length a2 (xs2.flatMap (fun v : V6 => v.1)) rfl (by rw [← HL2.out]; exact flat_length v6_len xs2) (by rw [← HL2.out]; exact ((HD2.out.new_ HNo.out.bel).new_ HB3.out).news v6_len (by omega)) (v6_one _) (by have := HL1.out; have := HL2.out; unfold maxLen; omega) (by have := HL1.out; have := HL2.out; omega) ?_
   intro vb w4 hown1 hg1 hnil1 hat1
   rw [← List.flatMap_append] at hown1
   obtain ⟨Al, cl, rfl, _⟩ := own_form2 hown1
   have HB4 := Lib.hid (show Below W1.heap.size W1 w4 from HB3.out.grown hg1 HB3.out.size (fun k hk => by
    cases Ad with
    | none => cases hk
    | some a => simp only [Value.ownBlock, Option.some.injEq] at hk; rw [← hk]; exact HA3.out a rfl))
   have HO4 := Lib.hid hown1
   clear hown1 hg1 hnil1 hat1 HO3 HA3 HB3
   obtain ⟨tl, htl⟩ : ∃ tl, tl = c.attr ++ c.value := ⟨_, rfl⟩
   have htll : c.attr.length + c.value.length = tl.length := by rw [htl, List.length_append]
   rw [htll] at HO4 ⊢
   have HTL := Lib.hid htl
   clear htl htll
   refine hK9_ _ _ HB4.out ?_
   clear hK9_ K9_
   repeat ((first | (refine wpX_w ?_ (Or.inl ⟨by rfl, fun w9 => ?_⟩) ?_; rotate_left 1; go_simp; with_reducible rfl) | (refine wpX_l ?_ (HB3.out) (Or.inl ⟨by rfl, fun w9 hw9 => ?_⟩) ?_; rotate_left 1; obtain ⟨hc9, hf9⟩ := bcell hw9; go_simp; with_reducible rfl) | refine wpX_w undef (Or.inr ⟨by rfl, rfl⟩) ?_ | refine wpX_l undef (HB3.out) (Or.inr ⟨by rfl, rfl⟩) ?_); go_frame)
   refine wpX_nil ?_
   simp only [OnlyN_normal]
   refine hKK _ _ ?_
   clear hKK KK
   obtain ⟨xs, hxs⟩ : ∃ xs, xs = xs1 ++ xs2 := ⟨_, rfl⟩
   rw [← hxs] at HO4 HRW
   rw [← HTL.out] at HRW
   have HN4 := Lib.hid (HNo.out.new_ HB4.out)
   have htc : tl.length ≤ 2000 := by rw [HTL.out, List.length_append]; have := HL1.out; have := HL2.out; omega
   have HXL := Lib.hid (show xs.length = tl.length from HRW.out.len)
   clear q3 q4 qz HNo hxs
   go_wp2_with fail
   go_loopw [3, 5] (fun v s wr => ∃ (i : Nat) (out : List ByteArray) (A : Option Addr) (cp : Nat), s = .int .i64 i ∧ v = .slice A out.length cp ∧ i ≤ tl.length ∧ out = ([] : List ByteArray) ++ varsT (tl.take i) ∧ RN X c A1 a1 A2 a2 A3 a3 out A cp wr ∧ wr.ownsRow 0 114 6 (.slice Al tl.length cl) tl.length (xs.flatMap (fun v : V6 => v.1))) (fun v s wr => tl.length - (intOf s).toNat)
   case atStart => exact ⟨0, ([] : List ByteArray), none, 0, rfl, rfl, Nat.zero_le _, by simp [varsT], HN4.out, HO4.out⟩
   case round =>
    obtain ⟨i, out, A, cp, rfl, rfl, hi, hout, hn, ho⟩ := hrel
    have HNR := Lib.hid hn
    have HOR := Lib.hid ho
    have HOUT := Lib.hid hout
    clear hn ho hout HN4 HO4
    by_cases hlt : i < tl.length
    · obtain ⟨y, hy⟩ : ∃ y, y = tl[i] := ⟨_, rfl⟩
      have hxi : i < xs.length := by rw [HXL.out]; exact hlt
      have hrd : RowRd wr 6 (fun v : V6 => v.1) Al cl xs := by
       have h := HOR.out
       rw [← HXL.out] at h
       exact ownsRow_rd v6_len h
      obtain ⟨g, off, hA0, hg, hcel⟩ := hrd.at_ hxi
      have q1 : wr.cell? ⟨g, off + i * 6 + 1, none⟩ = some (.string y.var) := hcel 1 _ (by rw [(HRW.out.get hlt hxi).2, hy])
      subst hA0
      have HVT := Lib.hid (show varsT (tl.take (i + 1)) = varsT (tl.take i) ++ oneN y.var by unfold varsT; rw [← take_snoc hlt, List.flatMap_append, hy]; simp)
      have hol : out.length ≤ 100000 := by
       have h1 := varsT_len (tl.take i)
       have h2 := HOSL.out
       rw [HOUT.out, List.length_append]
       have h3 : (tl.take i).length ≤ tl.length := Nat.le_trans (List.length_take_le _ _) hi
       omega
      have j1 : (0 : Int) ≤ (i : Int) := by omega
      have j2 : (i : Int) < (tl.length : Int) := by omega
      clear hy hrd hcel
      by_cases hve : y.var.toList = []
      · have va : (y.var.toList == []) = true := by simp [hve]
        have vb : y.var.toList.isEmpty = true := by simp [hve]
        have vc : decide (y.var.toList = []) = true := by simp [hve]
        have HON := Lib.hid (show out = ([] : List ByteArray) ++ varsT (tl.take (i + 1)) by rw [HVT.out, oneN_no hve, List.append_nil]; exact HOUT.out)
        clear hve
        go_wp2_with fail
        go_roundw
        case rel => exact ⟨i + 1, out, A, cp, by go_num, rfl, by omega, HON.out, HNR.out, HOR.out⟩
        case measure => simp [intOf] <;> omega
      · have va : (y.var.toList == []) = false := by simp [hve]
        have vb : y.var.toList.isEmpty = false := by simp [hve]
        have vc : decide (y.var.toList = []) = false := by simp [hve]
        have HON := Lib.hid (show out ++ [y.var] = ([] : List ByteArray) ++ varsT (tl.take (i + 1)) by rw [HVT.out, oneN_yes hve, HOUT.out]; simp)
        clear hve
        obtain ⟨Y9, hY9⟩ : ∃ Y9, Y9 = wr.alloc (.cells #[.string y.var] 9) := ⟨_, rfl⟩
        have hb9 : Below wr.heap.size wr Y9 := by rw [hY9]; exact (Below.refl _ _).alloc (Nat.le_refl _) _
        have HY9 := Lib.hid hY9
        have HN9 := Lib.hid (HNR.out.new_ hb9)
        have HO9 := Lib.hid (ownsRow_new HOR.out hb9)
        have HW9 := Lib.hid (show 0 < 1 → ∃ ad, (some (⟨wr.heap.size, 0, none⟩ : Addr)) = some ad ∧ ∀ j u, ([y.var].flatMap strC)[j]? = some u → Y9.cell? (ad.add j) = some u from fun _ => ⟨_, rfl, by rw [hY9]; exact World.news_of_block (heap_alloc_new _ _)⟩)
        clear hY9 hb9
        go_wp2_with (at_builtin; rw [← HY9.out]; refine wpList_append_src Y9 rfl (.tmp 33) (.tmp 39) 63 rfl 9 i0 _ 1 16 Try.underlying63 hi0 hz0 hz1 hz2 rfl (by decide) (.slice A out.length cp) out.length (out.flatMap strC) rfl HN9.out.own (some ⟨wr.heap.size, 0, none⟩) 1 1 ([y.var].flatMap strC) rfl rfl HW9.out (str_one _) (by unfold maxLen; omega) (by omega) ?_; intro v1 w9 hown1 hg1 hnil1 hat1; obtain ⟨A9, c9, rfl, hn9, hf9⟩ := HN9.out.app (ys := [y.var]) hown1 hg1 hat1; have HN10 := Lib.hid hn9; have HO10 := Lib.hid (ownsRow_fr HO9.out hf9 (fun g hg e => rows_neN HO9.out HN9.out.own (by decide) hg e)); clear hown1 hg1 hnil1 hat1 hn9 hf9)
        go_roundw
        case rel => exact ⟨i + 1, out ++ [y.var], A9, c9, by go_num, by simp, by omega, HON.out, HN10.out, HO10.out⟩
        case measure => simp [intOf] <;> omega
    · obtain rfl : i = tl.length := by omega
      have HOC := Lib.hid (show out = ([] : List ByteArray) ++ (varsT c.attr ++ varsT c.value) ++ ((c.conds.take 0).flatMap (namesN n)) by rw [HOUT.out, List.take_length, HTL.out]; simp [varsT])
      clear HOUT
      go_wp2_with fail
      go_loopw [3, 6] (fun v s wr => ∃ (i : Nat) (out : List ByteArray) (A : Option Addr) (cp : Nat), s = .int .i64 i ∧ v = .slice A out.length cp ∧ i ≤ c.conds.length ∧ out = ([] : List ByteArray) ++ (varsT c.attr ++ varsT c.value) ++ ((c.conds.take i).flatMap (namesN n)) ∧ RN X c A1 a1 A2 a2 A3 a3 out A cp wr) (fun v s wr => c.conds.length - (intOf s).toNat)
      case atStart => exact ⟨0, out, A, cp, rfl, rfl, Nat.zero_le _, HOC.out, HNR.out⟩
      case round =>
       clear HOC HNR HOR
       obtain ⟨i, out, A, cp, rfl, rfl, hi, hout, hn⟩ := hrel
       have HNR := Lib.hid hn
       have HOUT := Lib.hid hout
       have q6 := (hn.blk.cell 6).trans rfl
       have qz := hn.blk.lt
       clear hn hout
       by_cases hlt : i < c.conds.length
       · obtain ⟨m, hnm⟩ : ∃ m, n = m + 1 := by
          cases n with
          | zero => have := row_zero H3.out; rw [this] at hlt; simp at hlt
          | succ m => exact ⟨m, rfl⟩
         subst hnm
         obtain ⟨y, hy⟩ : ∃ y, y = c.conds[i] := ⟨_, rfl⟩
         have hcr := H3.out.new_ HNR.out.bel
         obtain ⟨gt, ot, B1, b1_, B2, b2_, B3, b3_, hA, _, hgt, p0, p1, p2, p3, p4, p5, p6, r1, r2, r3⟩ := at_CondT hcr hlt
         subst hA
         rw [← hy] at p0 p1 p2 p3 p4 p5 p6 r1 r2 r3
         have htk : (c.conds.take (i + 1)).flatMap (namesN (m + 1)) = (c.conds.take i).flatMap (namesN (m + 1)) ++ namesN (m + 1) y := by rw [← take_snoc hlt, List.flatMap_append, hy]; simp
         have htot : (out ++ namesN (m + 1) y).length ≤ (namesN (m + 1 + 1) c).length := by
          have e : namesN (m + 1 + 1) c = out ++ namesN (m + 1) y ++ (c.conds.drop (i + 1)).flatMap (namesN (m + 1)) := by
           rw [HOUT.out, List.append_assoc, List.append_assoc, ← List.append_assoc ((c.conds.take i).flatMap _), ← htk, ← List.flatMap_append, List.take_append_drop, namesN, ← HOS.out]
           simp
          rw [e]; simp only [List.length_append]; omega
         rw [List.length_append] at htot
         have hl9 := HLEN.out
         have hcall := IH.out m rfl y B1 b1_ B2 b2_ B3 b3_ D wr (HS4.out y (by rw [hy]; exact List.getElem_mem hlt)) (by omega) r1 r2 r3
         obtain ⟨ns, hns⟩ : ∃ ns, ns = namesN (m + 1) y := ⟨_, rfl⟩
         rw [← hns] at hcall htk htot
         have HCALL := Lib.hid hcall
         have HTK := Lib.hid htk
         have ho1 : out.length ≤ 100000 := by omega
         have ho2 : ns.length ≤ 100000 := by omega
         have j1 : (0 : Int) ≤ (i : Int) := by omega
         have j2 : (i : Int) < (c.conds.length : Int) := by omega
         clear hy hcr r1 r2 r3 htk htot hcall hns hl9
         go_wp2_with fail
         refine HCALL.out.mono ?_
         rintro e w8 ⟨A8, c8, rfl, ho8, hA8, hb8⟩
         have HO8 := Lib.hid (show RowRd w8 1 strC A8 c8 ns from ownsRow_rd strC_len ho8)
         have HN8 := Lib.hid (HNR.out.new_ hb8)
         clear ho8 hA8 hb8 p0 p1 p2 p3 p4 p5 p6 q6 qz
         go_wp2_with (at_builtin; refine wpList_append_src w8 rfl (.tmp 48) (.tmp 54) 63 rfl 9 i0 _ 1 16 Try.underlying63 hi0 hz0 hz1 hz2 rfl (by decide) (.slice A out.length cp) out.length (out.flatMap strC) rfl HN8.out.own A8 ns.length c8 (ns.flatMap strC) rfl (flat_length strC_len _) (HO8.out.news strC_len (by decide)) (str_one _) (by unfold maxLen; omega) (by omega) ?_; intro v1 w9 hown1 hg1 hnil1 hat1; obtain ⟨A9, c9, rfl, hn9, hf9⟩ := HN8.out.app hown1 hg1 hat1; have HN10 := Lib.hid hn9; clear hown1 hg1 hnil1 hat1 hn9 hf9)
         go_roundw
         case rel => exact ⟨i + 1, out ++ ns, A9, c9, by go_num, by simp, by omega, by rw [HTK.out, HOUT.out]; simp, HN10.out⟩
         case measure => simp [intOf] <;> omega
       · obtain rfl : i = c.conds.length := by omega
         have HEN := Lib.hid (show namesN (n + 1) c = out by rw [HOUT.out, List.take_length, namesN, ← HOS.out]; simp)
         go_wp2_with fail
         go_ret
         rw [HEN.out]
         exact ⟨A, cp, rfl, HNR.out.own, HNR.out.ain, HNR.out.bel⟩
 · have ia : (c.id.toList == []) = false := by simp [hid]
   have ib : c.id.toList.isEmpty = false := by simp [hid]
   have ic : decide (c.id.toList = []) = false := by simp [hid]
   have HOS := Lib.hid (show [c.id] = oneN c.id by rw [oneN_yes hid])
   have HOSL := Lib.hid (show [c.id].length ≤ 1 by simp)
   clear hid
   obtain ⟨Y9, hY9⟩ : ∃ Y9, Y9 = W1.alloc (.cells #[.string c.id] 9) := ⟨_, rfl⟩
   have hb9 : Below W1.heap.size W1 Y9 := by rw [hY9]; exact (Below.refl _ _).alloc (Nat.le_refl _) _
   have HY9 := Lib.hid hY9
   have HN9 := Lib.hid (HN1.out.new_ hb9)
   have HW9 := Lib.hid (show 0 < 1 → ∃ ad, (some (⟨W1.heap.size, 0, none⟩ : Addr)) = some ad ∧ ∀ j u, ([c.id].flatMap strC)[j]? = some u → Y9.cell? (ad.add j) = some u from fun _ => ⟨_, rfl, by rw [hY9]; exact World.news_of_block (heap_alloc_new _ _)⟩)
   clear hY9 hb9
   go_upto_region 4 with (at_builtin; rw [← HY9.out]; refine wpList_append_src Y9 rfl (.tmp 10) (.tmp 13) 63 rfl 9 i0 _ 1 16 Try.underlying63 hi0 hz0 hz1 hz2 rfl (by decide) (.slice none 0 0) ([] : List ByteArray).length (([] : List ByteArray).flatMap strC) rfl HN9.out.own (some ⟨W1.heap.size, 0, none⟩) 1 1 ([c.id].flatMap strC) rfl rfl HW9.out (str_one _) (by simp [maxLen]) (by simp) ?_; intro v1 wN hown1 hg1 hnil1 hat1; obtain ⟨Ao, co, rfl, hn9, _⟩ := HN9.out.app (ys := [c.id]) hown1 hg1 hat1; have HNo := Lib.hid (show RN X c A1 a1 A2 a2 A3 a3 [c.id] Ao co wN from hn9); clear hown1 hg1 hnil1 hat1 hn9)
   clear q2 qz
   have q3 := (HNo.out.blk.cell 3).trans rfl
   have q4 := (HNo.out.blk.cell 4).trans rfl
   have qz := HNo.out.blk.lt
   refine wp_region_E (fun w9 => Below wN.heap.size wN w9) [(0, 0), (1, 1), (3, 0), (4, 1), (2, 2), (5, 2), (6, 0)] (by kernel_rfl) (by kernel_rfl) (fun KK hKK => ?_)
   simp only [beside, List.filterMap_cons, List.filterMap_nil, List.getElem?_toArray, List.getElem?_cons_zero, List.getElem?_cons_succ, Option.map_some]
   repeat ((first | (refine wpX_w ?_ (Or.inl ⟨by rfl, fun w9 => ?_⟩) ?_; rotate_left 1; go_simp; with_reducible rfl) | (refine wpX_l ?_ (((Below.refl _ _).drew)) (Or.inl ⟨by rfl, fun w9 hw9 => ?_⟩) ?_; rotate_left 1; obtain ⟨hc9, hf9⟩ := bcell hw9; go_simp; with_reducible rfl) | refine wpX_w undef (Or.inr ⟨by rfl, rfl⟩) ?_ | refine wpX_l undef (((Below.refl _ _).drew)) (Or.inr ⟨by rfl, rfl⟩) ?_); go_frame)
   refine wpX_es (fun K9_ hK9_ => ?_)
   refine step_append_src _ rfl _ _ 57 rfl 114 t0 _ 6 80 Try.underlying57 ht0 hy0 hyy1 hyy2 rfl (by omega) (.slice none 0 0) 0 [] rfl (owns_nilC _ _ _) A1 c.attr.length a1 (xs1.flatMap (fun v : V6 => v.1)) rfl (by rw [← HL1.out]; exact flat_length v6_len xs1) (by rw [← HL1.out]; exact ((HD1.out.new_ HNo.out.bel).new_ ((Below.refl _ _).drew)).news v6_len (by omega)) (v6_one _) (by have := HL1.out; unfold maxLen; omega) (by have := HL1.out; omega) ?_
   intro vb w3 hown1 hg1 hnil1 hat1
   rw [Nat.zero_add, List.nil_append] at hown1
   obtain ⟨Ad, cd, rfl, _⟩ := own_form2 hown1
   have HB3 := Lib.hid (show Below wN.heap.size wN w3 from ((Below.refl wN.heap.size wN).drew).trans ((Below.refl _ _).grown hg1 (Nat.le_refl _) (fun k hk => by cases hk)))
   have HO3 := Lib.hid hown1
   have HA3 := Lib.hid (show AIn Ad (wN.heap.size ≤ ·) from fun a ha => by
    subst ha
    rcases hat1 with h | h
    · cases h
    · simp only [Value.ownBlock, Option.some.injEq] at h
      exact Nat.le_of_eq h.symm)
   clear hown1 hg1 hnil1 hat1
   refine hK9_ _ _ HB3.out ?_
   clear hK9_ K9_
   refine wpX_es (fun K9_ hK9_ => ?_)
   refine step_append_src _ rfl _ _ 57 rfl 114 t0 _ 6 80 Try.underlying57 ht0 hy0 hyy1 hyy2 rfl (by omega) (.slice Ad c.attr.length cd) c.attr.length (xs1.flatMap (fun v : V6 => v.1)) rfl HO3.out A2 c.value.length a2 (xs2.flatMap (fun v : V6 => v.1)) rfl (by rw [← HL2.out]; exact flat_length v6_len xs2) (by rw [← HL2.out]; exact ((HD2.out.new_ HNo.out.bel).new_ HB3.out).news v6_len (by omega)) (v6_one _) (by have := HL1.out; have := HL2.out; unfold maxLen; omega) (by have := HL1.out; have := HL2.out; omega) ?_
   intro vb w4 hown1 hg1 hnil1 hat1
   rw [← List.flatMap_append] at hown1
   obtain ⟨Al, cl, rfl, _⟩ := own_form2 hown1
   have HB4 := Lib.hid (show Below wN.heap.size wN w4 from HB3.out.grown hg1 HB3.out.size (fun k hk => by
    cases Ad with
    | none => cases hk
    | some a => simp only [Value.ownBlock, Option.some.injEq] at hk; rw [← hk]; exact HA3.out a rfl))
   have HO4 := Lib.hid hown1
   clear hown1 hg1 hnil1 hat1 HO3 HA3 HB3
   obtain ⟨tl, htl⟩ : ∃ tl, tl = c.attr ++ c.value := ⟨_, rfl⟩
   have htll : c.attr.length + c.value.length = tl.length := by rw [htl, List.length_append]
   rw [htll] at HO4 ⊢
   have HTL := Lib.hid htl
   clear htl htll
   refine hK9_ _ _ HB4.out ?_
   clear hK9_ K9_
   repeat ((first | (refine wpX_w ?_ (Or.inl ⟨by rfl, fun w9 => ?_⟩) ?_; rotate_left 1; go_simp; with_reducible rfl) | (refine wpX_l ?_ (HB3.out) (Or.inl ⟨by rfl, fun w9 hw9 => ?_⟩) ?_; rotate_left 1; obtain ⟨hc9, hf9⟩ := bcell hw9; go_simp; with_reducible rfl) | refine wpX_w undef (Or.inr ⟨by rfl, rfl⟩) ?_ | refine wpX_l undef (HB3.out) (Or.inr ⟨by rfl, rfl⟩) ?_); go_frame)
   refine wpX_nil ?_
   simp only [OnlyN_normal]
   refine hKK _ _ ?_
   clear hKK KK
   obtain ⟨xs, hxs⟩ : ∃ xs, xs = xs1 ++ xs2 := ⟨_, rfl⟩
   rw [← hxs] at HO4 HRW
   rw [← HTL.out] at HRW
   have HN4 := Lib.hid (HNo.out.new_ HB4.out)
   have htc : tl.length ≤ 2000 := by rw [HTL.out, List.length_append]; have := HL1.out; have := HL2.out; omega
   have HXL := Lib.hid (show xs.length = tl.length from HRW.out.len)
   clear q3 q4 qz HNo hxs
   go_wp2_with fail
   go_loopw [3, 5] (fun v s wr => ∃ (i : Nat) (out : List ByteArray) (A : Option Addr) (cp : Nat), s = .int .i64 i ∧ v = .slice A out.length cp ∧ i ≤ tl.length ∧ out = [c.id] ++ varsT (tl.take i) ∧ RN X c A1 a1 A2 a2 A3 a3 out A cp wr ∧ wr.ownsRow 0 114 6 (.slice Al tl.length cl) tl.length (xs.flatMap (fun v : V6 => v.1))) (fun v s wr => tl.length - (intOf s).toNat)
   case atStart => exact ⟨0, [c.id], Ao, co, rfl, rfl, Nat.zero_le _, by simp [varsT], HN4.out, HO4.out⟩
   case round =>
    obtain ⟨i, out, A, cp, rfl, rfl, hi, hout, hn, ho⟩ := hrel
    have HNR := Lib.hid hn
    have HOR := Lib.hid ho
    have HOUT := Lib.hid hout
    clear hn ho hout HN4 HO4
    by_cases hlt : i < tl.length
    · obtain ⟨y, hy⟩ : ∃ y, y = tl[i] := ⟨_, rfl⟩
      have hxi : i < xs.length := by rw [HXL.out]; exact hlt
      have hrd : RowRd wr 6 (fun v : V6 => v.1) Al cl xs := by
       have h := HOR.out
       rw [← HXL.out] at h
       exact ownsRow_rd v6_len h
      obtain ⟨g, off, hA0, hg, hcel⟩ := hrd.at_ hxi
      have q1 : wr.cell? ⟨g, off + i * 6 + 1, none⟩ = some (.string y.var) := hcel 1 _ (by rw [(HRW.out.get hlt hxi).2, hy])
      subst hA0
      have HVT := Lib.hid (show varsT (tl.take (i + 1)) = varsT (tl.take i) ++ oneN y.var by unfold varsT; rw [← take_snoc hlt, List.flatMap_append, hy]; simp)
      have hol : out.length ≤ 100000 := by
       have h1 := varsT_len (tl.take i)
       have h2 := HOSL.out
       rw [HOUT.out, List.length_append]
       have h3 : (tl.take i).length ≤ tl.length := Nat.le_trans (List.length_take_le _ _) hi
       omega
      have j1 : (0 : Int) ≤ (i : Int) := by omega
      have j2 : (i : Int) < (tl.length : Int) := by omega
      clear hy hrd hcel
      by_cases hve : y.var.toList = []
      · have va : (y.var.toList == []) = true := by simp [hve]
        have vb : y.var.toList.isEmpty = true := by simp [hve]
        have vc : decide (y.var.toList = []) = true := by simp [hve]
        have HON := Lib.hid (show out = [c.id] ++ varsT (tl.take (i + 1)) by rw [HVT.out, oneN_no hve, List.append_nil]; exact HOUT.out)
        clear hve
        go_wp2_with fail
        go_roundw
        case rel => exact ⟨i + 1, out, A, cp, by go_num, rfl, by omega, HON.out, HNR.out, HOR.out⟩
        case measure => simp [intOf] <;> omega
      · have va : (y.var.toList == []) = false := by simp [hve]
        have vb : y.var.toList.isEmpty = false := by simp [hve]
        have vc : decide (y.var.toList = []) = false := by simp [hve]
        have HON := Lib.hid (show out ++ [y.var] = [c.id] ++ varsT (tl.take (i + 1)) by rw [HVT.out, oneN_yes hve, HOUT.out]; simp)
        clear hve
        obtain ⟨Y9, hY9⟩ : ∃ Y9, Y9 = wr.alloc (.cells #[.string y.var] 9) := ⟨_, rfl⟩
        have hb9 : Below wr.heap.size wr Y9 := by rw [hY9]; exact (Below.refl _ _).alloc (Nat.le_refl _) _
        have HY9 := Lib.hid hY9
        have HN9 := Lib.hid (HNR.out.new_ hb9)
        have HO9 := Lib.hid (ownsRow_new HOR.out hb9)
        have HW9 := Lib.hid (show 0 < 1 → ∃ ad, (some (⟨wr.heap.size, 0, none⟩ : Addr)) = some ad ∧ ∀ j u, ([y.var].flatMap strC)[j]? = some u → Y9.cell? (ad.add j) = some u from fun _ => ⟨_, rfl, by rw [hY9]; exact World.news_of_block (heap_alloc_new _ _)⟩)
        clear hY9 hb9
        go_wp2_with (at_builtin; rw [← HY9.out]; refine wpList_append_src Y9 rfl (.tmp 33) (.tmp 39) 63 rfl 9 i0 _ 1 16 Try.underlying63 hi0 hz0 hz1 hz2 rfl (by decide) (.slice A out.length cp) out.length (out.flatMap strC) rfl HN9.out.own (some ⟨wr.heap.size, 0, none⟩) 1 1 ([y.var].flatMap strC) rfl rfl HW9.out (str_one _) (by unfold maxLen; omega) (by omega) ?_; intro v1 w9 hown1 hg1 hnil1 hat1; obtain ⟨A9, c9, rfl, hn9, hf9⟩ := HN9.out.app (ys := [y.var]) hown1 hg1 hat1; have HN10 := Lib.hid hn9; have HO10 := Lib.hid (ownsRow_fr HO9.out hf9 (fun g hg e => rows_neN HO9.out HN9.out.own (by decide) hg e)); clear hown1 hg1 hnil1 hat1 hn9 hf9)
        go_roundw
        case rel => exact ⟨i + 1, out ++ [y.var], A9, c9, by go_num, by simp, by omega, HON.out, HN10.out, HO10.out⟩
        case measure => simp [intOf] <;> omega
    · obtain rfl : i = tl.length := by omega
      have HOC := Lib.hid (show out = [c.id] ++ (varsT c.attr ++ varsT c.value) ++ ((c.conds.take 0).flatMap (namesN n)) by rw [HOUT.out, List.take_length, HTL.out]; simp [varsT])
      clear HOUT
      go_wp2_with fail
      go_loopw [3, 6] (fun v s wr => ∃ (i : Nat) (out : List ByteArray) (A : Option Addr) (cp : Nat), s = .int .i64 i ∧ v = .slice A out.length cp ∧ i ≤ c.conds.length ∧ out = [c.id] ++ (varsT c.attr ++ varsT c.value) ++ ((c.conds.take i).flatMap (namesN n)) ∧ RN X c A1 a1 A2 a2 A3 a3 out A cp wr) (fun v s wr => c.conds.length - (intOf s).toNat)
      case atStart => exact ⟨0, out, A, cp, rfl, rfl, Nat.zero_le _, HOC.out, HNR.out⟩
      case round =>
       clear HOC HNR HOR
       obtain ⟨i, out, A, cp, rfl, rfl, hi, hout, hn⟩ := hrel
       have HNR := Lib.hid hn
       have HOUT := Lib.hid hout
       have q6 := (hn.blk.cell 6).trans rfl
       have qz := hn.blk.lt
       clear hn hout
       by_cases hlt : i < c.conds.length
       · obtain ⟨m, hnm⟩ : ∃ m, n = m + 1 := by
          cases n with
          | zero => have := row_zero H3.out; rw [this] at hlt; simp at hlt
          | succ m => exact ⟨m, rfl⟩
         subst hnm
         obtain ⟨y, hy⟩ : ∃ y, y = c.conds[i] := ⟨_, rfl⟩
         have hcr := H3.out.new_ HNR.out.bel
         obtain ⟨gt, ot, B1, b1_, B2, b2_, B3, b3_, hA, _, hgt, p0, p1, p2, p3, p4, p5, p6, r1, r2, r3⟩ := at_CondT hcr hlt
         subst hA
         rw [← hy] at p0 p1 p2 p3 p4 p5 p6 r1 r2 r3
         have htk : (c.conds.take (i + 1)).flatMap (namesN (m + 1)) = (c.conds.take i).flatMap (namesN (m + 1)) ++ namesN (m + 1) y := by rw [← take_snoc hlt, List.flatMap_append, hy]; simp
         have htot : (out ++ namesN (m + 1) y).length ≤ (namesN (m + 1 + 1) c).length := by
          have e : namesN (m + 1 + 1) c = out ++ namesN (m + 1) y ++ (c.conds.drop (i + 1)).flatMap (namesN (m + 1)) := by
           rw [HOUT.out, List.append_assoc, List.append_assoc, ← List.append_assoc ((c.conds.take i).flatMap _), ← htk, ← List.flatMap_append, List.take_append_drop, namesN, ← HOS.out]
           simp
          rw [e]; simp only [List.length_append]; omega
         rw [List.length_append] at htot
         have hl9 := HLEN.out
         have hcall := IH.out m rfl y B1 b1_ B2 b2_ B3 b3_ D wr (HS4.out y (by rw [hy]; exact List.getElem_mem hlt)) (by omega) r1 r2 r3
         obtain ⟨ns, hns⟩ : ∃ ns, ns = namesN (m + 1) y := ⟨_, rfl⟩
         rw [← hns] at hcall htk htot
         have HCALL := Lib.hid hcall
         have HTK := Lib.hid htk
         have ho1 : out.length ≤ 100000 := by omega
         have ho2 : ns.length ≤ 100000 := by omega
         have j1 : (0 : Int) ≤ (i : Int) := by omega
         have j2 : (i : Int) < (c.conds.length : Int) := by omega
         clear hy hcr r1 r2 r3 htk htot hcall hns hl9
         go_wp2_with fail
         refine HCALL.out.mono ?_
         rintro e w8 ⟨A8, c8, rfl, ho8, hA8, hb8⟩
         have HO8 := Lib.hid (show RowRd w8 1 strC A8 c8 ns from ownsRow_rd strC_len ho8)
         have HN8 := Lib.hid (HNR.out.new_ hb8)
         clear ho8 hA8 hb8 p0 p1 p2 p3 p4 p5 p6 q6 qz
         go_wp2_with (at_builtin; refine wpList_append_src w8 rfl (.tmp 48) (.tmp 54) 63 rfl 9 i0 _ 1 16 Try.underlying63 hi0 hz0 hz1 hz2 rfl (by decide) (.slice A out.length cp) out.length (out.flatMap strC) rfl HN8.out.own A8 ns.length c8 (ns.flatMap strC) rfl (flat_length strC_len _) (HO8.out.news strC_len (by decide)) (str_one _) (by unfold maxLen; omega) (by omega) ?_; intro v1 w9 hown1 hg1 hnil1 hat1; obtain ⟨A9, c9, rfl, hn9, hf9⟩ := HN8.out.app hown1 hg1 hat1; have HN10 := Lib.hid hn9; clear hown1 hg1 hnil1 hat1 hn9 hf9)
         go_roundw
         case rel => exact ⟨i + 1, out ++ ns, A9, c9, by go_num, by simp, by omega, by rw [HTK.out, HOUT.out]; simp, HN10.out⟩
         case measure => simp [intOf] <;> omega
       · obtain rfl : i = c.conds.length := by omega
         have HEN := Lib.hid (show namesN (n + 1) c = out by rw [HOUT.out, List.take_length, namesN, ← HOS.out]; simp)
         go_wp2_with fail
         go_ret
         rw [HEN.out]
         exact ⟨A, cp, rfl, HNR.out.own, HNR.out.ain, HNR.out.bel⟩
end Go.Proofs.Ytnfgilbaglfkeaa
namespace Go.Proofs.Ytnfgilbaglfkeaa
open Go.RowKit Go.Shelf
attribute [local go_sem] Oper.semAt_some
def restN (c : CondT) : Nat → List ByteArray
 | 0 => varsT c.attr ++ varsT c.value
 | 1 => varsT c.value
 | _ => []
def NamesPost (xs : List ByteArray) (J Jx : (Nat → Prop) → List ByteArray → World → Prop) (D E : Nat → Prop) (W X : World) (pre : List ByteArray) (e : Ending) (X' : World) : Prop :=
 (e = .returned (.bool true) ∧ (∃ E', (∀ k, E k → E' k) ∧ ItSt J D E' W pre X') ∧ Fr (fun k => ¬ (D k ∨ E k)) X X') ∨ (e = .returned (.bool false) ∧ ToldO xs J Jx X')
def NamesSpec (n lo : Nat) (xs : List ByteArray) (J Jx : (Nat → Prop) → List ByteArray → World → Prop) (D : Nat → Prop) (W : World) : Prop :=
 ∀ (c : CondT) (A1 : Option Addr) (a1 : Nat) (A2 : Option Addr) (a2 : Nat) (A3 : Option Addr) (a3 : Nat) (E : Nat → Prop) (pre post : List ByteArray) (X : World), xs = pre ++ (namesN (n + 1) c ++ post) → RowR repTestT D X A1 a1 c.attr → RowR repTestT D X A2 a2 c.value → RowR (repCondT n) D X A3 a3 c.conds → ItSt J D E W pre X →
   CallsIn Fence.wide 0 Try.prog 56 #[.agg #[.int .i64 c.kind, .bool c.goal, .string c.id, .slice A1 c.attr.length a1, .slice A2 c.value.length a2, .bool c.acc, .slice A3 c.conds.length a3], .func (.yield lo) #[] #[]] X (NamesPost xs J Jx D E W X (pre ++ namesN (n + 1) c))
set_option maxRecDepth 100000 in
set_option maxHeartbeats 16000000 in
theorem names_step (n lo : Nat) (xs : List ByteArray) (J Jx : (Nat → Prop) → List ByteArray → World → Prop) (D : Nat → Prop) (W : World) (hJ : Steady W.heap.size J) (hY : RoundsO Try.prog lo encStr xs J Jx)
 (ih : ∀ m, n = m + 1 → NamesSpec m lo xs J Jx D W) : NamesSpec n lo xs J Jx D W := by
 intro c A1 a1 A2 a2 A3 a3 E pre post X hx h1 h2 h3 hit
 have HJ := Lib.hid hJ
 have HY := Lib.hid hY
 have IH := Lib.hid ih
 have H1 := Lib.hid h1
 have H2 := Lib.hid h2
 have H3 := Lib.hid h3
 have hac := h3.cap
 have HX := Lib.hid hx
 have HXX := Lib.hid hx
 have HI := Lib.hid hit
 obtain ⟨rc, hrc⟩ : ∃ rc, rc = c.conds.flatMap (namesN n) ++ post := ⟨_, rfl⟩
 have HRC := Lib.hid hrc
 have hbX : Below X.heap.size X (X.alloc (.cells #[.int .i64 c.kind, .bool c.goal, .string c.id, .slice A1 c.attr.length a1, .slice A2 c.value.length a2, .bool c.acc, .slice A3 c.conds.length a3] 60)) := (Below.refl _ _).alloc (Nat.le_refl _) _
 have HIX := Lib.hid (HI.out.new_ HJ.out hbX)
 have KCX := Lib.hid (show Blk (X.alloc (.cells #[.int .i64 c.kind, .bool c.goal, .string c.id, .slice A1 c.attr.length a1, .slice A2 c.value.length a2, .bool c.acc, .slice A3 c.conds.length a3] 60)) X.heap.size 60 #[.int .i64 c.kind, .bool c.goal, .string c.id, .slice A1 c.attr.length a1, .slice A2 c.value.length a2, .bool c.acc, .slice A3 c.conds.length a3] from Blk.new _ _ _)
 have HFX := Lib.hid (show Fr (fun k => ¬ (D k ∨ E k)) X (X.alloc (.cells #[.int .i64 c.kind, .bool c.goal, .string c.id, .slice A1 c.attr.length a1, .slice A2 c.value.length a2, .bool c.acc, .slice A3 c.conds.length a3] 60)) from Fr.of_new hbX)
 clear hJ hY ih h1 h2 h3 hx hit hrc hbX
 refine callsIn_of_wp Try.func56 rfl trivial ?_
 simp only [Try.ntmps56, List.size_toArray, List.length_cons, List.length_nil, Nat.reduceAdd, Nat.reduceSub, Array.replicate_succ, Array.replicate_zero, List.push_toArray, List.append_toArray, List.nil_append, List.cons_append]
 by_cases hid : c.id.toList = []
 · have ia : (c.id.toList == []) = true := by simp [hid]
   have ib : c.id.toList.isEmpty = true := by simp [hid]
   have ic : decide (c.id.toList = []) = true := by simp [hid]
   have HX0 := Lib.hid (show xs = pre ++ (restN c 0 ++ rc) by rw [HX.out, namesN, oneN_no hid, HRC.out]; simp [restN])
   have HI0 := HIX
   have HC0 := Lib.hid (show Plus E X (X.alloc (.cells #[.int .i64 c.kind, .bool c.goal, .string c.id, .slice A1 c.attr.length a1, .slice A2 c.value.length a2, .bool c.acc, .slice A3 c.conds.length a3] 60)) X.heap.size from .inr ⟨Nat.le_refl _, by simp⟩)
   have KC0 := KCX
   have HE0 := Lib.hid (show ∀ k, E k → Plus E X (X.alloc (.cells #[.int .i64 c.kind, .bool c.goal, .string c.id, .slice A1 c.attr.length a1, .slice A2 c.value.length a2, .bool c.acc, .slice A3 c.conds.length a3] 60)) k from fun k hk => .inl hk)
   have HF0 := HFX
   clear hid HX
   gi_wp2_with fail
   refine ⟨(fun f h => by cases h), ?_⟩
   gi_wp2_with fail
   gi_loopw [26] (fun s wr => ∃ (j : Nat) (E1 : Nat → Prop) (p1 : List ByteArray), s = .int .i64 j ∧ j ≤ 2 ∧ xs = p1 ++ (restN c j ++ rc) ∧ ItSt J D E1 W p1 wr ∧ E1 X.heap.size ∧ Blk wr X.heap.size 60 #[.int .i64 c.kind, .bool c.goal, .string c.id, .slice A1 c.attr.length a1, .slice A2 c.value.length a2, .bool c.acc, .slice A3 c.conds.length a3] ∧ (∀ k, E k → E1 k) ∧ Fr (fun k => ¬ (D k ∨ E k)) X wr) (fun s wr => 2 - (intOf s).toNat)
   case atStart => exact ⟨0, _, _, rfl, by omega, HX0.out, HI0.out, HC0.out, KC0.out, HE0.out, HF0.out⟩
   case round =>
    obtain ⟨j, E1, p1, rfl, hj, hx1, hit1, hc1, hk1, he1, hf1⟩ := hrel
    have HX1 := Lib.hid hx1
    have HI1 := Lib.hid hit1
    have HC1 := Lib.hid hc1
    have KC1 := Lib.hid hk1
    have HE1 := Lib.hid he1
    have HF1 := Lib.hid hf1
    clear hx1 hit1 hc1 hk1 he1 hf1
    by_cases hlt : j < 2
    · obtain ⟨lj, Al, al, hix, hlj, hrj⟩ : ∃ (lj : List TestT) (Al : Option Addr) (al : Nat), (∀ V, (Instr.index 160 (.agg #[.slice A1 c.attr.length a1, .slice A2 c.value.length a2]) (.int .i64 (j : Int))).run Try.prog V = .ok (.slice Al lj.length al) V) ∧ RowR repTestT D X Al al lj ∧ restN c j = varsT lj ++ restN c (j + 1) := by
       match j, hlt with
       | 0, _ => exact ⟨c.attr, A1, a1, fun V => by rfl, H1.out, rfl⟩
       | 1, _ => exact ⟨c.value, A2, a2, fun V => by rfl, H2.out, by simp [restN]⟩
      have HLJ := Lib.hid hlj
      have hljc := hlj.cap
      have jj1 : (0 : Int) ≤ (j : Int) := by omega
      have jj2 : (j : Int) < 2 := by omega
      obtain ⟨rj, hrjd⟩ : ∃ rj, rj = restN c (j + 1) ++ rc := ⟨_, rfl⟩
      have HX2 := Lib.hid (show xs = p1 ++ (varsT (lj.drop 0) ++ rj) by rw [HX1.out, hrj, hrjd, List.drop_zero]; simp)
      have HRJ := Lib.hid hrjd
      clear hlj hrj hrjd HX1
      gi_wp2_with fail
      gi_loopw [31] (fun s wr => ∃ (i : Nat) (E1 : Nat → Prop) (p1 : List ByteArray), s = .int .i64 i ∧ i ≤ lj.length ∧ xs = p1 ++ (varsT (lj.drop i) ++ rj) ∧ ItSt J D E1 W p1 wr ∧ E1 X.heap.size ∧ Blk wr X.heap.size 60 #[.int .i64 c.kind, .bool c.goal, .string c.id, .slice A1 c.attr.length a1, .slice A2 c.value.length a2, .bool c.acc, .slice A3 c.conds.length a3] ∧ (∀ k, E k → E1 k) ∧ Fr (fun k => ¬ (D k ∨ E k)) X wr) (fun s wr => lj.length - (intOf s).toNat)
      case atStart => exact ⟨0, _, _, rfl, Nat.zero_le _, HX2.out, HI1.out, HC1.out, KC1.out, HE1.out, HF1.out⟩
      case round =>
       clear HX2 HI1 HC1 KC1 HE1 HF1
       obtain ⟨i, E1, p1, rfl, hi, hx1, hit1, hc1, hk1, he1, hf1⟩ := hrel
       have HX1 := Lib.hid hx1
       have HI1 := Lib.hid hit1
       have HC1 := Lib.hid hc1
       have KC1 := Lib.hid hk1
       have HE1 := Lib.hid he1
       have HF1 := Lib.hid hf1
       clear hx1 hit1 hc1 hk1 he1 hf1
       by_cases hlt2 : i < lj.length
       · skip
         obtain ⟨y, hy0⟩ : ∃ y, y = lj[i] := ⟨_, rfl⟩
         have htr := HLJ.out.fr HF1.out (fun k hk hn => hn (.inl hk))
         obtain ⟨gt, ot, At, at_, hA, _, hgt, q0, q1, q2, q3, q4, q5, _⟩ := at_TestT htr hlt2
         subst hA
         rw [← hy0] at q0 q1 q2 q3 q4 q5
         have HVD := Lib.hid (show varsT (lj.drop i) = oneN y.var ++ varsT (lj.drop (i + 1)) by rw [hy0]; exact varsT_drop hlt2)
         have j1 : (0 : Int) ≤ (i : Int) := by omega
         have j2 : (i : Int) < (lj.length : Int) := by omega
         clear hy0 htr
         have hbY : Below wr.heap.size wr (wr.alloc (.cells #[.int .i64 y.rel, .string y.var, .int .i64 y.sym.kind, .string y.sym.text, .int .i64 y.sym.n, .slice At y.list.length at_] 114)) := (Below.refl _ _).alloc (Nat.le_refl _) _
         have HIY := Lib.hid (HI1.out.new_ HJ.out hbY)
         have HBY := Lib.hid hbY
         have KCY := Lib.hid (KC1.out.new_ hbY)
         have HFY := Lib.hid (HF1.out.trans (Fr.of_new hbY))
         clear hbY
         by_cases hve : y.var.toList = []
         · have va : (y.var.toList == []) = true := by simp [hve]
           have vb : y.var.toList.isEmpty = true := by simp [hve]
           have vc : decide (y.var.toList = []) = true := by simp [hve]
           have HXN := Lib.hid (show xs = p1 ++ (varsT (lj.drop (i + 1)) ++ rj) by rw [HX1.out, HVD.out, oneN_no hve, List.nil_append])
           have HIN := HIY
           have HCN := Lib.hid (show Plus E1 wr (wr.alloc (.cells #[.int .i64 y.rel, .string y.var, .int .i64 y.sym.kind, .string y.sym.text, .int .i64 y.sym.n, .slice At y.list.length at_] 114)) X.heap.size from .inl HC1.out)
           have KCN := KCY
           have HEN := Lib.hid (show ∀ k, E k → Plus E1 wr (wr.alloc (.cells #[.int .i64 y.rel, .string y.var, .int .i64 y.sym.kind, .string y.sym.text, .int .i64 y.sym.n, .slice At y.list.length at_] 114)) k from fun k hk => .inl (HE1.out k hk))
           have HFN := HFY
           clear hve
           gi_wp2_with fail
           refine ⟨(fun f h => by cases h), ?_⟩
           gi_wp2_with fail
           go_roundw
           case rel => exact ⟨i + 1, _, _, by go_num, by omega, HXN.out, HIN.out, HCN.out, KCN.out, HEN.out, HFN.out⟩
           case measure => simp [intOf] <;> omega
         · have va : (y.var.toList == []) = false := by simp [hve]
           have vb : y.var.toList.isEmpty = false := by simp [hve]
           have vc : decide (y.var.toList = []) = false := by simp [hve]
           have HXV := Lib.hid (show xs = p1 ++ y.var :: (varsT (lj.drop (i + 1)) ++ rj) by rw [HX1.out, HVD.out, oneN_yes hve]; simp)
           clear hve
           obtain ⟨fy, ty, ay, by_, hy, hR⟩ := (HIY.out).round HY.out (HXV.out)
           dsimp only [encStr] at hy
           have HRR := Lib.hid hR
           clear hR
           gi_wp2_with fail
           refine ⟨rfl, HRR.out.mono ?_⟩
           rintro e W3 (⟨rfl, hi3, hk3⟩ | ⟨rfl, hT, -⟩)
           · have HI3 := Lib.hid hi3
             have HK3 := Lib.hid hk3
             clear hi3 hk3 hy
             have HXN := Lib.hid (show xs = (p1 ++ [y.var]) ++ (varsT (lj.drop (i + 1)) ++ rj) by rw [HXV.out]; simp)
             have HIN := HI3
             have HCN := Lib.hid (show Plus E1 wr (wr.alloc (.cells #[.int .i64 y.rel, .string y.var, .int .i64 y.sym.kind, .string y.sym.text, .int .i64 y.sym.n, .slice At y.list.length at_] 114)) X.heap.size from .inl HC1.out)
             have KCN := Lib.hid (KCY.out.fr HK3.out (fun hn => hn (.inr (.inl HC1.out))))
             have HEN := Lib.hid (show ∀ k, E k → Plus E1 wr (wr.alloc (.cells #[.int .i64 y.rel, .string y.var, .int .i64 y.sym.kind, .string y.sym.text, .int .i64 y.sym.n, .slice At y.list.length at_] 114)) k from fun k hk => .inl (HE1.out k hk))
             have HFN := Lib.hid (HFY.out.trans (HK3.out.mono (fun k _ hk hd => hk (hd.imp id (HEN.out k)))))
             gi_wp2_with fail
             go_roundw
             case rel => exact ⟨i + 1, _, _, by go_num, by omega, HXN.out, HIN.out, HCN.out, KCN.out, HEN.out, HFN.out⟩
             case measure => simp [intOf] <;> omega
           · have HT := Lib.hid hT
             clear hT hy
             gi_wp2_with fail
             go_ret
             exact .inr ⟨rfl, HT.out⟩
       · obtain rfl : i = lj.length := by omega
         have HX3 := Lib.hid (show xs = p1 ++ (restN c (j + 1) ++ rc) by rw [HX1.out, List.drop_length, HRJ.out]; simp [varsT])
         gi_wp2_with fail
         go_roundw
         case rel => exact ⟨j + 1, _, _, by go_num, by omega, HX3.out, HI1.out, HC1.out, KC1.out, HE1.out, HF1.out⟩
         case measure => simp [intOf] <;> omega
    · have HJ2 := Lib.hid (show j = 2 by omega)
      have HX2 := Lib.hid (show xs = p1 ++ ((c.conds.drop 0).flatMap (namesN n) ++ post) by rw [HX1.out, HRC.out, HJ2.out, List.drop_zero]; rfl)
      have jn : decide ((j : Int) < 2) = false := by simp; omega
      have k6 := (KC1.out.cell 6).trans rfl
      have kz := KC1.out.lt
      clear HX1
      gi_wp2_with fail
      clear k6 kz
      gi_loopw [50] (fun s wr => ∃ (i : Nat) (E1 : Nat → Prop) (p1 : List ByteArray), s = .int .i64 i ∧ i ≤ c.conds.length ∧ xs = p1 ++ ((c.conds.drop i).flatMap (namesN n) ++ post) ∧ ItSt J D E1 W p1 wr ∧ E1 X.heap.size ∧ Blk wr X.heap.size 60 #[.int .i64 c.kind, .bool c.goal, .string c.id, .slice A1 c.attr.length a1, .slice A2 c.value.length a2, .bool c.acc, .slice A3 c.conds.length a3] ∧ (∀ k, E k → E1 k) ∧ Fr (fun k => ¬ (D k ∨ E k)) X wr) (fun s wr => c.conds.length - (intOf s).toNat)
      case atStart => exact ⟨0, _, _, rfl, Nat.zero_le _, HX2.out, HI1.out, HC1.out, KC1.out, HE1.out, HF1.out⟩
      case round =>
       clear HX2 HI1 HC1 KC1 HE1 HF1
       obtain ⟨i, E1, p1, rfl, hi, hx1, hit1, hc1, hk1, he1, hf1⟩ := hrel
       have HX1 := Lib.hid hx1
       have HI1 := Lib.hid hit1
       have HC1 := Lib.hid hc1
       have KC1 := Lib.hid hk1
       have HE1 := Lib.hid he1
       have HF1 := Lib.hid hf1
       clear hx1 hit1 hc1 hk1 he1 hf1
       by_cases hlt2 : i < c.conds.length
       · obtain ⟨m, hnm⟩ : ∃ m, n = m + 1 := by
          cases n with
          | zero => have := row_zero H3.out; rw [this] at hlt2; simp at hlt2
          | succ m => exact ⟨m, rfl⟩
         subst hnm
         obtain ⟨y, hy0⟩ : ∃ y, y = c.conds[i] := ⟨_, rfl⟩
         have hcr := H3.out.fr HF1.out (fun k hk hn => hn (.inl hk))
         obtain ⟨gt, ot, B1, b1_, B2, b2_, B3, b3_, hA, _, hgt, q0, q1, q2, q3, q4, q5, q6, -, -, -⟩ := at_CondT hcr hlt2
         have HDC := Lib.hid (show (c.conds.drop i).flatMap (namesN (m + 1)) = namesN (m + 1) y ++ (c.conds.drop (i + 1)).flatMap (namesN (m + 1)) by rw [hy0, List.drop_eq_getElem_cons hlt2, List.flatMap_cons])
         subst hA
         rw [← hy0] at q0 q1 q2 q3 q4 q5 q6
         obtain ⟨_, _, _, _, _, _, _, _, hA9, _, _, _, _, _, q3', q4', _, q6', r1, r2, r3⟩ := at_CondT hcr hlt2
         injection hA9 with hA9
         injection hA9 with e1 e2
         subst e1
         subst e2
         rw [← hy0] at q3' q4' q6' r1 r2 r3
         rw [q3] at q3'
         rw [q4] at q4'
         rw [q6] at q6'
         injection q3' with q3'; injection q3' with s1 s2 s3; subst s1; subst s3
         injection q4' with q4'; injection q4' with s4 s5 s6; subst s4; subst s6
         injection q6' with q6'; injection q6' with s7 s8 s9; subst s7; subst s9
         have j1 : (0 : Int) ≤ (i : Int) := by omega
         have j2 : (i : Int) < (c.conds.length : Int) := by omega
         have hbY : Below wr.heap.size wr (wr.alloc (.cells #[.int .i64 y.kind, .bool y.goal, .string y.id, .slice B1 y.attr.length b1_, .slice B2 y.value.length b2_, .bool y.acc, .slice B3 y.conds.length b3_] 60)) := (Below.refl _ _).alloc (Nat.le_refl _) _
         have HXY := Lib.hid (show xs = p1 ++ (namesN (m + 1) y ++ ((c.conds.drop (i + 1)).flatMap (namesN (m + 1)) ++ post)) by rw [HX1.out, HDC.out, List.append_assoc])
         have HIH := Lib.hid (IH.out m rfl y B1 b1_ B2 b2_ B3 b3_ (Plus E1 wr (wr.alloc (.cells #[.int .i64 y.kind, .bool y.goal, .string y.id, .slice B1 y.attr.length b1_, .slice B2 y.value.length b2_, .bool y.acc, .slice B3 y.conds.length b3_] 60))) p1 _ (wr.alloc (.cells #[.int .i64 y.kind, .bool y.goal, .string y.id, .slice B1 y.attr.length b1_, .slice B2 y.value.length b2_, .bool y.acc, .slice B3 y.conds.length b3_] 60)) HXY.out (r1.new_ hbY) (r2.new_ hbY) (r3.new_ hbY) (HI1.out.new_ HJ.out hbY))
         have KCY := Lib.hid (KC1.out.new_ hbY)
         have HFY := Lib.hid (HF1.out.trans (Fr.of_new hbY))
         clear hy0 hcr r1 r2 r3 hbY s2 s5 s8
         gi_wp2_with fail
         refine ⟨trivial, rfl, ?_⟩
         refine HIH.out.mono ?_
         rintro e w5 (⟨rfl, ⟨E5, he5, hi5⟩, hf5⟩ | ⟨rfl, hT⟩)
         · have HXN := Lib.hid (show xs = (p1 ++ namesN (m + 1) y) ++ ((c.conds.drop (i + 1)).flatMap (namesN (m + 1)) ++ post) by rw [HXY.out]; simp)
           have HI5 := Lib.hid hi5
           have HC5 := Lib.hid (he5 _ (.inl HC1.out))
           have KC5 := Lib.hid (KCY.out.fr hf5 (fun hn => hn (.inr (.inl HC1.out))))
           have HE5 := Lib.hid (show ∀ k, E k → E5 k from fun k hk => he5 k (.inl (HE1.out k hk)))
           have HF5 := Lib.hid (HFY.out.trans (hf5.mono (fun k _ hk hd => hk (hd.imp id (fun h => .inl (HE1.out k h))))))
           clear he5 hi5 hf5 q0 q1 q2 q3 q4 q5 q6
           gi_wp2_with fail
           go_roundw
           case rel => exact ⟨i + 1, _, _, by go_num, by omega, HXN.out, HI5.out, HC5.out, KC5.out, HE5.out, HF5.out⟩
           case measure => simp [intOf] <;> omega
         · have HT := Lib.hid hT
           clear hT q0 q1 q2 q3 q4 q5 q6
           gi_wp2_with fail
           go_ret
           exact .inr ⟨rfl, HT.out⟩
       · obtain rfl : i = c.conds.length := by omega
         have HXE := Lib.hid (show p1 = pre ++ namesN (n + 1) c by
          have h := HX1.out
          rw [List.drop_length, List.flatMap_nil, List.nil_append, HXX.out, ← List.append_assoc] at h
          exact (List.append_cancel_right h).symm)
         gi_wp2_with fail
         go_ret
         exact .inl ⟨rfl, ⟨E1, HE1.out, by have := HI1.out; rw [HXE.out] at this; exact this⟩, HF1.out⟩
 · have ia : (c.id.toList == []) = false := by simp [hid]
   have ib : c.id.toList.isEmpty = false := by simp [hid]
   have ic : decide (c.id.toList = []) = false := by simp [hid]
   have HXV := Lib.hid (show xs = pre ++ c.id :: (restN c 0 ++ rc) by rw [HX.out, namesN, oneN_yes hid, HRC.out]; simp [restN])
   clear hid HX
   obtain ⟨fy, ty, ay, by_, hy, hR⟩ := (HIX.out).round HY.out (HXV.out)
   dsimp only [encStr] at hy
   have HRR := Lib.hid hR
   clear hR
   gi_wp2_with fail
   refine ⟨rfl, HRR.out.mono ?_⟩
   rintro e W3 (⟨rfl, hi3, hk3⟩ | ⟨rfl, hT, -⟩)
   · have HI3 := Lib.hid hi3
     have HK3 := Lib.hid hk3
     clear hi3 hk3 hy
     have HX0 := Lib.hid (show xs = (pre ++ [c.id]) ++ (restN c 0 ++ rc) by rw [HXV.out]; simp)
     have HI0 := HI3
     have HC0 := Lib.hid (show Plus E X (X.alloc (.cells #[.int .i64 c.kind, .bool c.goal, .string c.id, .slice A1 c.attr.length a1, .slice A2 c.value.length a2, .bool c.acc, .slice A3 c.conds.length a3] 60)) X.heap.size from .inr ⟨Nat.le_refl _, by simp⟩)
     have KC0 := Lib.hid (KCX.out.fr HK3.out (fun hn => hn (.inr HC0.out)))
     have HE0 := Lib.hid (show ∀ k, E k → Plus E X (X.alloc (.cells #[.int .i64 c.kind, .bool c.goal, .string c.id, .slice A1 c.attr.length a1, .slice A2 c.value.length a2, .bool c.acc, .slice A3 c.conds.length a3] 60)) k from fun k hk => .inl hk)
     have HF0 := Lib.hid (HFX.out.trans (HK3.out.mono (fun k _ hk hd => hk (hd.imp id (HE0.out k)))))
     have x3 := (KC0.out.cell 3).trans rfl
     have x4 := (KC0.out.cell 4).trans rfl
     have xz := KC0.out.lt
     gi_wp2_with fail
     clear x3 x4 xz
     gi_loopw [26] (fun s wr => ∃ (j : Nat) (E1 : Nat → Prop) (p1 : List ByteArray), s = .int .i64 j ∧ j ≤ 2 ∧ xs = p1 ++ (restN c j ++ rc) ∧ ItSt J D E1 W p1 wr ∧ E1 X.heap.size ∧ Blk wr X.heap.size 60 #[.int .i64 c.kind, .bool c.goal, .string c.id, .slice A1 c.attr.length a1, .slice A2 c.value.length a2, .bool c.acc, .slice A3 c.conds.length a3] ∧ (∀ k, E k → E1 k) ∧ Fr (fun k => ¬ (D k ∨ E k)) X wr) (fun s wr => 2 - (intOf s).toNat)
     case atStart => exact ⟨0, _, _, rfl, by omega, HX0.out, HI0.out, HC0.out, KC0.out, HE0.out, HF0.out⟩
     case round =>
      obtain ⟨j, E1, p1, rfl, hj, hx1, hit1, hc1, hk1, he1, hf1⟩ := hrel
      have HX1 := Lib.hid hx1
      have HI1 := Lib.hid hit1
      have HC1 := Lib.hid hc1
      have KC1 := Lib.hid hk1
      have HE1 := Lib.hid he1
      have HF1 := Lib.hid hf1
      clear hx1 hit1 hc1 hk1 he1 hf1
      by_cases hlt : j < 2
      · obtain ⟨lj, Al, al, hix, hlj, hrj⟩ : ∃ (lj : List TestT) (Al : Option Addr) (al : Nat), (∀ V, (Instr.index 160 (.agg #[.slice A1 c.attr.length a1, .slice A2 c.value.length a2]) (.int .i64 (j : Int))).run Try.prog V = .ok (.slice Al lj.length al) V) ∧ RowR repTestT D X Al al lj ∧ restN c j = varsT lj ++ restN c (j + 1) := by
         match j, hlt with
         | 0, _ => exact ⟨c.attr, A1, a1, fun V => by rfl, H1.out, rfl⟩
         | 1, _ => exact ⟨c.value, A2, a2, fun V => by rfl, H2.out, by simp [restN]⟩
        have HLJ := Lib.hid hlj
        have hljc := hlj.cap
        have jj1 : (0 : Int) ≤ (j : Int) := by omega
        have jj2 : (j : Int) < 2 := by omega
        obtain ⟨rj, hrjd⟩ : ∃ rj, rj = restN c (j + 1) ++ rc := ⟨_, rfl⟩
        have HX2 := Lib.hid (show xs = p1 ++ (varsT (lj.drop 0) ++ rj) by rw [HX1.out, hrj, hrjd, List.drop_zero]; simp)
        have HRJ := Lib.hid hrjd
        clear hlj hrj hrjd HX1
        gi_wp2_with fail
        gi_loopw [31] (fun s wr => ∃ (i : Nat) (E1 : Nat → Prop) (p1 : List ByteArray), s = .int .i64 i ∧ i ≤ lj.length ∧ xs = p1 ++ (varsT (lj.drop i) ++ rj) ∧ ItSt J D E1 W p1 wr ∧ E1 X.heap.size ∧ Blk wr X.heap.size 60 #[.int .i64 c.kind, .bool c.goal, .string c.id, .slice A1 c.attr.length a1, .slice A2 c.value.length a2, .bool c.acc, .slice A3 c.conds.length a3] ∧ (∀ k, E k → E1 k) ∧ Fr (fun k => ¬ (D k ∨ E k)) X wr) (fun s wr => lj.length - (intOf s).toNat)
        case atStart => exact ⟨0, _, _, rfl, Nat.zero_le _, HX2.out, HI1.out, HC1.out, KC1.out, HE1.out, HF1.out⟩
        case round =>
         clear HX2 HI1 HC1 KC1 HE1 HF1
         obtain ⟨i, E1, p1, rfl, hi, hx1, hit1, hc1, hk1, he1, hf1⟩ := hrel
         have HX1 := Lib.hid hx1
         have HI1 := Lib.hid hit1
         have HC1 := Lib.hid hc1
         have KC1 := Lib.hid hk1
         have HE1 := Lib.hid he1
         have HF1 := Lib.hid hf1
         clear hx1 hit1 hc1 hk1 he1 hf1
         by_cases hlt2 : i < lj.length
         · skip
           obtain ⟨y, hy0⟩ : ∃ y, y = lj[i] := ⟨_, rfl⟩
           have htr := HLJ.out.fr HF1.out (fun k hk hn => hn (.inl hk))
           obtain ⟨gt, ot, At, at_, hA, _, hgt, q0, q1, q2, q3, q4, q5, _⟩ := at_TestT htr hlt2
           subst hA
           rw [← hy0] at q0 q1 q2 q3 q4 q5
           have HVD := Lib.hid (show varsT (lj.drop i) = oneN y.var ++ varsT (lj.drop (i + 1)) by rw [hy0]; exact varsT_drop hlt2)
           have j1 : (0 : Int) ≤ (i : Int) := by omega
           have j2 : (i : Int) < (lj.length : Int) := by omega
           clear hy0 htr
           have hbY : Below wr.heap.size wr (wr.alloc (.cells #[.int .i64 y.rel, .string y.var, .int .i64 y.sym.kind, .string y.sym.text, .int .i64 y.sym.n, .slice At y.list.length at_] 114)) := (Below.refl _ _).alloc (Nat.le_refl _) _
           have HIY := Lib.hid (HI1.out.new_ HJ.out hbY)
           have HBY := Lib.hid hbY
           have KCY := Lib.hid (KC1.out.new_ hbY)
           have HFY := Lib.hid (HF1.out.trans (Fr.of_new hbY))
           clear hbY
           by_cases hve : y.var.toList = []
           · have va : (y.var.toList == []) = true := by simp [hve]
             have vb : y.var.toList.isEmpty = true := by simp [hve]
             have vc : decide (y.var.toList = []) = true := by simp [hve]
             have HXN := Lib.hid (show xs = p1 ++ (varsT (lj.drop (i + 1)) ++ rj) by rw [HX1.out, HVD.out, oneN_no hve, List.nil_append])
             have HIN := HIY
             have HCN := Lib.hid (show Plus E1 wr (wr.alloc (.cells #[.int .i64 y.rel, .string y.var, .int .i64 y.sym.kind, .string y.sym.text, .int .i64 y.sym.n, .slice At y.list.length at_] 114)) X.heap.size from .inl HC1.out)
             have KCN := KCY
             have HEN := Lib.hid (show ∀ k, E k → Plus E1 wr (wr.alloc (.cells #[.int .i64 y.rel, .string y.var, .int .i64 y.sym.kind, .string y.sym.text, .int .i64 y.sym.n, .slice At y.list.length at_] 114)) k from fun k hk => .inl (HE1.out k hk))
             have HFN := HFY
             clear hve
             gi_wp2_with fail
             refine ⟨(fun f h => by cases h), ?_⟩
             gi_wp2_with fail
             go_roundw
             case rel => exact ⟨i + 1, _, _, by go_num, by omega, HXN.out, HIN.out, HCN.out, KCN.out, HEN.out, HFN.out⟩
             case measure => simp [intOf] <;> omega
           · have va : (y.var.toList == []) = false := by simp [hve]
             have vb : y.var.toList.isEmpty = false := by simp [hve]
             have vc : decide (y.var.toList = []) = false := by simp [hve]
             have HXV := Lib.hid (show xs = p1 ++ y.var :: (varsT (lj.drop (i + 1)) ++ rj) by rw [HX1.out, HVD.out, oneN_yes hve]; simp)
             clear hve
             obtain ⟨fy, ty, ay, by_, hy, hR⟩ := (HIY.out).round HY.out (HXV.out)
             dsimp only [encStr] at hy
             have HRR := Lib.hid hR
             clear hR
             gi_wp2_with fail
             refine ⟨rfl, HRR.out.mono ?_⟩
             rintro e W3 (⟨rfl, hi3, hk3⟩ | ⟨rfl, hT, -⟩)
             · have HI3 := Lib.hid hi3
               have HK3 := Lib.hid hk3
               clear hi3 hk3 hy
               have HXN := Lib.hid (show xs = (p1 ++ [y.var]) ++ (varsT (lj.drop (i + 1)) ++ rj) by rw [HXV.out]; simp)
               have HIN := HI3
               have HCN := Lib.hid (show Plus E1 wr (wr.alloc (.cells #[.int .i64 y.rel, .string y.var, .int .i64 y.sym.kind, .string y.sym.text, .int .i64 y.sym.n, .slice At y.list.length at_] 114)) X.heap.size from .inl HC1.out)
               have KCN := Lib.hid (KCY.out.fr HK3.out (fun hn => hn (.inr (.inl HC1.out))))
               have HEN := Lib.hid (show ∀ k, E k → Plus E1 wr (wr.alloc (.cells #[.int .i64 y.rel, .string y.var, .int .i64 y.sym.kind, .string y.sym.text, .int .i64 y.sym.n, .slice At y.list.length at_] 114)) k from fun k hk => .inl (HE1.out k hk))
               have HFN := Lib.hid (HFY.out.trans (HK3.out.mono (fun k _ hk hd => hk (hd.imp id (HEN.out k)))))
               gi_wp2_with fail
               go_roundw
               case rel => exact ⟨i + 1, _, _, by go_num, by omega, HXN.out, HIN.out, HCN.out, KCN.out, HEN.out, HFN.out⟩
               case measure => simp [intOf] <;> omega
             · have HT := Lib.hid hT
               clear hT hy
               gi_wp2_with fail
               go_ret
               exact .inr ⟨rfl, HT.out⟩
         · obtain rfl : i = lj.length := by omega
           have HX3 := Lib.hid (show xs = p1 ++ (restN c (j + 1) ++ rc) by rw [HX1.out, List.drop_length, HRJ.out]; simp [varsT])
           gi_wp2_with fail
           go_roundw
           case rel => exact ⟨j + 1, _, _, by go_num, by omega, HX3.out, HI1.out, HC1.out, KC1.out, HE1.out, HF1.out⟩
           case measure => simp [intOf] <;> omega
      · have HJ2 := Lib.hid (show j = 2 by omega)
        have HX2 := Lib.hid (show xs = p1 ++ ((c.conds.drop 0).flatMap (namesN n) ++ post) by rw [HX1.out, HRC.out, HJ2.out, List.drop_zero]; rfl)
        have jn : decide ((j : Int) < 2) = false := by simp; omega
        have k6 := (KC1.out.cell 6).trans rfl
        have kz := KC1.out.lt
        clear HX1
        gi_wp2_with fail
        clear k6 kz
        gi_loopw [50] (fun s wr => ∃ (i : Nat) (E1 : Nat → Prop) (p1 : List ByteArray), s = .int .i64 i ∧ i ≤ c.conds.length ∧ xs = p1 ++ ((c.conds.drop i).flatMap (namesN n) ++ post) ∧ ItSt J D E1 W p1 wr ∧ E1 X.heap.size ∧ Blk wr X.heap.size 60 #[.int .i64 c.kind, .bool c.goal, .string c.id, .slice A1 c.attr.length a1, .slice A2 c.value.length a2, .bool c.acc, .slice A3 c.conds.length a3] ∧ (∀ k, E k → E1 k) ∧ Fr (fun k => ¬ (D k ∨ E k)) X wr) (fun s wr => c.conds.length - (intOf s).toNat)
        case atStart => exact ⟨0, _, _, rfl, Nat.zero_le _, HX2.out, HI1.out, HC1.out, KC1.out, HE1.out, HF1.out⟩
        case round =>
         clear HX2 HI1 HC1 KC1 HE1 HF1
         obtain ⟨i, E1, p1, rfl, hi, hx1, hit1, hc1, hk1, he1, hf1⟩ := hrel
         have HX1 := Lib.hid hx1
         have HI1 := Lib.hid hit1
         have HC1 := Lib.hid hc1
         have KC1 := Lib.hid hk1
         have HE1 := Lib.hid he1
         have HF1 := Lib.hid hf1
         clear hx1 hit1 hc1 hk1 he1 hf1
         by_cases hlt2 : i < c.conds.length
         · obtain ⟨m, hnm⟩ : ∃ m, n = m + 1 := by
            cases n with
            | zero => have := row_zero H3.out; rw [this] at hlt2; simp at hlt2
            | succ m => exact ⟨m, rfl⟩
           subst hnm
           obtain ⟨y, hy0⟩ : ∃ y, y = c.conds[i] := ⟨_, rfl⟩
           have hcr := H3.out.fr HF1.out (fun k hk hn => hn (.inl hk))
           obtain ⟨gt, ot, B1, b1_, B2, b2_, B3, b3_, hA, _, hgt, q0, q1, q2, q3, q4, q5, q6, -, -, -⟩ := at_CondT hcr hlt2
           have HDC := Lib.hid (show (c.conds.drop i).flatMap (namesN (m + 1)) = namesN (m + 1) y ++ (c.conds.drop (i + 1)).flatMap (namesN (m + 1)) by rw [hy0, List.drop_eq_getElem_cons hlt2, List.flatMap_cons])
           subst hA
           rw [← hy0] at q0 q1 q2 q3 q4 q5 q6
           obtain ⟨_, _, _, _, _, _, _, _, hA9, _, _, _, _, _, q3', q4', _, q6', r1, r2, r3⟩ := at_CondT hcr hlt2
           injection hA9 with hA9
           injection hA9 with e1 e2
           subst e1
           subst e2
           rw [← hy0] at q3' q4' q6' r1 r2 r3
           rw [q3] at q3'
           rw [q4] at q4'
           rw [q6] at q6'
           injection q3' with q3'; injection q3' with s1 s2 s3; subst s1; subst s3
           injection q4' with q4'; injection q4' with s4 s5 s6; subst s4; subst s6
           injection q6' with q6'; injection q6' with s7 s8 s9; subst s7; subst s9
           have j1 : (0 : Int) ≤ (i : Int) := by omega
           have j2 : (i : Int) < (c.conds.length : Int) := by omega
           have hbY : Below wr.heap.size wr (wr.alloc (.cells #[.int .i64 y.kind, .bool y.goal, .string y.id, .slice B1 y.attr.length b1_, .slice B2 y.value.length b2_, .bool y.acc, .slice B3 y.conds.length b3_] 60)) := (Below.refl _ _).alloc (Nat.le_refl _) _
           have HXY := Lib.hid (show xs = p1 ++ (namesN (m + 1) y ++ ((c.conds.drop (i + 1)).flatMap (namesN (m + 1)) ++ post)) by rw [HX1.out, HDC.out, List.append_assoc])
           have HIH := Lib.hid (IH.out m rfl y B1 b1_ B2 b2_ B3 b3_ (Plus E1 wr (wr.alloc (.cells #[.int .i64 y.kind, .bool y.goal, .string y.id, .slice B1 y.attr.length b1_, .slice B2 y.value.length b2_, .bool y.acc, .slice B3 y.conds.length b3_] 60))) p1 _ (wr.alloc (.cells #[.int .i64 y.kind, .bool y.goal, .string y.id, .slice B1 y.attr.length b1_, .slice B2 y.value.length b2_, .bool y.acc, .slice B3 y.conds.length b3_] 60)) HXY.out (r1.new_ hbY) (r2.new_ hbY) (r3.new_ hbY) (HI1.out.new_ HJ.out hbY))
           have KCY := Lib.hid (KC1.out.new_ hbY)
           have HFY := Lib.hid (HF1.out.trans (Fr.of_new hbY))
           clear hy0 hcr r1 r2 r3 hbY s2 s5 s8
           gi_wp2_with fail
           refine ⟨trivial, rfl, ?_⟩
           refine HIH.out.mono ?_
           rintro e w5 (⟨rfl, ⟨E5, he5, hi5⟩, hf5⟩ | ⟨rfl, hT⟩)
           · have HXN := Lib.hid (show xs = (p1 ++ namesN (m + 1) y) ++ ((c.conds.drop (i + 1)).flatMap (namesN (m + 1)) ++ post) by rw [HXY.out]; simp)
             have HI5 := Lib.hid hi5
             have HC5 := Lib.hid (he5 _ (.inl HC1.out))
             have KC5 := Lib.hid (KCY.out.fr hf5 (fun hn => hn (.inr (.inl HC1.out))))
             have HE5 := Lib.hid (show ∀ k, E k → E5 k from fun k hk => he5 k (.inl (HE1.out k hk)))
             have HF5 := Lib.hid (HFY.out.trans (hf5.mono (fun k _ hk hd => hk (hd.imp id (fun h => .inl (HE1.out k h))))))
             clear he5 hi5 hf5 q0 q1 q2 q3 q4 q5 q6
             gi_wp2_with fail
             go_roundw
             case rel => exact ⟨i + 1, _, _, by go_num, by omega, HXN.out, HI5.out, HC5.out, KC5.out, HE5.out, HF5.out⟩
             case measure => simp [intOf] <;> omega
           · have HT := Lib.hid hT
             clear hT q0 q1 q2 q3 q4 q5 q6
             gi_wp2_with fail
             go_ret
             exact .inr ⟨rfl, HT.out⟩
         · obtain rfl : i = c.conds.length := by omega
           have HXE := Lib.hid (show p1 = pre ++ namesN (n + 1) c by
            have h := HX1.out
            rw [List.drop_length, List.flatMap_nil, List.nil_append, HXX.out, ← List.append_assoc] at h
            exact (List.append_cancel_right h).symm)
           gi_wp2_with fail
           go_ret
           exact .inl ⟨rfl, ⟨E1, HE1.out, by have := HI1.out; rw [HXE.out] at this; exact this⟩, HF1.out⟩
   · have HT := Lib.hid hT
     clear hT hy
     gi_wp2_with fail
     go_ret
     exact .inr ⟨rfl, HT.out⟩
end Go.Proofs.Ytnfgilbaglfkeaa
namespace Go.Proofs.Ytnfgilbaglfkeaa
open Go.RowKit Go.Shelf
attribute [local go_sem] Oper.semAt_some
theorem names_is (n lo : Nat) (xs : List ByteArray) (J Jx : (Nat → Prop) → List ByteArray → World → Prop) (D : Nat → Prop) (W : World) (hJ : Steady W.heap.size J) (hY : RoundsO Try.prog lo encStr xs J Jx) : NamesSpec n lo xs J Jx D W := by
 induction n with
 | zero => exact names_step 0 lo xs J Jx D W hJ hY (fun m h => by omega)
 | succ n ih => exact names_step (n + 1) lo xs J Jx D W hJ hY (fun m h => by obtain rfl : n = m := by omega
                                                                             exact ih)
set_option maxRecDepth 100000 in
set_option maxHeartbeats 4000000 in
theorem namesI_is {D : Nat → Prop} (n : Nat) (c : CondT) (kb : Nat) (A1 A2 A3 : Option Addr) (a1 a2 a3 : Nat) (W : World) (hkb : Blk W kb 60 #[.int .i64 c.kind, .bool c.goal, .string c.id, .slice A1 c.attr.length a1, .slice A2 c.value.length a2, .bool c.acc, .slice A3 c.conds.length a3]) (_ : D kb)
 (h1 : RowR repTestT D W A1 a1 c.attr) (h2 : RowR repTestT D W A2 a2 c.value) (h3 : RowR (repCondT n) D W A3 a3 c.conds) :
 IterO Try.prog 55 #[.pointer (some ⟨kb, 0, none⟩)] encStr (namesN (n + 1) c) W D := by
 intro lo J Jx hJ hJx h0 hY
 have hc := names_is n lo (namesN (n + 1) c) J Jx D W hJ hY c A1 a1 A2 a2 A3 a3 (fun _ => False) [] [] W (by simp) h1 h2 h3 (ItSt.start h0)
 obtain ⟨ns, hns⟩ : ∃ ns, ns = namesN (n + 1) c := ⟨_, rfl⟩
 rw [← hns] at hc ⊢
 have HC := Lib.hid hc
 obtain ⟨q0, q1, q2, q3, q4, q5, q6⟩ := hkb.c7
 have hkl := hkb.lt
 clear hc hns h0 hJ hJx hY h1 h2 h3 hkb
 refine callsIn_of_wp Try.func55 rfl trivial ?_
 simp only [Try.ntmps55, List.size_toArray, List.length_cons, List.length_nil, Nat.reduceAdd, Nat.reduceSub, Array.replicate_succ, Array.replicate_zero, List.push_toArray, List.append_toArray, List.nil_append, List.cons_append]
 gi_wp2_with fail
 refine ⟨trivial, rfl, ?_⟩
 refine HC.out.mono ?_
 rintro e w5 (⟨rfl, ⟨E5, _, hi5⟩, _⟩ | ⟨rfl, hT⟩)
 · have HI5 := Lib.hid hi5
   clear hi5 q0 q1 q2 q3 q4 q5 q6
   gi_wp2_with fail
   go_end0
   refine ⟨⟨_, rfl⟩, ?_⟩
   have := HI5.out
   rw [List.nil_append] at this
   exact this.told
 · have HT := Lib.hid hT
   clear hT q0 q1 q2 q3 q4 q5 q6
   gi_wp2_with fail
   go_end0
   exact ⟨⟨_, rfl⟩, HT.out⟩
set_option maxHeartbeats 400000 in
theorem mknames_is (c : CondT) (A1 A2 A3 : Option Addr) (a1 a2 a3 : Nat) (w : World) :
 Calls Try.prog 25 #[.agg #[.int .i64 c.kind, .bool c.goal, .string c.id, .slice A1 c.attr.length a1, .slice A2 c.value.length a2, .bool c.acc, .slice A3 c.conds.length a3]] w fun e w' => e = .returned (.func (.func 55) #[] #[.pointer (some ⟨w.heap.size, 0, none⟩)]) ∧ Blk w' w.heap.size 60 #[.int .i64 c.kind, .bool c.goal, .string c.id, .slice A1 c.attr.length a1, .slice A2 c.value.length a2, .bool c.acc, .slice A3 c.conds.length a3] ∧ Below w.heap.size w w' := by
 go_enter Try.func25, Try.ntmps25
 go_wp2_with fail
 go_ret
 exact ⟨rfl, Blk.new _ _ _, (Below.refl _ _).alloc (Nat.le_refl _) _⟩
end Go.Proofs.Ytnfgilbaglfkeaa
namespace Go.Proofs.Ytnfgilbaglfkeaa
open Go.RowKit Go.Shelf
theorem rnames_is : ∀ n : Nat, RNSpec n
 | 0 => rnames_step 0 (fun m h => by omega)
 | n + 1 => rnames_step (n + 1) (fun m h => by obtain rfl : n = m := by omega
                                               exact rnames_is n)
theorem flat_sum {α β : Type} (f : α → List β) (g : α → Nat) (k : Nat) : ∀ l : List α, (∀ c ∈ l, (f c).length ≤ k * g c) → (l.flatMap f).length ≤ k * (l.map g).sum
 | [], _ => by simp
 | c :: l, h => by
   have h1 := h c (by simp)
   have h2 := flat_sum f g k l (fun x hx => h x (by simp [hx]))
   rw [List.flatMap_cons, List.length_append, List.map_cons, List.sum_cons, Nat.mul_add]
   omega
theorem names_len30 : ∀ (n d : Nat) (l : List CondT), sizeK 30 n d l ≤ 30 → heavyC n l = false → (l.flatMap (namesN n)).length ≤ 21 * sizeK 30 n d l
 | 0, _, l, _, _ => by
   have : l.flatMap (namesN 0) = [] := by
    rw [List.flatMap_eq_nil_iff]
    intro x _
    rfl
   rw [this]; simp
 | n + 1, d, l, h1, h2 => by
   rw [heavyC_succ] at h2
   have h3 := fun c hc => List.any_eq_false.1 h2 c hc
   unfold sizeK at h1 ⊢
   split at h1
   · omega
   · rename_i hd
     rw [if_neg hd]
     obtain ⟨g1, g2⟩ := goK_all 30 (fun c => sizeK 30 n (d + 1) c.conds) l 0 (by omega)
     have g3 := flat_sum (namesN (n + 1)) (fun c : CondT => 1 + sizeK 30 n (d + 1) c.conds) 21 l (fun c hc => by
      have h4 := h3 c hc
      simp only [Bool.or_eq_true, not_or, Bool.not_eq_true] at h4
      have h5 := names_len30 n (d + 1) c.conds (g2 c hc) h4.2
      have h6 := h4.1
      unfold heavyO at h6
      simp only [Bool.or_eq_false_iff, decide_eq_false_iff_not] at h6
      have k1 := varsT_len c.attr
      have k2 := varsT_len c.value
      have k3 := oneN_len c.id
      rw [namesN, List.length_append, List.length_append, List.length_append]
      omega)
     omega
theorem smc_of30 : ∀ (n d : Nat) (l : List CondT), sizeK 30 n d l ≤ 30 → heavyC n l = false → ∀ c ∈ l, SmC n c
 | 0, _, _, _, _, _, _ => trivial
 | n + 1, d, l, h1, h2, c, hc => by
   rw [heavyC_succ] at h2
   have h3 := List.any_eq_false.1 h2 c hc
   simp only [Bool.or_eq_true, not_or, Bool.not_eq_true] at h3
   have h4 := (sizeK_in h1).2 c hc
   obtain ⟨g1, g2⟩ := heavyO_no h3.1
   exact ⟨g1, g2, by have := (sizeK_in h4).1; omega, smc_of30 n (d + 1) c.conds h4 h3.2⟩
end Go.Proofs.Ytnfgilbaglfkeaa
