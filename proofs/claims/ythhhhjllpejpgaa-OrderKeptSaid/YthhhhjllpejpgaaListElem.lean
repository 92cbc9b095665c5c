/-
  The maker of a sequence over an ordered set of ponder/api.Elem, and the list that is made of a sequence.
-/
import Derived.Test.YthhhhjllpejpgaaSeq
import Derived.Test.YthhhhjllpejpgaaIterElem
import Derived.Test.YthhhhjllpejpgaaOpsElem
namespace Go.Proofs.Ythhhhjllpejpgaa
open Go.RowKit Go.Shelf
attribute [local go_sem] Oper.semAt_some

set_option maxHeartbeats 400000 in
/-- All makes a box for the pointer, and tells the function value. -/
theorem mkall_Elem (b : Nat) (w : World) :
    Calls Try.prog 44 #[.pointer (some ⟨b, 0, none⟩)] w fun e w' => e = .returned (.func (.func 66) #[] #[.pointer (some ⟨w.heap.size, 0, none⟩)]) ∧ Below w.heap.size w w' ∧ w'.cell? ⟨w.heap.size, 0, none⟩ = some (.pointer (some ⟨b, 0, none⟩)) := by
  go_enter Try.func44, Try.ntmps44
  go_wp2
  go_ret
  exact ⟨rfl, (Below.refl _ _).alloc (Nat.le_refl _) _, by go_simp⟩
theorem seq_all_Elem (kb b c : Nat) (sn : Bool) (A : Option Addr) (l : List Elem) (w : World) (hbox : w.cell? ⟨kb, 0, none⟩ = some (.pointer (some ⟨b, 0, none⟩))) (hS : ElemSet w b sn A c l) :
    Seq 66 #[.pointer (some ⟨kb, 0, none⟩)] encElem l w (SeenStart b) (RowKeep A) :=
  ⟨by intro args w; kernel_rfl, fun W hW => (all_Elem kb b c sn A l W ((hW.cell (World.block_lt_of_cell? _ _ hbox)).trans hbox) (hS.new_ hW)).weak (fun _ _ h => h.1), fun _ _ _ => RowKeep.trans, fun _ _ => RowKeep.of_priv hS.row_lt, fun _ _ => RowKeep.of_below hS.row_lt, fun _ _ h => h.fr.mono (fun k _ hk => by subst hk; exact hS.lt)⟩

/-- Behind List: the row in new memory; the sequence's own doing. -/
def ListPostElem (w : World) (start : World → World → Prop) (xs : List Elem) (e : Ending) (w' : World) : Prop :=
  ∃ A c, e = .returned (.slice A xs.length c) ∧ w'.ownsRow 0 72 12 (.slice A xs.length c) xs.length (xs.flatMap Elem.cells) ∧ AIn A (w.heap.size ≤ ·) ∧ ∃ W1 W2, Below w.heap.size w W1 ∧ start W1 W2 ∧ Below w.heap.size W2 w'
set_option maxRecDepth 100000 in
set_option maxHeartbeats 2000000 in
theorem list_Elem (gf : Nat) (lb : Array Value) (xs : List Elem) (w : World) (start Kp : World → World → Prop) (hq : Seq gf lb encElem xs w start Kp) (hl : (xs.length : Int) ≤ 100000000) :
    Calls Try.prog 43 #[.func (.func gf) #[] lb] w (ListPostElem w start xs) := by
  refine (callsIn_wide (n := 0)).1 ?_
  refine callsIn_of_wp_marks Try.func43 rfl trivial ?_
  simp only [Try.ntmps43, List.size_toArray, List.length_cons, List.length_nil, Nat.reduceAdd, Nat.reduceSub, Array.replicate_succ, Array.replicate_zero, List.push_toArray, List.append_toArray, List.nil_append, List.cons_append]
  have hbe : ∀ W, (binOp .eql 77 (.func (.func gf) #[] lb) .nilFunc).run Try.prog W = .ok (.bool false) W := fun W => by kernel_rfl
  gi_wp2_with fail
  obtain ⟨W0, hW0⟩ : ∃ W0, W0 = w.alloc (.cells #[.slice none 0 0] 68) := ⟨_, rfl⟩
  have hb0 : Below w.heap.size w W0 := by rw [hW0]; exact (Below.refl _ _).alloc (Nat.le_refl _) _
  have hz0 : W0.heap.size = w.heap.size + 1 := by rw [hW0]; simp
  have hB0 : Blk W0 w.heap.size 68 #[.slice none 0 0] := by rw [hW0]; exact Blk.new _ _ _
  rw [← hW0]
  clear hW0
  have hq0 := hq.new_ hb0
  obtain ⟨i0, hi, hi0, hi1, hi2⟩ := info_parts info_Elem
  obtain ⟨I, hI⟩ : ∃ I : List Elem → World → Prop, I = fun p W => ∃ v, Blk W w.heap.size 68 #[v] ∧ W.ownsRow (w.heap.size + 1) 72 12 v p.length (p.flatMap Elem.cells) ∧ ∃ W1 W2, Below w.heap.size w W1 ∧ start W1 W2 ∧ Below w.heap.size W2 W := ⟨_, rfl⟩
  have hIP : ∀ p X Y, I p X → Priv W0.heap.size X Y → I p Y := by
    subst hI
    rintro p X Y ⟨v, h1, h2, W1, W2, h3, h4, h5⟩ hp
    exact ⟨v, h1.priv hp, ownsRow_priv h2 hp, W1, W2, h3, h4, Below.priv' h5 hp (by omega) (Nat.le_of_lt h1.lt)⟩
  refine wpIn_range (w := W0) (by rfl) hq0.enter hq0.iter (fun x => by rfl) hq0.trans hq0.keep (fun W W1 h => keepsFrom_of_fr (hq0.mods W W1 h)) I (fun _ _ _ => False) hIP (fun _ _ _ _ h => h.elim) ?_ ?_ ?_ ?_
  · intro W W1 hW hs
    subst hI
    refine ⟨.slice none 0 0, (hB0.new_ hW).fr (hq.mods W W1 hs) (Nat.lt_irrefl _), owns_nil _ _ _ _, W, W1, hb0.trans (hW.mono (by omega)), hs, Below.refl _ _⟩
  · intro lo pre x post W hx hlo hIW
    have hx' : xs.length = pre.length + (post.length + 1) := by rw [hx]; simp
    have HX := Lib.hid hx
    clear hx
    rw [hI] at hIW
    obtain ⟨v, h1, h2, W1, W2, h3, h4, h5⟩ := hIW
    have HH := Lib.hid (⟨h3, h4, h5⟩ : Below w.heap.size w W1 ∧ start W1 W2 ∧ Below w.heap.size W2 W)
    clear h3 h4 h5
    have hlt := h1.lt
    have HI := Lib.hid hI
    have HB := Lib.hid h1
    have HO := Lib.hid h2
    have HQW := Lib.hid hq
    clear h1 h2 hq hq0 hIP hI hbe hb0 hB0
    simp only [encElem, Array.zip]
    gi_wp2_with fail
    refine ⟨KeepsFrom.alloc_ (KeepsFrom.of_fr (Fr.refl (fun _ => False) W) (fun _ h => h.elim) _) _, fun W3 hp3 hz3 _ => ?_⟩
    have hx3 : Blk W3 W.heap.size 72 #[Value.int IntKind.i64 x.id.kind, Value.string x.id.text, Value.int IntKind.i64 x.id.n, Value.int IntKind.i64 x.attr.kind, Value.string x.attr.text, Value.int IntKind.i64 x.attr.n, Value.int IntKind.i64 x.value.kind, Value.string x.value.text, Value.int IntKind.i64 x.value.n, Value.bool x.acc, Value.bool x.goal, Value.int IntKind.i64 x.tag] := (Blk.new W 72 #[Value.int IntKind.i64 x.id.kind, Value.string x.id.text, Value.int IntKind.i64 x.id.n, Value.int IntKind.i64 x.attr.kind, Value.string x.attr.text, Value.int IntKind.i64 x.attr.n, Value.int IntKind.i64 x.value.kind, Value.string x.value.text, Value.int IntKind.i64 x.value.n, Value.bool x.acc, Value.bool x.goal, Value.int IntKind.i64 x.tag]).priv hp3
    have x0 := hx3.cell 0
    have x1 := hx3.cell 1
    have x2 := hx3.cell 2
    have x3 := hx3.cell 3
    have x4 := hx3.cell 4
    have x5 := hx3.cell 5
    have x6 := hx3.cell 6
    have x7 := hx3.cell 7
    have x8 := hx3.cell 8
    have x9 := hx3.cell 9
    have x10 := hx3.cell 10
    have x11 := hx3.cell 11
    simp only [List.getElem?_toArray, List.getElem?_cons_zero, List.getElem?_cons_succ] at x0 x1 x2 x3 x4 x5 x6 x7 x8 x9 x10 x11
    have HX3 := Lib.hid hx3
    have hB3 : Blk W3 w.heap.size 68 #[v] := (HB.out.alloc _).priv hp3
    have hO3 : W3.ownsRow (w.heap.size + 1) 72 12 v pre.length (pre.flatMap Elem.cells) := ownsRow_priv (owns_below HO.out ((Below.refl _ _).alloc (Nat.le_refl _) _)) hp3
    have hF3 : Fr (fun k => W0.heap.size ≤ k) W W3 := ((Fr.refl _ W).alloc _).into (Fr.of_priv hp3) (fun k hk => .inl hk)
    have p0 := hB3.cell 0
    have f0 := hB3.frozen 0
    have hsz3 : W3.heap.size = W.heap.size + 1 := by rw [hz3]; simp
    have HZ3 := Lib.hid hsz3
    clear hsz3
    have HB3 := Lib.hid hB3
    have HO3 := Lib.hid hO3
    have HP3 := Lib.hid hp3
    have HF3 := Lib.hid hF3
    clear hB3 hO3 hp3 hF3 hx3 hz3
    simp only [List.getElem?_toArray, List.getElem?_cons_zero] at p0
    gi_wp2_with (gi_at_builtin; refine wpListIn_append_own _ rfl _ _ 68 rfl (w.heap.size + 1) 72 i0 _ 12 112 Try.underlying68 hi hi0 hi1 hi2 rfl (by decide) v pre.length (pre.flatMap Elem.cells) rfl (owns_below HO3.out ((Below.refl _ _).alloc (Nat.le_refl _) _)) ⟨W3.heap.size, 0, none⟩ 1 1 (Elem.cells x) rfl rfl (World.news_of_block (heap_alloc_new _ _)) (Elem.one x) (by unfold maxLen; omega) (by omega) (by have := HZ3.out; simp; omega) ?_; intro v' w4 hown hg hnil; obtain ⟨A', c', rfl, hA'⟩ := owns_form hown; have hB4 := (HB3.out.alloc (.cells #[Value.int IntKind.i64 x.id.kind, Value.string x.id.text, Value.int IntKind.i64 x.id.n, Value.int IntKind.i64 x.attr.kind, Value.string x.attr.text, Value.int IntKind.i64 x.attr.n, Value.int IntKind.i64 x.value.kind, Value.string x.value.text, Value.int IntKind.i64 x.value.n, Value.bool x.acc, Value.bool x.goal, Value.int IntKind.i64 x.tag] 72)).grown hg (fun h => absurd (owns_block HO3.out _ h) (by omega)); have p4 := (hB4.cell 0).trans rfl; have f4 := hB4.frozen 0; have HB4 := Lib.hid hB4; have HG := Lib.hid hg; have HO4 := Lib.hid hown; clear hB4 hg hown hnil p0 f0)
    have hI := HI.out
    subst hI
    obtain ⟨h3, h4, h5⟩ := HH.out
    have hbl : Below (w.heap.size + 1) W w4 := ((Fr.below HF3.out (by omega) (fun k hk h => by omega) : Below (w.heap.size + 1) W W3).alloc (by have := HZ3.out; omega) _).grown HG.out (by have := HZ3.out; simp; omega) (fun k hk => owns_block HO3.out k hk)
    have hbl2 : Below w.heap.size W (w4.setCell ⟨w.heap.size, 0, none⟩ (.slice A' (pre.length + 1) c')) := (hbl.mono (by omega)).setCell (by simp) _
    refine ⟨KeepsFrom.set_ (KeepsFrom.grown_ (KeepsFrom.alloc_ (KeepsFrom.of_fr (Fr.refl (fun _ => False) W3) (fun _ h => h.elim) _) _) HG.out (fun k e _ => owns_cells HO3.out k e)) _ _, HQW.out.below _ _ hbl2, .slice A' (pre.length + 1) c', HB4.out.set_ 0 _, ?_, W1, W2, h3, h4, h5.trans hbl2⟩
    have e1 : (pre ++ [x]).length = pre.length + 1 := by simp
    have e2 : (pre ++ [x]).flatMap Elem.cells = pre.flatMap Elem.cells ++ Elem.cells x := by simp
    rw [e1, e2]
    refine ownsRow_setCell_other (a := ⟨w.heap.size, 0, none⟩) HO4.out (fun h => absurd (owns_block HO4.out _ h) (by simp)) _
  · intro D W hD hIW hK
    subst hI
    obtain ⟨v, h1, h2, W1, W2, h3, h4, h5⟩ := hIW
    have p0 := h1.cell 0
    obtain ⟨A, c, rfl, hA⟩ := owns_form h2
    have HO := Lib.hid h2
    have HH := Lib.hid (⟨h3, h4, h5⟩ : Below w.heap.size w W1 ∧ start W1 W2 ∧ Below w.heap.size W2 W)
    have HA := Lib.hid hA
    have HK := Lib.hid hK
    have hlt := h1.lt
    simp only [List.getElem?_toArray, List.getElem?_cons_zero] at p0
    clear hq hq0 hIP hbe hb0 hB0 h1 h2 h3 h4 h5 hA hK
    gi_wp2_with fail
    refine ⟨by simp, .inl ⟨_, _, rfl, run_takeDeferred HK.out, ?_⟩⟩
    obtain ⟨h3, h4, h5⟩ := HH.out
    have hpv : Priv w.heap.size W (W.putObj D (.deferred none)) := (Priv.refl _ _).putObj (by omega) HK.out rfl _
    refine ⟨_, results_tmp rfl _ _ _, A, c, rfl, owns_base (ownsRow_priv HO.out hpv) (Nat.zero_le _), HA.out.mono (fun k hk => by omega), W1, W2, h3, h4, Below.priv' h5 hpv (Nat.le_refl _) (Nat.le_of_lt hlt)⟩
  · intro D c pre post W _ _ h
    exact h.elim
end Go.Proofs.Ythhhhjllpejpgaa
