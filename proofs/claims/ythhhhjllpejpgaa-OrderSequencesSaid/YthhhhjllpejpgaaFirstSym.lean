/-
  ponderkeep.First at ponder/api.Sym: the first n things of a sequence, which is left then.
-/
import Derived.Test.YthhhhjllpejpgaaListSym
namespace Go.Proofs.Ythhhhjllpejpgaa
open Go.RowKit Go.Shelf
attribute [local go_sem] Oper.semAt_some
set_option maxHeartbeats 400000 in
theorem first_no_Sym (gf : Nat) (lb : Array Value) (n : Int) (hn : n < 1) (w : World) :
    Calls Try.prog 31 #[.func (.func gf) #[] lb, .int .i64 n] w fun e w' => e = .returned (.slice none 0 0) ∧ Below w.heap.size w w' := by
  have hbe : ∀ W, (binOp .eql 30 (.func (.func gf) #[] lb) .nilFunc).run Try.prog W = .ok (.bool false) W := fun W => by kernel_rfl
  refine (callsIn_wide (n := 0)).1 ?_
  refine callsIn_of_wp_marks Try.func31 rfl trivial ?_
  simp only [Try.ntmps31, List.size_toArray, List.length_cons, List.length_nil, Nat.reduceAdd, Nat.reduceSub, Array.replicate_succ, Array.replicate_zero, List.push_toArray, List.append_toArray, List.nil_append, List.cons_append]
  gi_wp2_with fail
  exact ⟨_, results_tmp rfl _ _ _, rfl, ((Below.refl _ _).alloc (Nat.le_refl _) _).alloc (by simp) _⟩
set_option maxRecDepth 100000 in
set_option maxHeartbeats 2000000 in
theorem first_Sym (gf : Nat) (lb : Array Value) (n : Nat) (hn : 0 < n) (xs : List Sym) (w : World) (start Kp : World → World → Prop) (hq : Seq gf lb encSym xs w start Kp) (hl : (xs.length : Int) ≤ 100000000) :
    Calls Try.prog 31 #[.func (.func gf) #[] lb, .int .i64 n] w (ListPostSym w start (xs.take n)) := by
  have hbe : ∀ W, (binOp .eql 30 (.func (.func gf) #[] lb) .nilFunc).run Try.prog W = .ok (.bool false) W := fun W => by kernel_rfl
  have hn1 : ¬ (n : Int) < 1 := by omega
  refine (callsIn_wide (n := 0)).1 ?_
  refine callsIn_of_wp_marks Try.func31 rfl trivial ?_
  simp only [Try.ntmps31, List.size_toArray, List.length_cons, List.length_nil, Nat.reduceAdd, Nat.reduceSub, Array.replicate_succ, Array.replicate_zero, List.push_toArray, List.append_toArray, List.nil_append, List.cons_append]
  gi_wp2_with fail
  obtain ⟨pg, hpg⟩ : ∃ pg, pg = w.heap.size + 1 := ⟨_, rfl⟩
  obtain ⟨pn, hpn⟩ : ∃ pn, pn = w.heap.size := ⟨_, rfl⟩
  obtain ⟨W0, hW0⟩ : ∃ W0, W0 = (w.alloc (.cells #[.int .i64 n] 3)).alloc (.cells #[.slice none 0 0] 22) := ⟨_, rfl⟩
  have hb0 : Below w.heap.size w W0 := by rw [hW0]; exact ((Below.refl _ _).alloc (Nat.le_refl _) _).alloc (by simp) _
  have hz0 : W0.heap.size = w.heap.size + 2 := by rw [hW0]; simp
  have hN0 : Blk W0 pn 3 #[.int .i64 n] := by rw [hW0, hpn]; exact (Blk.new w _ _).alloc _
  have hB0 : Blk W0 pg 22 #[.slice none 0 0] := by
    rw [hW0, hpg]
    have := Blk.new (w.alloc (.cells #[.int .i64 n] 3)) 22 #[.slice none 0 0]
    simpa using this
  rw [← hpg, ← hpn, ← hW0]
  clear hW0
  have hq0 := hq.new_ hb0
  obtain ⟨i0, hi, hi0, hi1, hi2⟩ := info_parts info_Sym
  obtain ⟨I0, hI0⟩ : ∃ I0 : List Sym → World → Prop, I0 = fun p W => ∃ v, Blk W pg 22 #[v] ∧ W.ownsRow (w.heap.size + 2) 27 3 v p.length (p.flatMap Sym.cells) ∧ Blk W pn 3 #[.int .i64 n] ∧ ∃ W1 W2, Below w.heap.size w W1 ∧ start W1 W2 ∧ Below w.heap.size W2 W := ⟨_, rfl⟩
  have hIP : ∀ p X Y, I0 p X → Priv W0.heap.size X Y → I0 p Y := by
    subst hI0
    rintro p X Y ⟨v, h1, h2, h6, W1, W2, h3, h4, h5⟩ hp
    exact ⟨v, h1.priv hp, ownsRow_priv h2 hp, h6.priv hp, W1, W2, h3, h4, Below.priv' h5 hp (by omega) (by have := h1.lt; omega)⟩
  have HPG := Lib.hid hpg
  have HPN := Lib.hid hpn
  have HZ0 := Lib.hid hz0
  have hgn : pg ≠ pn := by omega
  have hpg0 : pg < W0.heap.size := hB0.lt
  have hpn0 : pn < W0.heap.size := hN0.lt
  have hpgw : w.heap.size < pg := by omega
  have hpnw : w.heap.size ≤ pn := by omega
  clear hpg hpn hz0
  refine wpIn_range (w := W0) (by rfl) hq0.enter hq0.iter (fun x => by rfl) hq0.trans hq0.keep (fun W W1 h => keepsFrom_of_fr (hq0.mods W W1 h)) (fun p W => I0 p W ∧ p.length < n) (fun c p W => c = .exit 0 ∧ I0 p W ∧ p.length = n)
    (fun p X Y h hp => ⟨hIP p X Y h.1 hp, h.2⟩) (fun c p X Y h hp => ⟨h.1, hIP p X Y h.2.1 hp, h.2.2⟩) ?_ ?_ ?_ ?_
  · intro W W1 hW hs
    subst hI0
    refine ⟨⟨.slice none 0 0, (hB0.new_ hW).fr (hq.mods W W1 hs) (by omega), owns_nil _ _ _ _, ?_, W, W1, hb0.trans (hW.mono hb0.size), hs, Below.refl _ _⟩, hn⟩
    exact (hN0.new_ hW).fr ((hq0.mods W W1 hs).mono (fun k hk h => h)) |> fun _ => by
      have h1 := hN0.new_ hW
      exact h1.fr (hq.mods W W1 hs) (by have := HPN.out; omega)
  · intro lo pre x post W hx hlo hIW
    have hx' : xs.length = pre.length + (post.length + 1) := by rw [hx]; simp
    clear hx
    obtain ⟨hIW, hpn⟩ := hIW
    rw [hI0] at hIW
    obtain ⟨v, h1, h2, h6, W1, W2, h3, h4, h5⟩ := hIW
    have HH := Lib.hid (⟨h3, h4, h5⟩ : Below w.heap.size w W1 ∧ start W1 W2 ∧ Below w.heap.size W2 W)
    clear h3 h4 h5
    have hlt := h1.lt
    have HI := Lib.hid hI0
    have HB := Lib.hid h1
    have HO := Lib.hid h2
    have HNN := Lib.hid h6
    have HQW := Lib.hid hq
    clear h1 h2 h6 hq hq0 hIP hI0 hbe hb0 hB0 hN0
    simp only [encSym, Array.zip]
    gi_wp2_with fail
    refine ⟨KeepsFrom.alloc_ (KeepsFrom.of_fr (Fr.refl (fun _ => False) W) (fun _ h => h.elim) _) _, ?_⟩
    intro W3 hp3 hz3 hloop
    clear hloop
    have hx3 : Blk W3 W.heap.size 27 #[Value.int IntKind.i64 x.kind, Value.string x.text, Value.int IntKind.i64 x.n] := (Blk.new W 27 #[Value.int IntKind.i64 x.kind, Value.string x.text, Value.int IntKind.i64 x.n]).priv hp3
    have x0 := hx3.cell 0
    have x1 := hx3.cell 1
    have x2 := hx3.cell 2
    simp only [List.getElem?_toArray, List.getElem?_cons_zero, List.getElem?_cons_succ] at x0 x1 x2
    have HX3 := Lib.hid hx3
    have hB3 : Blk W3 pg 22 #[v] := (HB.out.alloc _).priv hp3
    have hN3 : Blk W3 pn 3 #[.int .i64 n] := (HNN.out.alloc _).priv hp3
    have hO3 : W3.ownsRow (w.heap.size + 2) 27 3 v pre.length (pre.flatMap Sym.cells) := ownsRow_priv (owns_below HO.out ((Below.refl _ _).alloc (Nat.le_refl _) _)) hp3
    have hF3 : Fr (fun k => W0.heap.size ≤ k) W W3 := ((Fr.refl _ W).alloc _).into (Fr.of_priv hp3) (fun k hk => .inl hk)
    have p0 := hB3.cell 0
    have f0 := hB3.frozen 0
    have hsz3 : W3.heap.size = W.heap.size + 1 := by rw [hz3]; simp
    have HZ3 := Lib.hid hsz3
    clear hsz3
    have HB3 := Lib.hid hB3
    have HN3 := Lib.hid hN3
    have HO3 := Lib.hid hO3
    have HF3 := Lib.hid hF3
    clear hB3 hO3 hp3 hF3 hx3 hz3 hN3
    simp only [List.getElem?_toArray, List.getElem?_cons_zero] at p0
    have hdec : n ≤ pre.length + 1 ∨ ¬ n ≤ pre.length + 1 := by omega
    rcases hdec with hd | hd
    · have hde : n = pre.length + 1 := by omega
      gi_wp2_with (gi_at_builtin; refine wpListIn_append_own _ rfl _ _ 22 rfl (w.heap.size + 2) 27 i0 _ 3 32 Try.underlying22 hi hi0 hi1 hi2 rfl (by decide) v pre.length (pre.flatMap Sym.cells) rfl (owns_below HO3.out ((Below.refl _ _).alloc (Nat.le_refl _) _)) ⟨W3.heap.size, 0, none⟩ 1 1 (Sym.cells x) rfl rfl (World.news_of_block (heap_alloc_new _ _)) (Sym.one x) (by unfold maxLen; omega) (by omega) (by have := HZ3.out; have := HPG.out; simp; omega) ?_; intro v' w4 hown hg hnil; obtain ⟨A', c', rfl, hA'⟩ := owns_form hown; have hB4 := (HB3.out.alloc (.cells #[Value.int IntKind.i64 x.kind, Value.string x.text, Value.int IntKind.i64 x.n] 27)).grown hg (fun h => absurd (owns_block HO3.out _ h) (by have := HPG.out; omega)); have p4 := (hB4.cell 0).trans rfl; have f4 := hB4.frozen 0; have hN4 := (HN3.out.alloc (.cells #[Value.int IntKind.i64 x.kind, Value.string x.text, Value.int IntKind.i64 x.n] 27)).grown hg (fun h => absurd (owns_block HO3.out _ h) (by have := HPN.out; omega)); have n4 : w4.cell? ⟨pn, 0, none⟩ = some (.int .i64 n) := (hN4.cell 0).trans rfl; have HB4 := Lib.hid hB4; have HN4 := Lib.hid hN4; have HG := Lib.hid hg; have HO4 := Lib.hid hown; clear hB4 hN4 hg hown hnil p0 f0)
      have hI := HI.out
      obtain ⟨h3, h4, h5⟩ := HH.out
      have hz4 := HG.out.size
      have hbl : Below pg W w4 := ((Fr.below HF3.out (by omega) (fun k hk h => by omega) : Below pg W W3).alloc (by have := HZ3.out; omega) _).grown HG.out (by have := HZ3.out; simp; omega) (fun k hk => by have := owns_block HO3.out k hk; have := HPG.out; omega)
      have hbl2 : Below w.heap.size W (w4.setCell ⟨pg, 0, none⟩ (.slice A' (pre.length + 1) c')) := (hbl.mono (by omega)).setCell (by simp only; omega) _
      have final : I0 (pre ++ [x]) (w4.setCell ⟨pg, 0, none⟩ (.slice A' (pre.length + 1) c')) := by
        rw [hI]
        have e1 : (pre ++ [x]).length = pre.length + 1 := by simp
        have e2 : (pre ++ [x]).flatMap Sym.cells = pre.flatMap Sym.cells ++ Sym.cells x := by simp
        refine ⟨.slice A' (pre.length + 1) c', HB4.out.set_ 0 _, ?_, HN4.out.far (fun h => hgn h.symm) _, W1, W2, h3, h4, h5.trans hbl2⟩
        rw [e1, e2]
        exact ownsRow_setCell_other (a := ⟨pg, 0, none⟩) HO4.out (fun h => absurd (owns_block HO4.out _ h) (by have := HPG.out; simp; omega)) _
      exact ⟨KeepsFrom.set_ (KeepsFrom.grown_ (KeepsFrom.alloc_ (KeepsFrom.of_fr (Fr.refl (fun _ => False) W3) (fun _ h => h.elim) _) _) HG.out (fun k e _ => owns_cells HO3.out k e)) _ _, rfl, final, by simp; omega⟩
    · gi_wp2_with (gi_at_builtin; refine wpListIn_append_own _ rfl _ _ 22 rfl (w.heap.size + 2) 27 i0 _ 3 32 Try.underlying22 hi hi0 hi1 hi2 rfl (by decide) v pre.length (pre.flatMap Sym.cells) rfl (owns_below HO3.out ((Below.refl _ _).alloc (Nat.le_refl _) _)) ⟨W3.heap.size, 0, none⟩ 1 1 (Sym.cells x) rfl rfl (World.news_of_block (heap_alloc_new _ _)) (Sym.one x) (by unfold maxLen; omega) (by omega) (by have := HZ3.out; have := HPG.out; simp; omega) ?_; intro v' w4 hown hg hnil; obtain ⟨A', c', rfl, hA'⟩ := owns_form hown; have hB4 := (HB3.out.alloc (.cells #[Value.int IntKind.i64 x.kind, Value.string x.text, Value.int IntKind.i64 x.n] 27)).grown hg (fun h => absurd (owns_block HO3.out _ h) (by have := HPG.out; omega)); have p4 := (hB4.cell 0).trans rfl; have f4 := hB4.frozen 0; have hN4 := (HN3.out.alloc (.cells #[Value.int IntKind.i64 x.kind, Value.string x.text, Value.int IntKind.i64 x.n] 27)).grown hg (fun h => absurd (owns_block HO3.out _ h) (by have := HPN.out; omega)); have n4 : w4.cell? ⟨pn, 0, none⟩ = some (.int .i64 n) := (hN4.cell 0).trans rfl; have HB4 := Lib.hid hB4; have HN4 := Lib.hid hN4; have HG := Lib.hid hg; have HO4 := Lib.hid hown; clear hB4 hN4 hg hown hnil p0 f0)
      have hI := HI.out
      obtain ⟨h3, h4, h5⟩ := HH.out
      have hz4 := HG.out.size
      have hbl : Below pg W w4 := ((Fr.below HF3.out (by omega) (fun k hk h => by omega) : Below pg W W3).alloc (by have := HZ3.out; omega) _).grown HG.out (by have := HZ3.out; simp; omega) (fun k hk => by have := owns_block HO3.out k hk; have := HPG.out; omega)
      have hbl2 : Below w.heap.size W (w4.setCell ⟨pg, 0, none⟩ (.slice A' (pre.length + 1) c')) := (hbl.mono (by omega)).setCell (by simp only; omega) _
      have final : I0 (pre ++ [x]) (w4.setCell ⟨pg, 0, none⟩ (.slice A' (pre.length + 1) c')) := by
        rw [hI]
        have e1 : (pre ++ [x]).length = pre.length + 1 := by simp
        have e2 : (pre ++ [x]).flatMap Sym.cells = pre.flatMap Sym.cells ++ Sym.cells x := by simp
        refine ⟨.slice A' (pre.length + 1) c', HB4.out.set_ 0 _, ?_, HN4.out.far (fun h => hgn h.symm) _, W1, W2, h3, h4, h5.trans hbl2⟩
        rw [e1, e2]
        exact ownsRow_setCell_other (a := ⟨pg, 0, none⟩) HO4.out (fun h => absurd (owns_block HO4.out _ h) (by have := HPG.out; simp; omega)) _
      exact ⟨KeepsFrom.set_ (KeepsFrom.grown_ (KeepsFrom.alloc_ (KeepsFrom.of_fr (Fr.refl (fun _ => False) W3) (fun _ h => h.elim) _) _) HG.out (fun k e _ => owns_cells HO3.out k e)) _ _, HQW.out.below _ _ hbl2, final, by simp; omega⟩
  · rintro Dd W hDd ⟨hIW, hln⟩ hK
    subst hI0
    have ht : xs.take n = xs := List.take_of_length_le (by omega)
    have HT := Lib.hid ht
    clear ht
    obtain ⟨v, h1, h2, h6, W1, W2, h3, h4, h5⟩ := hIW
    have p0 := h1.cell 0
    obtain ⟨A, c, rfl, hA⟩ := owns_form h2
    have HO := Lib.hid h2
    have HH := Lib.hid (⟨h3, h4, h5⟩ : Below w.heap.size w W1 ∧ start W1 W2 ∧ Below w.heap.size W2 W)
    have HA := Lib.hid hA
    have HK := Lib.hid hK
    have hlt := h1.lt
    simp only [List.getElem?_toArray, List.getElem?_cons_zero] at p0
    clear hq hq0 hIP hbe hb0 hB0 hN0 h1 h2 h3 h4 h5 h6 hA hK
    gi_wp2_with fail
    refine ⟨by simp, .inl ⟨_, _, rfl, run_takeDeferred HK.out, ?_⟩⟩
    rw [HT.out]
    obtain ⟨h3, h4, h5⟩ := HH.out
    have hpv : Priv w.heap.size W (W.putObj Dd (.deferred none)) := (Priv.refl _ _).putObj (by omega) HK.out rfl _
    refine ⟨_, results_tmp rfl _ _ _, A, c, (by first | rfl | (rw [hlen]; rfl)), owns_base (ownsRow_priv HO.out hpv) (Nat.zero_le _), HA.out.mono (fun k hk => by omega), W1, W2, h3, h4, Below.priv' h5 hpv (Nat.le_refl _) (by omega)⟩
  · rintro Dd c pre post W hDd hxs ⟨rfl, hIW, hlen⟩ hK
    subst hI0
    have ht : xs.take n = pre := by rw [hxs, ← hlen]; simp
    have HT := Lib.hid ht
    clear ht
    obtain ⟨v, h1, h2, h6, W1, W2, h3, h4, h5⟩ := hIW
    have p0 := h1.cell 0
    obtain ⟨A, c, rfl, hA⟩ := owns_form h2
    have HO := Lib.hid h2
    have HH := Lib.hid (⟨h3, h4, h5⟩ : Below w.heap.size w W1 ∧ start W1 W2 ∧ Below w.heap.size W2 W)
    have HA := Lib.hid hA
    have HK := Lib.hid hK
    have hlt := h1.lt
    simp only [List.getElem?_toArray, List.getElem?_cons_zero] at p0
    clear hq hq0 hIP hbe hb0 hB0 hN0 h1 h2 h3 h4 h5 h6 hA hK
    gi_wp2_with fail
    refine ⟨by simp, .inl ⟨_, _, rfl, run_takeDeferred HK.out, ?_⟩⟩
    rw [HT.out]
    obtain ⟨h3, h4, h5⟩ := HH.out
    have hpv : Priv w.heap.size W (W.putObj Dd (.deferred none)) := (Priv.refl _ _).putObj (by omega) HK.out rfl _
    refine ⟨_, results_tmp rfl _ _ _, A, c, (by first | rfl | (rw [hlen]; rfl)), owns_base (ownsRow_priv HO.out hpv) (Nat.zero_le _), HA.out.mono (fun k hk => by omega), W1, W2, h3, h4, Below.priv' h5 hpv (Nat.le_refl _) (by omega)⟩
end Go.Proofs.Ythhhhjllpejpgaa
