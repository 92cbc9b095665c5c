/-
  Texts put together: BkState3, KitSyms.
-/
import Derived.Test.YtnfgilbaglfkeaaBh
import Derived.Test.YtnfgilbaglfkeaaBe
namespace Go.Proofs.Ytnfgilbaglfkeaa
open Go.RowKit
section
variable {K : Nat → Prop} {w w' : World}
theorem grown_only {e : TypeId} {size n : Nat} {v : Value} {xs : List Value} (h : w.ownsRow 0 e size v n xs) (hg : w.grownBy w' v.ownBlock) : Only [e] w w' := fun g t cs hn hb => hb.grown hg (own_blk_ne h hb (fun e => hn (by simp [e])))
theorem mine_grown {e : TypeId} {size n : Nat} {v : Value} {xs : List Value} (h : w.ownsRow 0 e size v n xs) (hg : w.grownBy w' v.ownBlock) (hK : ∀ k, v.ownBlock = some k → ¬ K k) : Mine [e] K w w' :=
 ⟨grown_only h hg, (Fr.refl _ w).grown hg (fun k hk => .inl (hK k hk))⟩
theorem own_new {v v' : Value} (hl : ∀ k, K k → k < w.heap.size) (hK : ∀ k, v.ownBlock = some k → ¬ K k) (hat : v'.ownBlock = v.ownBlock ∨ v'.ownBlock = some w.heap.size) : ∀ k, v'.ownBlock = some k → ¬ K k := fun k hk => by
 rcases hat with h | h
 · exact hK k (h ▸ hk)
 · rw [h] at hk
   injection hk with hk
   intro hq
   have := hl k hq
   omega
end
section
variable {n B : Nat} {K C : Nat → Prop} {w : World} {gt gm gp ns : Nat} {vis lost : Int} {es : List TraceT} {gs : List PgT} {hs : List HoleT} {ap : List ApartT} {nw : List Sym} {v0 v1 v2 v3 : Value}
theorem SR.theirs {M K' : Nat → Prop} {w' : World} (h : SR n B K C w gt gm gp ns vis lost es gs hs ap nw v0 v1 v2 v3) (hF : Fr M w w') (hM : ∀ k, M k → K k ∧ ¬ C k) (hK : ∀ k, K' k → K k ∨ w.heap.size ≤ k) (hC : ∀ k, C k → K' k) (hl : ∀ k, K' k → k < w'.heap.size) : SR n B K' C w' gt gm gp ns vis lost es gs hs ap nw v0 v1 v2 v3 := by
 have h2 := h.frB hF hM
 have up : ∀ k, k < w.heap.size → K' k → K k := fun k hk hq => (hK k hq).elim id (fun hq => by omega)
 obtain ⟨sn, A, c, g1, g2, g3⟩ := h.set_
 obtain ⟨m1, m2, sn2, A2, c2, p1, p2, p3⟩ := h.map_
 have hs2 : OSym (fun k => K' k ∨ v3.ownBlock = some k) w' ns (puts cmpSym [] nw) :=
  ⟨sn, A, c, g1.fr hF (fun hm => g2 (.inl (hM _ hm).1)) (fun a ha hm => g3 a ha (.inl (hM _ hm).1)), fun hq => g2 (hq.imp (up _ g1.lt) id), fun a ha hq => g3 a ha (hq.imp (up _ (g1.row_lt a ha)) id)⟩
 have hm2 : OMapT K' w' gm gp gs := h.map_.theirs hF (fun k hm => (hM k hm).1) hK
 exact ⟨h2.blk, h2.o0, fun k e hq => h.n0 k e (up k (own_lt h.o0 k e) hq), h2.o1, fun k e hq => h.n1 k e (up k (h.o1.lt k e) hq), h2.o2, fun k e hq => h.n2 k e (up k (own_lt h.o2 k e) hq), h2.o3, fun k e hq => h.n3 k e (up k (own_lt h.o3 k e) hq), hs2, hm2, h.srt, fun hq => h.nog (up _ h.blk.lt hq), hC, hl, h2.cel⟩
theorem SR.elem {es' : List TraceT} {v0' : Value} {W W8 : World} (h : SR n B K C w gt gm gp ns vis lost es gs hs ap nw v0 v1 v2 v3) (hb : Below w.heap.size w W) (hown : W8.ownsRow 0 55 14 v0' es'.length (es'.flatMap TraceT.cells)) (hg : W.grownBy W8 v0.ownBlock) (hat : v0'.ownBlock = v0.ownBlock ∨ v0'.ownBlock = some W.heap.size) :
 SR n B K C (W8.setCell ⟨gt, 0, none⟩ v0') gt gm gp ns vis lost es' gs hs ap nw v0' v1 v2 v3 ∧ Fr (fun k => ¬ K k) w (W8.setCell ⟨gt, 0, none⟩ v0') := by
 obtain ⟨W9, hW9⟩ : ∃ W9, W9 = W8.setCell ⟨gt, 0, none⟩ v0' := ⟨_, rfl⟩
 have hm8 : Mine [55] K w W8 := (Mine.new_ hb).trans (mine_grown (h.new_ hb).o0 hg h.n0)
 have hb8 := hm8.only _ _ _ (by decide) h.blk
 have hm : Mine [55, 32] K w W9 := by rw [hW9]; exact (hm8.up (by simp)).trans (Mine.cell (p := ⟨gt, 0, none⟩) hb8 (by simp) h.nog v0')
 have hb9 : Blk W9 gt 32 #[v0', v1, v2, v3, .int .i64 vis, .int .i64 lost] := by rw [hW9]; exact hb8.set_ 0 _
 have ho9 : W9.ownsRow 0 55 14 v0' es'.length (es'.flatMap TraceT.cells) := by rw [hW9]; exact ownsRow_setCell_other (a := ⟨gt, 0, none⟩) hown (own_blk_ne hown hb8 (by decide)) _
 have hn9 := own_new (h.new_ hb).lt h.n0 hat
 rw [← hW9]
 obtain ⟨css, q1, q2, q3⟩ := h.o1
 obtain ⟨sn, A, c, g1, g2, g3⟩ := h.set_
 have hc : ∀ k, C k → k < w.heap.size → W9.heap[k]? = w.heap[k]? := fun k hk hl => hm.fr.block k hl (fun hn => hn (h.sub k hk))
 exact ⟨⟨hb9,
  ho9,
  hn9,
  ⟨css, ownsRow_only q1 hm.only (by decide), q2.imp fun a cs hr => (repHoleT n).keep hm.fr.size (fun k hk hl => ⟨hk, hc k hk hl⟩) hr, q3⟩,
  h.n1,
  ownsRow_only h.o2 hm.only (by decide),
  h.n2,
  ownsRow_only h.o3 hm.only (by decide),
  h.n3,
  ⟨sn, A, c, g1.only hm.only (by decide) (by decide), g2, g3⟩,
  h.map_.mine hm (by decide) (by decide) (by decide),
  h.srt,
  h.nog,
  h.sub,
  fun k hk => Nat.lt_of_lt_of_le (h.lt k hk) hm.fr.size,
  fun k hk => (h.cel k hk).imp id (fun ⟨c, t, f, hh⟩ => ⟨c, t, f, (hc k hk (Array.getElem?_eq_some_iff.1 hh).1).trans hh⟩)⟩, hm.fr⟩
theorem SR.apart {ap' : List ApartT} {v2' : Value} {W W8 : World} (h : SR n B K C w gt gm gp ns vis lost es gs hs ap nw v0 v1 v2 v3) (hb : Below w.heap.size w W) (hown : W8.ownsRow 0 111 7 v2' ap'.length (ap'.flatMap ApartT.cells)) (hg : W.grownBy W8 v2.ownBlock) (hat : v2'.ownBlock = v2.ownBlock ∨ v2'.ownBlock = some W.heap.size) :
 SR n B K C (W8.setCell ⟨gt, 2, none⟩ v2') gt gm gp ns vis lost es gs hs ap' nw v0 v1 v2' v3 ∧ Fr (fun k => ¬ K k) w (W8.setCell ⟨gt, 2, none⟩ v2') := by
 obtain ⟨W9, hW9⟩ : ∃ W9, W9 = W8.setCell ⟨gt, 2, none⟩ v2' := ⟨_, rfl⟩
 have hm8 : Mine [111] K w W8 := (Mine.new_ hb).trans (mine_grown (h.new_ hb).o2 hg h.n2)
 have hb8 := hm8.only _ _ _ (by decide) h.blk
 have hm : Mine [111, 32] K w W9 := by rw [hW9]; exact (hm8.up (by simp)).trans (Mine.cell (p := ⟨gt, 2, none⟩) hb8 (by simp) h.nog v2')
 have hb9 : Blk W9 gt 32 #[v0, v1, v2', v3, .int .i64 vis, .int .i64 lost] := by rw [hW9]; exact hb8.set_ 2 _
 have ho9 : W9.ownsRow 0 111 7 v2' ap'.length (ap'.flatMap ApartT.cells) := by rw [hW9]; exact ownsRow_setCell_other (a := ⟨gt, 2, none⟩) hown (own_blk_ne hown hb8 (by decide)) _
 have hn9 := own_new (h.new_ hb).lt h.n2 hat
 rw [← hW9]
 obtain ⟨css, q1, q2, q3⟩ := h.o1
 obtain ⟨sn, A, c, g1, g2, g3⟩ := h.set_
 have hc : ∀ k, C k → k < w.heap.size → W9.heap[k]? = w.heap[k]? := fun k hk hl => hm.fr.block k hl (fun hn => hn (h.sub k hk))
 exact ⟨⟨hb9,
  ownsRow_only h.o0 hm.only (by decide),
  h.n0,
  ⟨css, ownsRow_only q1 hm.only (by decide), q2.imp fun a cs hr => (repHoleT n).keep hm.fr.size (fun k hk hl => ⟨hk, hc k hk hl⟩) hr, q3⟩,
  h.n1,
  ho9,
  hn9,
  ownsRow_only h.o3 hm.only (by decide),
  h.n3,
  ⟨sn, A, c, g1.only hm.only (by decide) (by decide), g2, g3⟩,
  h.map_.mine hm (by decide) (by decide) (by decide),
  h.srt,
  h.nog,
  h.sub,
  fun k hk => Nat.lt_of_lt_of_le (h.lt k hk) hm.fr.size,
  fun k hk => (h.cel k hk).imp id (fun ⟨c, t, f, hh⟩ => ⟨c, t, f, (hc k hk (Array.getElem?_eq_some_iff.1 hh).1).trans hh⟩)⟩, hm.fr⟩
theorem SR.putN (h : SR n B K C w gt gm gp ns vis lost es gs hs ap nw v0 v1 v2 v3) (s : Sym) (hn : nw.length ≤ 1000000) :
 Calls Try.prog 45 #[.pointer (some ⟨ns, 0, none⟩), .agg #[.int .i64 s.kind, .string s.text, .int .i64 s.n]] w fun e w' => e = .returned (.bool (!has cmpSym (puts cmpSym [] nw) s)) ∧ OSym (fun k => K k ∨ v3.ownBlock = some k) w' ns (put cmpSym (puts cmpSym [] nw) s) ∧ Mine [139, 51] (fun k => K k ∨ v3.ownBlock = some k) w w' := by
 have hl : ∀ k, (K k ∨ v3.ownBlock = some k) → k < w.heap.size := fun k hk => hk.elim (h.lt k) (own_lt h.o3 k)
 have := length_puts_le tc_sym nw (l := []) Srt.nil
 exact oput_Sym s h.set_ (Srt.puts tc_sym nw Srt.nil) hl (by simp at this; omega)
theorem SR.old {w' : World} {s : Sym} (h : SR n B K C w gt gm gp ns vis lost es gs hs ap nw v0 v1 v2 v3) (hs' : s ∈ nw) (h1 : OSym (fun k => K k ∨ v3.ownBlock = some k) w' ns (put cmpSym (puts cmpSym [] nw) s)) (hm : Mine [139, 51] (fun k => K k ∨ v3.ownBlock = some k) w w') : SR n B K C w' gt gm gp ns vis lost es gs hs ap nw v0 v1 v2 v3 ∧ Fr (fun k => ¬ K k) w w' := by
 obtain ⟨W9, hW9⟩ : ∃ W9, W9 = w' := ⟨_, rfl⟩
 rw [← hW9] at h1 hm ⊢
 have hmK : Mine [139, 51] K w W9 := ⟨hm.only, hm.fr.mono (fun k _ hk hq => hk (.inl hq))⟩
 have ho : W9.ownsRow 0 51 3 v3 nw.length (nw.flatMap Sym.cells) := ownsRow_fr h.o3 hm.fr (fun k e hk => hk (.inr e))
 rw [put_has (by rw [has_putsS]; simpa using hs')] at h1
 obtain ⟨css, q1, q2, q3⟩ := h.o1
 obtain ⟨sn, A, c, g1, g2, g3⟩ := h.set_
 have hc : ∀ k, C k → k < w.heap.size → W9.heap[k]? = w.heap[k]? := fun k hk hl => hmK.fr.block k hl (fun hn => hn (h.sub k hk))
 exact ⟨⟨hmK.only _ _ _ (by decide) h.blk,
  ownsRow_only h.o0 hmK.only (by decide),
  h.n0,
  ⟨css, ownsRow_only q1 hmK.only (by decide), q2.imp fun a cs hr => (repHoleT n).keep hmK.fr.size (fun k hk hl => ⟨hk, hc k hk hl⟩) hr, q3⟩,
  h.n1,
  ownsRow_only h.o2 hmK.only (by decide),
  h.n2,
  ho,
  h.n3,
  h1,
  h.map_.mine hmK (by decide) (by decide) (by decide),
  h.srt,
  h.nog,
  h.sub,
  fun k hk => Nat.lt_of_lt_of_le (h.lt k hk) hmK.fr.size,
  fun k hk => (h.cel k hk).imp id (fun ⟨c, t, f, hh⟩ => ⟨c, t, f, (hc k hk (Array.getElem?_eq_some_iff.1 hh).1).trans hh⟩)⟩, hmK.fr⟩
theorem SR.news {s : Sym} {v3' : Value} {w5 W W8 : World} (h : SR n B K C w gt gm gp ns vis lost es gs hs ap nw v0 v1 v2 v3) (h1 : OSym (fun k => K k ∨ v3.ownBlock = some k) w5 ns (put cmpSym (puts cmpSym [] nw) s)) (hm5 : Mine [139, 51] (fun k => K k ∨ v3.ownBlock = some k) w w5) (hb : Below w5.heap.size w5 W)
 (hown : W8.ownsRow 0 51 3 v3' (nw ++ [s]).length ((nw ++ [s]).flatMap Sym.cells)) (hg : W.grownBy W8 v3.ownBlock) (hat : v3'.ownBlock = v3.ownBlock ∨ v3'.ownBlock = some W.heap.size) :
 SR n B K C (W8.setCell ⟨gt, 3, none⟩ v3') gt gm gp ns vis lost es gs hs ap (nw ++ [s]) v0 v1 v2 v3' ∧ Fr (fun k => ¬ K k) w (W8.setCell ⟨gt, 3, none⟩ v3') := by
 obtain ⟨W9, hW9⟩ : ∃ W9, W9 = W8.setCell ⟨gt, 3, none⟩ v3' := ⟨_, rfl⟩
 have hm5K : Mine [139, 51] K w w5 := ⟨hm5.only, hm5.fr.mono (fun k _ hk hq => hk (.inl hq))⟩
 have ho5 : w5.ownsRow 0 51 3 v3 nw.length (nw.flatMap Sym.cells) := ownsRow_fr h.o3 hm5.fr (fun k e hk => hk (.inr e))
 have hl5 : ∀ k, K k → k < W.heap.size := fun k hk => Nat.lt_of_lt_of_le (Nat.lt_of_lt_of_le (h.lt k hk) hm5.fr.size) hb.size
 have hmW : Mine [139, 51] K w W8 := (hm5K.trans (Mine.new_ hb)).trans ((mine_grown (ownsRow_new ho5 hb) hg h.n3).up (by simp))
 have hb8 := hmW.only _ _ _ (by decide) h.blk
 have hm : Mine [139, 51, 32] K w W9 := by rw [hW9]; exact (hmW.up (by simp only [List.mem_cons, List.not_mem_nil, or_false]; intro t ht; rcases ht with ht | ht <;> simp [ht])).trans (Mine.cell (p := ⟨gt, 3, none⟩) hb8 (by simp) h.nog v3')
 have hb9 : Blk W9 gt 32 #[v0, v1, v2, v3', .int .i64 vis, .int .i64 lost] := by rw [hW9]; exact hb8.set_ 3 _
 have ho9 : W9.ownsRow 0 51 3 v3' (nw ++ [s]).length ((nw ++ [s]).flatMap Sym.cells) := by rw [hW9]; exact ownsRow_setCell_other (a := ⟨gt, 3, none⟩) hown (own_blk_ne hown hb8 (by decide)) _
 have hn9 := own_new hl5 h.n3 hat
 have hset : OSym (fun k => K k ∨ v3'.ownBlock = some k) W9 ns (puts cmpSym [] (nw ++ [s])) := by
  rw [puts_snoc]
  obtain ⟨sn', A', c', e1, e2, e3⟩ := h1
  have e1W := e1.new_ hb
  have hgr : Fr (fun k => v3.ownBlock = some k) W W8 := (Fr.refl _ W).grown hg (fun k hk => .inl hk)
  have e18 := e1W.fr hgr (fun hk => e2 (.inr hk)) (fun a ha hk => e3 a ha (.inr hk))
  have hgt : ∀ k, k = gt → cellsAt W8 k := fun k e => e ▸ hb8.at_
  refine ⟨sn', A', c', ?_, fun hk => ?_, fun a ha hk => ?_⟩
  · rw [hW9]
    exact e18.fr (M := (· = gt)) ((Fr.refl (· = gt) W8).setCell (p := ⟨gt, 3, none⟩) (.inl rfl) _) (fun e => by have := e18.blk; rw [e] at this; exact this.ne_ hb8 (by decide) rfl) (fun a ha e => by
     subst ha
     exact own_blk_ne e18.row hb8 (by decide) (by simp [Value.ownBlock, e]))
  · rcases hk with hk | hk
    · exact e2 (.inl hk)
    · rcases hat with h9 | h9
      · exact e2 (.inr (h9 ▸ hk))
      · rw [h9] at hk; injection hk with hk; have := e1W.lt; omega
  · rcases hk with hk | hk
    · exact e3 a ha (.inl hk)
    · rcases hat with h9 | h9
      · exact e3 a ha (.inr (h9 ▸ hk))
      · rw [h9] at hk; injection hk with hk; have := e1W.row_lt a ha; omega
 rw [← hW9]
 obtain ⟨css, q1, q2, q3⟩ := h.o1
 obtain ⟨sn, A, c, g1, g2, g3⟩ := h.set_
 have hc : ∀ k, C k → k < w.heap.size → W9.heap[k]? = w.heap[k]? := fun k hk hl => hm.fr.block k hl (fun hn => hn (h.sub k hk))
 exact ⟨⟨hb9,
  ownsRow_only h.o0 hm.only (by decide),
  h.n0,
  ⟨css, ownsRow_only q1 hm.only (by decide), q2.imp fun a cs hr => (repHoleT n).keep hm.fr.size (fun k hk hl => ⟨hk, hc k hk hl⟩) hr, q3⟩,
  h.n1,
  ownsRow_only h.o2 hm.only (by decide),
  h.n2,
  ho9,
  hn9,
  hset,
  h.map_.mine hm (by decide) (by decide) (by decide),
  h.srt,
  h.nog,
  h.sub,
  fun k hk => Nat.lt_of_lt_of_le (h.lt k hk) hm.fr.size,
  fun k hk => (h.cel k hk).imp id (fun ⟨c, t, f, hh⟩ => ⟨c, t, f, (hc k hk (Array.getElem?_eq_some_iff.1 hh).1).trans hh⟩)⟩, hm.fr⟩
theorem SR.hole {hh : HoleT} {v1' : Value} {W W8 : World} (h : SR n B K C w gt gm gp ns vis lost es gs hs ap nw v0 v1 v2 v3) (hb : Below w.heap.size w W) (ha : Appended (repHoleT n) 76 (fun j => C j ∨ (NewD w.heap.size W j ∧ cellsAt W j)) W v1 (hs ++ [hh]) v1' W8) :
 SR n B (fun j => K j ∨ NewD w.heap.size W j) (fun j => C j ∨ (NewD w.heap.size W j ∧ cellsAt W j)) (W8.setCell ⟨gt, 1, none⟩ v1') gt gm gp ns vis lost es gs (hs ++ [hh]) ap nw v0 v1' v2 v3 ∧ Fr (fun k => ¬ K k) w (W8.setCell ⟨gt, 1, none⟩ v1') := by
 obtain ⟨W9, hW9⟩ : ∃ W9, W9 = W8.setCell ⟨gt, 1, none⟩ v1' := ⟨_, rfl⟩
 obtain ⟨a1, a2, a3⟩ := ha
 have hzW := hb.size
 have o1W := h.o1.new_ hb
 have hm8 : Mine [76] K w W8 := (Mine.new_ hb).trans (mine_grown (Classical.choose_spec o1W).1 a2 h.n1)
 have hb8 := hm8.only _ _ _ (by decide) h.blk
 have hm : Mine [76, 32] K w W9 := by rw [hW9]; exact (hm8.up (by simp)).trans (Mine.cell (p := ⟨gt, 1, none⟩) hb8 (by simp) h.nog v1')
 have hb9 : Blk W9 gt 32 #[v0, v1', v2, v3, .int .i64 vis, .int .i64 lost] := by rw [hW9]; exact hb8.set_ 1 _
 have hz9 := hm.fr.size
 have hltW : ∀ k, (v1.ownBlock = some k) → k < w.heap.size := fun k hk => h.o1.lt k hk
 have cW : ∀ j, NewD w.heap.size W j → W9.heap[j]? = W.heap[j]? := fun j hj => by
  rw [hW9, Below.heap_setCell _ _ _ _ (by dsimp only; have := h.blk.lt; have := hj.1; omega)]
  exact a2.block j hj.2 (fun e => by have := hltW j e.symm; have := hj.1; omega)
 have hz98 : W.heap.size ≤ W9.heap.size := by rw [hW9]; simpa using a2.size
 have ho9 : OwnC (repHoleT n) 76 (fun j => C j ∨ (NewD w.heap.size W j ∧ cellsAt W j)) W9 v1' (hs ++ [hh]) := by
  rw [hW9]
  refine a1.fr (M := (· = gt)) ((Fr.refl (· = gt) W8).setCell (p := ⟨gt, 1, none⟩) (.inl rfl) _) (fun j hj e => ?_) (fun j hj e => ?_)
  · subst e
    rcases hj with hj | hj
    · exact h.nog (h.sub _ hj)
    · have := h.blk.lt; have := hj.1.1; omega
  · subst e
    exact own_blk_ne (Classical.choose_spec a1).1 hb8 (by decide) hj
 have hn9 : ∀ k, v1'.ownBlock = some k → ¬ (K k ∨ NewD w.heap.size W k) := fun k hk hq => by
  rcases a3 with a3 | a3
  · rw [a3] at hk
    rcases hq with hq | hq
    · exact h.n1 k hk hq
    · have := hltW k hk; have := hq.1; omega
  · rw [a3] at hk; injection hk with hk
    rcases hq with hq | hq
    · have := h.lt k hq; omega
    · have := hq.2; omega
 have old : ∀ k, k < w.heap.size → (K k ∨ NewD w.heap.size W k) → K k := fun k hk hq => hq.elim id (fun hq => by have := hq.1; omega)
 rw [← hW9]
 obtain ⟨css, q1, q2, q3⟩ := h.o1
 obtain ⟨sn, A, c, g1, g2, g3⟩ := h.set_
 have hc : ∀ k, C k → k < w.heap.size → W9.heap[k]? = w.heap[k]? := fun k hk hl => hm.fr.block k hl (fun hn => hn (h.sub k hk))
 exact ⟨⟨hb9,
  ownsRow_only h.o0 hm.only (by decide),
  fun k e hq => h.n0 k e (old k (own_lt h.o0 k e) hq),
  ho9,
  hn9,
  ownsRow_only h.o2 hm.only (by decide),
  fun k e hq => h.n2 k e (old k (own_lt h.o2 k e) hq),
  ownsRow_only h.o3 hm.only (by decide),
  fun k e hq => h.n3 k e (old k (own_lt h.o3 k e) hq),
  ⟨sn, A, c, g1.only hm.only (by decide) (by decide), fun hq => g2 (hq.imp (old _ g1.lt) id), fun a ha hq => g3 a ha (hq.imp (old _ (g1.row_lt a ha)) id)⟩,
  ⟨hm.only _ _ _ (by decide) h.map_.1, fun hq => h.map_.2.1 (old _ h.map_.1.lt hq), by
   obtain ⟨sn2, A2, c2, p1, p2, p3⟩ := h.map_.2.2
   exact ⟨sn2, A2, c2, p1.only hm.only (by decide) (by decide), fun hq => p2 (old _ p1.lt hq), fun a ha hq => p3 a ha (old _ (p1.row_lt a ha) hq)⟩⟩,
  h.srt,
  fun hq => h.nog (old _ h.blk.lt hq),
  fun k hk => hk.imp (h.sub k) (fun hk => hk.1),
  fun k hk => hk.elim (fun hk => Nat.lt_of_lt_of_le (h.lt k hk) hz9) (fun hk => Nat.lt_of_lt_of_le hk.2 hz98),
  fun k hk => hk.elim (fun hk => (h.cel k hk).imp id (fun ⟨c, t, f, hh⟩ => ⟨c, t, f, (hc k hk (Array.getElem?_eq_some_iff.1 hh).1).trans hh⟩)) (fun hk => .inr (by obtain ⟨c, t, f, hh⟩ := hk.2; exact ⟨c, t, f, (cW k hk.1).trans hh⟩))⟩, hm.fr⟩
end
end Go.Proofs.Ytnfgilbaglfkeaa
namespace Go.Proofs.Ytnfgilbaglfkeaa
open Go.RowKit
theorem eql_sym (x y : Sym) (W : World) : (binOp .eql 51 (.agg #[.int .i64 x.kind, .string x.text, .int .i64 x.n]) (.agg #[.int .i64 y.kind, .string y.text, .int .i64 y.n])).run Try.prog W = .ok (.bool (decide (x = y))) W := by
 rw [run_eql_struct]
 go_simp
 by_cases h : x = y
 · subst h; simp
 · have h2 : ¬ (x.kind = y.kind ∧ x.text.toList = y.text.toList ∧ x.n = y.n) := fun ⟨h1, h2, h3⟩ => h (Sym.ext' h1 (toList_inj h2) h3)
   rw [decide_eq_false h]
   split
   · split
     · split
       · exact absurd ⟨by assumption, by assumption, by assumption⟩ h2
       · rfl
     · rfl
   · rfl
theorem neq_sym (x y : Sym) (W : World) : (binOp .neq 51 (.agg #[.int .i64 x.kind, .string x.text, .int .i64 x.n]) (.agg #[.int .i64 y.kind, .string y.text, .int .i64 y.n])).run Try.prog W = .ok (.bool (!decide (x = y))) W := by
 rw [run_neq_struct]
 go_simp
 by_cases h : x = y
 · subst h; simp
 · have h2 : ¬ (x.kind = y.kind ∧ x.text.toList = y.text.toList ∧ x.n = y.n) := fun ⟨h1, h2, h3⟩ => h (Sym.ext' h1 (toList_inj h2) h3)
   rw [decide_eq_false h]
   split
   · split
     · split
       · exact absurd ⟨by assumption, by assumption, by assumption⟩ h2
       · rfl
     · rfl
   · rfl
attribute [local go_sem] eql_sym neq_sym
def within (v n : Int) : Int := if n < 1 then 0 else v % n
theorem sym_at {w : World} {A : Option Addr} {c k : Nat} {l : List Sym} (h : RowRd w 3 Sym.cells A c l) (hk : k < l.length) : ∃ g off, A = some ⟨g, off, none⟩ ∧ g < w.heap.size ∧
 w.cell? ⟨g, off + k * 3, none⟩ = some (.int .i64 l[k].kind) ∧ w.cell? ⟨g, off + k * 3 + 1, none⟩ = some (.string l[k].text) ∧ w.cell? ⟨g, off + k * 3 + 2, none⟩ = some (.int .i64 l[k].n) := by
 obtain ⟨g, off, hA, hg, hc⟩ := h.at_ hk
 exact ⟨g, off, hA, hg, by simpa using hc 0 _ rfl, by simpa using hc 1 _ rfl, by simpa using hc 2 _ rfl⟩
theorem within_nat (v : Int) {n : Nat} (h : 0 < n) : ∃ j : Nat, within v n = j ∧ j < n := by
 have h1 : ¬ (n : Int) < 1 := by omega
 have h2 := Int.emod_nonneg v (show (n : Int) ≠ 0 by omega)
 have h3 := Int.emod_lt_of_pos v (show (0 : Int) < n by omega)
 refine ⟨(v % (n : Int)).toNat, ?_, by omega⟩
 simp only [within, if_neg h1]
 omega
set_option maxRecDepth 100000 in
set_option maxHeartbeats 2000000 in
theorem syms_is (A B : Option Addr) (c d : Nat) (l m : List Sym) (w : World) (hl : RowRd w 3 Sym.cells A c l) (hm : RowRd w 3 Sym.cells B d m) :
 Calls Try.prog 19 #[.slice A l.length c, .slice B m.length d] w fun e w' => e = .returned (.bool (decide (l = m))) ∧ Below w.heap.size w w' := by
 have HL := Lib.hid hl
 have HM := Lib.hid hm
 have hlc := hl.cap
 clear hl hm
 by_cases hlm : l.length = m.length
 · have t1 : ((l.length : Int) != (m.length : Int)) = false := by simp; omega
   have HLM := Lib.hid hlm
   clear hlm
   go_enter Try.func19, Try.ntmps19
   go_wp2_with fail
   go_loopw [5] (fun s wr => ∃ i : Nat, s = .int .i64 i ∧ i ≤ l.length ∧ (∀ k, (h : k < l.length) → (h' : k < m.length) → k < i → l[k] = m[k]) ∧ Below w.heap.size w wr) (fun s wr => l.length - (intOf s).toNat)
   case atStart => exact ⟨0, rfl, Nat.zero_le _, fun k _ _ h => absurd h (by omega), Below.refl _ _⟩
   case round =>
    obtain ⟨i, rfl, hi, hall, hB⟩ := hrel
    have HALL := Lib.hid hall
    have HB := Lib.hid hB
    clear hall hB
    by_cases hlt : i < l.length
    · have hlt2 : i < m.length := by have := HLM.out; omega
      obtain ⟨x, hx⟩ : ∃ x, x = l[i] := ⟨_, rfl⟩
      obtain ⟨y, hy⟩ : ∃ y, y = m[i] := ⟨_, rfl⟩
      obtain ⟨g, off, rfl, hgs, hcell⟩ := (HL.out.new_ HB.out).at_ hlt
      obtain ⟨g2, off2, rfl, hgs2, hcell2⟩ := (HM.out.new_ HB.out).at_ hlt2
      rw [← hx] at hcell
      rw [← hy] at hcell2
      have q0 : wr.cell? ⟨g, off + i * 3, none⟩ = some (.int .i64 x.kind) := by simpa using hcell 0 _ rfl
      have q1 : wr.cell? ⟨g, off + i * 3 + 1, none⟩ = some (.string x.text) := by simpa using hcell 1 _ rfl
      have q2 : wr.cell? ⟨g, off + i * 3 + 2, none⟩ = some (.int .i64 x.n) := by simpa using hcell 2 _ rfl
      have p0 : wr.cell? ⟨g2, off2 + i * 3, none⟩ = some (.int .i64 y.kind) := by simpa using hcell2 0 _ rfl
      have p1 : wr.cell? ⟨g2, off2 + i * 3 + 1, none⟩ = some (.string y.text) := by simpa using hcell2 1 _ rfl
      have p2 : wr.cell? ⟨g2, off2 + i * 3 + 2, none⟩ = some (.int .i64 y.n) := by simpa using hcell2 2 _ rfl
      have b1 : (0 : Int) ≤ (i : Int) := by omega
      have b2 : (i : Int) < (l.length : Int) := by omega
      have b3 : (i : Int) < (m.length : Int) := by omega
      have HX := Lib.hid hx
      have HY := Lib.hid hy
      clear hcell hcell2 hx hy
      have hbe := neq_sym x y
      by_cases he : x = y
      · have HE := Lib.hid he
        have t2 : decide (x = y) = true := by simpa using he
        rw [t2] at hbe
        clear he
        go_wp2_with fail
        go_quiet (fail)
        have HB2 := Lib.hid (Below.drewN' HB.out nq)
        clear q0 q1 q2 p0 p1 p2
        go_wp2_with fail
        go_roundw
        case rel =>
         refine ⟨i + 1, by go_num, by omega, fun k h h' hk => ?_, HB2.out⟩
         rcases Nat.lt_or_ge k i with h3 | h3
         · exact HALL.out k h h' h3
         · obtain rfl : k = i := by omega
           rw [← HX.out, ← HY.out]
           exact HE.out
        case measure => simp [intOf] <;> omega
      · have HE := Lib.hid he
        have t2 : decide (x = y) = false := by simpa using he
        rw [t2] at hbe
        clear he
        go_wp2_with fail
        go_quiet (fail)
        have HB2 := Lib.hid (Below.drewN' HB.out nq)
        clear q0 q1 q2 p0 p1 p2
        go_wp2_with fail
        go_ret
        refine ⟨?_, HB2.out⟩
        have : l ≠ m := by
         rintro rfl
         exact HE.out (HX.out.trans HY.out.symm)
        rw [decide_eq_false this]; rfl
    · have hie : i = l.length := by omega
      subst hie
      go_wp2_with fail
      go_ret
      refine ⟨?_, HB.out⟩
      have : l = m := List.ext_getElem HLM.out (fun k h h' => HALL.out k h h' h)
      rw [decide_eq_true this]; rfl
 · have t1 : ((l.length : Int) != (m.length : Int)) = true := by simp; omega
   have HLM := Lib.hid hlm
   clear hlm
   go_enter Try.func19, Try.ntmps19
   go_wp2_with fail
   go_ret
   refine ⟨?_, Below.refl _ _⟩
   have : l ≠ m := fun e => HLM.out (by rw [e])
   rw [decide_eq_false this]; rfl
set_option maxHeartbeats 1000000 in
theorem within_is (v n : Int) (w : World) (hn : n ≤ 9223372036854775807) :
 Calls Try.prog 15 #[.int .i64 v, .int .i64 n] w fun e w' => e = .returned (.int .i64 (within v n)) ∧ w = w' := by
 by_cases h : n < 1
 · have hw : within v n = 0 := by simp [within, h]
   rw [hw]
   go_enter Try.func15, Try.ntmps15
   go_wp2_with fail
   go_ret
   exact ⟨rfl, rfl⟩
 · have hw : within v n = v % n := by simp [within, h]
   rw [hw]
   have e0 : n ≠ 0 := by omega
   have h1 : v.tmod n < n := Int.tmod_lt_of_pos v (by omega)
   have h2 : -n < v.tmod n := by
    have := Int.lt_tmod_of_pos v (show 0 < n by omega)
    omega
   have e1 : IntKind.i64.wrap (v.tmod n) = v.tmod n := IntWalk.i64_in _ (by omega)
   have e2 : v.tmod n < 0 → v % n = v.tmod n + n := fun h3 => by
    have h4 := Int.emod_emod_of_dvd v (Int.dvd_refl n)
    have h5 : (v.tmod n) % n = v % n := by
     have := Int.mul_tdiv_add_tmod v n
     have h6 : v % n = (v.tmod n + n * v.tdiv n) % n := by congr 1; omega
     rw [h6, Int.add_mul_emod_self_left]
    have h7 : (v.tmod n + n) % n = v.tmod n % n := by simp
    rw [← h5, ← h7, Int.emod_eq_of_lt (by omega) (by omega)]
   have e3 : ¬ v.tmod n < 0 → v % n = v.tmod n := fun h3 => by
    have h5 : (v.tmod n) % n = v % n := by
     have := Int.mul_tdiv_add_tmod v n
     have h6 : v % n = (v.tmod n + n * v.tdiv n) % n := by congr 1; omega
     rw [h6, Int.add_mul_emod_self_left]
    rw [← h5, Int.emod_eq_of_lt (by omega) (by omega)]
   have E2 := Lib.hid e2
   have E3 := Lib.hid e3
   clear e2 e3
   go_enter Try.func15, Try.ntmps15
   by_cases h3 : v.tmod n < 0
   · have E := Lib.hid (E2.out h3)
     have e4 : IntKind.i64.wrap (v.tmod n + n) = v.tmod n + n := IntWalk.i64_in _ (by omega)
     clear E2 E3
     go_wp2_with fail
     go_ret
     exact ⟨by rw [E.out]; rfl, rfl⟩
   · have E := Lib.hid (E3.out h3)
     clear E2 E3
     go_wp2_with fail
     go_ret
     exact ⟨by rw [E.out]; rfl, rfl⟩
end Go.Proofs.Ytnfgilbaglfkeaa
