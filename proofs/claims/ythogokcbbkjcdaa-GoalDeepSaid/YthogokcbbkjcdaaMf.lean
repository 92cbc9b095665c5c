/-
  Texts put together: GNew, GState, Goal1, GPlain, GFresh, GNewW, Store, GItem, Max.
-/
import Derived.Test.YthogokcbbkjcdaaMe
import Derived.Test.YthogokcbbkjcdaaMa
import Derived.Deep.MidRow
import Derived.Lib.MinMax

namespace Go.Proofs.Ythogokcbbkjcdaa
open Go.RowKit Go.Shelf
section
variable {D : Nat → Prop} {w : World} {S : Nat → Option (List Sym)} {σ : Nat → St} {S2 : Nat → Option (List Page)} {σ2 : Nat → St}
theorem sNewC_Sym (A : Option Addr) (c : Nat) (xs : List Sym) (h : SymSets D w S σ) (hrd : RowRd w 3 Sym.cells A c xs) (hl : (xs.length : Int) ≤ 10000000) :
    Calls Try.prog 14 #[.slice A xs.length c] w fun e w' => ∃ k, e = .returned (.pointer (some ⟨k, 0, none⟩)) ∧ w.heap.size ≤ k ∧ (∃ σ', SymSets D w' (upd S k (some (puts cmpSym [] xs))) σ' ∧ ∀ q, q < w.heap.size → Off q S σ → Off q (upd S k (some (puts cmpSym [] xs))) σ') ∧ Below w.heap.size w w' := by
  refine (new_Sym A c xs w hrd hl).mono ?_
  rintro e w' ⟨k, he, hk, sn, A', c', h1, hA, hB⟩
  refine ⟨k, he, hk, ⟨_, h.add hk h1 (Srt.puts tc_sym xs Srt.nil) (.inl hA) hB, fun q hq ho b l hb => ?_⟩, hB⟩
  by_cases e : b = k
  · subst e
    rw [upd_same]
    exact ⟨by omega, fun a ha => by have := hA a ha; omega⟩
  · rw [upd_ne _ _ e] at hb ⊢
    exact ho b l hb
theorem sNewC_Page (A : Option Addr) (c : Nat) (xs : List Page) (h : PageSets D w S2 σ2) (hrd : RowRd w 2 Page.cells A c xs) (hl : (xs.length : Int) ≤ 10000000) :
    Calls Try.prog 26 #[.slice A xs.length c] w fun e w' => ∃ k, e = .returned (.pointer (some ⟨k, 0, none⟩)) ∧ w.heap.size ≤ k ∧ (∃ σ', PageSets D w' (upd S2 k (some (puts cmpPage [] xs))) σ' ∧ ∀ q, q < w.heap.size → Off q S2 σ2 → Off q (upd S2 k (some (puts cmpPage [] xs))) σ') ∧ Below w.heap.size w w' := by
  refine (new_Page A c xs w hrd hl).mono ?_
  rintro e w' ⟨k, he, hk, sn, A', c', h1, hA, hB⟩
  refine ⟨k, he, hk, ⟨_, h.add hk h1 (Srt.puts tc_page xs Srt.nil) (.inl hA) hB, fun q hq ho b l hb => ?_⟩, hB⟩
  by_cases e : b = k
  · subst e
    rw [upd_same]
    exact ⟨by omega, fun a ha => by have := hA a ha; omega⟩
  · rw [upd_ne _ _ e] at hb ⊢
    exact ho b l hb
def MadeMapC (D : Nat → Prop) (w : World) (S : Nat → Option (List Sym)) (σ : Nat → St) (S2 : Nat → Option (List Page)) (σ2 : Nat → St) (e : Ending) (w' : World) : Prop :=
  ∃ bm bp, e = .returned (.pointer (some ⟨bm, 0, none⟩)) ∧ Blk w' bm 75 #[.pointer (some ⟨bp, 0, none⟩)] ∧ (∃ σ2', Tabs D w' S σ (upd S2 bp (some [])) σ2' ∧ ∀ q, q < w.heap.size → Off q S2 σ2 → Off q (upd S2 bp (some [])) σ2') ∧ Below w.heap.size w w' ∧ w.heap.size ≤ bm ∧ w.heap.size ≤ bp
set_option maxHeartbeats 1000000 in
theorem booknewC_is (hT : Tabs D w S σ S2 σ2) : Calls Try.prog 15 #[] w (MadeMapC D w S σ S2 σ2) := by
  have HT := Lib.hid hT
  clear hT
  go_enter Try.func15, Try.ntmps15
  go_wp2_with fail
  refine (sNewC_Page none 0 [] HT.out.pages (RowRd.nil _ _ _) (by simp)).mono ?_
  rintro e w1 ⟨k, rfl, hk, ⟨σ', h1, hof⟩, hB⟩
  have HB := Lib.hid hB
  have HOF := Lib.hid hof
  have H1 := Lib.hid (show Tabs D w1 S σ (upd S2 k (some [])) σ' from ⟨HT.out.syms.below hB, h1⟩)
  clear hB h1 hof
  go_wp2_with fail
  go_ret
  have hz := HB.out.size
  exact ⟨w1.heap.size, k, rfl, Blk.new _ _ _, ⟨σ', H1.out.below ((Below.refl _ _).alloc (Nat.le_refl _) _), HOF.out⟩, HB.out.alloc hz _, hz, hk⟩
/-- A new table. -/
def MadeTabC (D : Nat → Prop) (w : World) (S : Nat → Option (List Sym)) (σ : Nat → St) (S2 : Nat → Option (List Page)) (σ2 : Nat → St) (room : Int) (e : Ending) (w' : World) : Prop :=
  ∃ T : TB, e = .returned (.tuple #[.pointer (some ⟨T.b, 0, none⟩), .int .i64 0]) ∧ T.room = room ∧ TabBlk w' T ∧ (∃ σ' σ2', Tabs D w' (upd S T.bs (some [])) σ' (upd S2 T.bp (some [])) σ2' ∧ ∀ q, q < w.heap.size → Off q S σ → Off q S2 σ2 → Off q (upd S T.bs (some [])) σ' ∧ Off q (upd S2 T.bp (some [])) σ2') ∧ Below w.heap.size w w' ∧ w.heap.size ≤ T.bs ∧ w.heap.size ≤ T.bp
set_option maxHeartbeats 1000000 in
theorem tabnewC_is (room : Int) (h1 : 1 ≤ room) (h2 : room ≤ 4096) (hT : Tabs D w S σ S2 σ2) : Calls Try.prog 5 #[.int .i64 room] w (MadeTabC D w S σ S2 σ2 room) := by
  have HT := Lib.hid hT
  have t1 : decide (room < 1) = false := by simp; omega
  have t2 : decide ((4096 : Int) < room) = false := by simp; omega
  clear hT h1 h2
  go_enter Try.func5, Try.ntmps5
  go_wp2_with fail
  refine (sNewC_Sym none 0 [] HT.out.syms (RowRd.nil _ _ _) (by simp)).mono ?_
  rintro e w1 ⟨k, rfl, hk, ⟨σ', h1, hof⟩, hB⟩
  have HB := Lib.hid hB
  have HOF := Lib.hid hof
  have H1 := Lib.hid (show Tabs D w1 (upd S k (some [])) σ' S2 σ2 from ⟨h1, HT.out.pages.below hB⟩)
  clear hB h1 hof
  go_wp2_with fail
  refine (booknewC_is H1.out).mono ?_
  rintro e w2 ⟨bm, bp, rfl, hM, ⟨σ2', h2, hof2⟩, hB2, hbm, hbp⟩
  have HM := Lib.hid hM
  have H2 := Lib.hid h2
  have HOF2 := Lib.hid hof2
  have hz1 := HB.out.size
  have hz2 := hB2.size
  have HB2 := Lib.hid (HB.out.trans (hB2.mono hz1))
  clear hM h2 hB2 hof2
  go_wp2_with fail
  go_ret2
  have hnew : Below w2.heap.size w2 (w2.alloc (.cells #[.int .i64 room, .pointer (some ⟨k, 0, none⟩), .pointer (some ⟨bm, 0, none⟩)] 48)) := (Below.refl _ _).alloc (Nat.le_refl _) _
  exact ⟨⟨w2.heap.size, room, k, bm, bp⟩, rfl, rfl, ⟨Blk.new _ _ _, HM.out.new_ hnew⟩, ⟨σ', σ2', H2.out.below hnew, fun q hq o1 o2 => ⟨HOF.out q hq o1, HOF2.out q (by omega) o2⟩⟩, HB2.out.alloc (by omega) _, hk, by dsimp only; omega⟩
end
end Go.Proofs.Ythogokcbbkjcdaa

namespace Go.Proofs.Ythogokcbbkjcdaa
open Go.RowKit Go.Shelf
section
variable {D D' : Nat → Prop} {W W' : World} {T T' : TB} {L L' L1 : List Sym} {S : Nat → Option (List Sym)} {σ : Nat → St} {S2 : Nat → Option (List Page)} {σ2 : Nat → St} {m : List Page}
def Offs (D : Nat → Prop) (S : Nat → Option (List Sym)) (σ : Nat → St) (S2 : Nat → Option (List Page)) (σ2 : Nat → St) : Prop := ∀ q, D q → Off q S σ ∧ Off q S2 σ2
def GT (D : Nat → Prop) (W : World) (T : TB) (L : List Sym) : Prop := ∃ S σ S2 σ2 m, Tabs D W S σ S2 σ2 ∧ Offs D S σ S2 σ2 ∧ TabSt W S S2 T L m
def GT2 (D : Nat → Prop) (W : World) (T T' : TB) (L L' : List Sym) : Prop := ∃ S σ S2 σ2 m m', Tabs D W S σ S2 σ2 ∧ Offs D S σ S2 σ2 ∧ TabSt W S S2 T L m ∧ TabSt W S S2 T' L' m' ∧ T.bs ≠ T'.bs ∧ T.bp ≠ T'.bp
def GTS (D : Nat → Prop) (W : World) (T : TB) (L : List Sym) (k : Nat) (l : List Sym) : Prop := ∃ S σ S2 σ2 m, Tabs D W S σ S2 σ2 ∧ Offs D S σ S2 σ2 ∧ TabSt W S S2 T L m ∧ S k = some l ∧ k ≠ T.bs
theorem Sets.inD {α : Type} {tSet tE size : Nat} {cells : α → List Value} {cmp : α → α → Int} {S : Nat → Option (List α)} (h : Sets tSet tE size cells cmp D W S σ) (ho : ∀ q, D q → Off q S σ) (hF : Fr D W W') : Sets tSet tE size cells cmp (fun k => D k ∨ (W.heap.size ≤ k ∧ k < W'.heap.size)) W' S σ :=
  Sets.widen (D := D) ⟨fun b l hb => (h.at_ b l hb).fr hF (fun hd => (ho b hd b l hb).1 rfl) (fun a ha hd => (ho _ hd b l hb).2 a ha rfl), h.srt, h.out, h.apart, fun k hk => Nat.lt_of_lt_of_le (h.low k hk) hF.size⟩ W.heap.size (fun b l hb => ⟨h.lt hb, fun _ a ha => (h.at_ b l hb).row_lt a ha⟩)
theorem Off.beyond {α : Type} {tSet tE size : Nat} {cells : α → List Value} {cmp : α → α → Int} {S : Nat → Option (List α)} (h : Sets tSet tE size cells cmp D W S σ) {q : Nat} (hq : W.heap.size ≤ q) : Off q S σ := Off.new_ h hq
theorem Offs.grow (h1 : Tabs D W S σ S2 σ2) (h : Offs D S σ S2 σ2) (n : Nat) : Offs (fun k => D k ∨ (W.heap.size ≤ k ∧ k < n)) S σ S2 σ2 := fun q hq => hq.elim (h q) (fun hq => ⟨Off.new_ h1.syms hq.1, Off.new_ h1.pages hq.1⟩)
theorem Tabs.inD (h1 : Tabs D W S σ S2 σ2) (h : Offs D S σ S2 σ2) (hF : Fr D W W') : Tabs (fun k => D k ∨ (W.heap.size ≤ k ∧ k < W'.heap.size)) W' S σ S2 σ2 := ⟨h1.syms.inD (fun q hq => (h q hq).1) hF, h1.pages.inD (fun q hq => (h q hq).2) hF⟩
theorem GT.low (h : GT D W T L) : ∀ k, D k → k < W.heap.size := by
  obtain ⟨S, σ, S2, σ2, m, h1, _⟩ := h
  exact h1.syms.low
theorem GT2.low (h : GT2 D W T T' L L') : ∀ k, D k → k < W.heap.size := by
  obtain ⟨S, σ, S2, σ2, m, m', h1, _⟩ := h
  exact h1.syms.low
theorem GT.weaken (h : GT D W T L) (hD : ∀ j, D' j → D j) : GT D' W T L := by
  obtain ⟨S, σ, S2, σ2, m, h1, h2, h3⟩ := h
  exact ⟨S, σ, S2, σ2, m, h1.weaken hD, fun q hq => h2 q (hD q hq), h3⟩
theorem GT2.weaken (h : GT2 D W T T' L L') (hD : ∀ j, D' j → D j) : GT2 D' W T T' L L' := by
  obtain ⟨S, σ, S2, σ2, m, m', h1, h2, h3⟩ := h
  exact ⟨S, σ, S2, σ2, m, m', h1.weaken hD, fun q hq => h2 q (hD q hq), h3⟩
/-- Blocks of D were written, new ones made. -/
theorem GT.grow (h : GT D W T L) (hF : Fr D W W') (hK : KB W W') : GT (fun k => D k ∨ (W.heap.size ≤ k ∧ k < W'.heap.size)) W' T L := by
  obtain ⟨S, σ, S2, σ2, m, h1, h2, h3⟩ := h
  exact ⟨S, σ, S2, σ2, m, h1.inD h2 hF, h2.grow h1 _, h3.blk_ (h3.blk.kb hK)⟩
theorem GT2.grow (h : GT2 D W T T' L L') (hF : Fr D W W') (hK : KB W W') : GT2 (fun k => D k ∨ (W.heap.size ≤ k ∧ k < W'.heap.size)) W' T T' L L' := by
  obtain ⟨S, σ, S2, σ2, m, m', h1, h2, h3, h4, h5, h6⟩ := h
  exact ⟨S, σ, S2, σ2, m, m', h1.inD h2 hF, h2.grow h1 _, h3.blk_ (h3.blk.kb hK), h4.blk_ (h4.blk.kb hK), h5, h6⟩
theorem GT.new_ (h : GT D W T L) (hb : Below W.heap.size W W') : GT (fun k => D k ∨ (W.heap.size ≤ k ∧ k < W'.heap.size)) W' T L := h.grow (Fr.of_new hb) (KB.of_below hb)
theorem GT2.new_ (h : GT2 D W T T' L L') (hb : Below W.heap.size W W') : GT2 (fun k => D k ∨ (W.heap.size ≤ k ∧ k < W'.heap.size)) W' T T' L L' := h.grow (Fr.of_new hb) (KB.of_below hb)
theorem GT.below (h : GT D W T L) (hb : Below W.heap.size W W') : GT D W' T L := (h.new_ hb).weaken (fun _ hj => .inl hj)
theorem GT2.below (h : GT2 D W T T' L L') (hb : Below W.heap.size W W') : GT2 D W' T T' L L' := (h.new_ hb).weaken (fun _ hj => .inl hj)
theorem GTS.below {k : Nat} {l : List Sym} (h : GTS D W T L k l) (hb : Below W.heap.size W W') : GTS D W' T L k l := by
  obtain ⟨S, σ, S2, σ2, m, h1, h2, h3, h4, h5⟩ := h
  exact ⟨S, σ, S2, σ2, m, h1.below hb, h2, h3.blk_ (h3.blk.below hb), h4, h5⟩
theorem GTS.gt {k : Nat} {l : List Sym} (h : GTS D W T L k l) : GT D W T L := by
  obtain ⟨S, σ, S2, σ2, m, h1, h2, h3, h4, h5⟩ := h
  exact ⟨S, σ, S2, σ2, m, h1, h2, h3⟩
/-- A block of another type is written. -/
theorem GT.off {k : Nat} {t : TypeId} {cs : Array Value} (h : GT D W T L) (hB : Blk W k t cs) (h1 : t ≠ 68) (h2 : t ≠ 36) (h3 : t ≠ 88) (h4 : t ≠ 73) (h5 : t ≠ 48) (h6 : t ≠ 75) (hF : Fr (· = k) W W') : GT D W' T L := by
  obtain ⟨S, σ, S2, σ2, m, g1, g2, g3⟩ := h
  have ho := g1.off_blk hB h1 h2 h3 h4
  exact ⟨S, σ, S2, σ2, m, g1.off ho.1 ho.2 hF, g2, g3.blk_ ⟨g3.blk.1.fr hF (g3.blk.1.ne_ hB (Ne.symm h5)), g3.blk.2.fr hF (g3.blk.2.ne_ hB (Ne.symm h6))⟩⟩
theorem GT2.swap (h : GT2 D W T T' L L') : GT2 D W T' T L' L := by
  obtain ⟨S, σ, S2, σ2, m, m', h1, h2, h3, h4, h5, h6⟩ := h
  exact ⟨S, σ, S2, σ2, m', m, h1, h2, h4, h3, Ne.symm h5, Ne.symm h6⟩
theorem GT2.one (h : GT2 D W T T' L L') : GT D W T L := by
  obtain ⟨S, σ, S2, σ2, m, m', h1, h2, h3, _⟩ := h
  exact ⟨S, σ, S2, σ2, m, h1, h2, h3⟩
theorem Out.gt (h1 : Tabs D W S σ S2 σ2) (ho : Offs D S σ S2 σ2) (h2 : TabSt W S S2 T L m) (h : Out D W S σ S2 σ2 T L1 W') : GT D W' T L1 := by
  obtain ⟨⟨σ', σ2', m2, g1, g2, g3, g4, g5, g6⟩, hK, _⟩ := h
  exact ⟨_, σ', _, σ2', m2, g1, fun q hq => g6 q (h1.syms.low q hq) (ho q hq).1 (ho q hq).2, ⟨h2.blk.kb hK, upd_same _ _ _, upd_same _ _ _, g2, g3, g4, g5, h2.r1, h2.r2⟩⟩
theorem Out.gt2 {m' : List Page} (h1 : Tabs D W S σ S2 σ2) (ho : Offs D S σ S2 σ2) (h2 : TabSt W S S2 T L m) (h3 : TabSt W S S2 T' L' m') (h4 : T.bs ≠ T'.bs) (h5 : T.bp ≠ T'.bp) (h : Out D W S σ S2 σ2 T L1 W') : GT2 D W' T T' L1 L' := by
  obtain ⟨⟨σ', σ2', m2, g1, g2, g3, g4, g5, g6⟩, hK, _⟩ := h
  exact ⟨_, σ', _, σ2', m2, m', g1, fun q hq => g6 q (h1.syms.low q hq) (ho q hq).1 (ho q hq).2, ⟨h2.blk.kb hK, upd_same _ _ _, upd_same _ _ _, g2, g3, g4, g5, h2.r1, h2.r2⟩, ⟨h3.blk.kb hK, by rw [upd_ne _ _ (Ne.symm h4)]; exact h3.bs, by rw [upd_ne _ _ (Ne.symm h5)]; exact h3.bp, h3.ti, h3.srt, h3.val, h3.len, h3.r1, h3.r2⟩, h4, h5⟩
theorem GT.list_ (h : GT D W T L) : Srt cmpSym L ∧ (∀ s ∈ L, validB s = true) ∧ (L.length : Int) ≤ T.room ∧ T.room ≤ 4096 := by
  obtain ⟨S, σ, S2, σ2, m, h1, _, h2⟩ := h
  exact ⟨h2.srt, h2.val, h2.len, h2.r2⟩
theorem gt_put (X : List Sym) (A2 : Option Addr) (c2 : Nat) (h : GT D W T L) (hX : RowRd W 3 Sym.cells A2 c2 X) (hl : (X.length : Int) ≤ 10000) :
    Calls Try.prog 20 #[.pointer (some ⟨T.b, 0, none⟩), .slice A2 X.length c2] W fun e W' => e = .returned (.int .i64 (putCode T.room L X)) ∧ GT D W' T (putList T.room L X) ∧ Fr (fun j => ¬ D j) W W' ∧ KB W W' := by
  obtain ⟨S, σ, S2, σ2, m, h1, h2, h3⟩ := h
  exact (st_put X A2 c2 h1 h3 hX hl).mono fun e W' ⟨he, ho⟩ => ⟨he, Out.gt h1 h2 h3 ho, ho.2.2, ho.2.1⟩
theorem gt2_put (X : List Sym) (A2 : Option Addr) (c2 : Nat) (h : GT2 D W T T' L L') (hX : RowRd W 3 Sym.cells A2 c2 X) (hl : (X.length : Int) ≤ 10000) :
    Calls Try.prog 20 #[.pointer (some ⟨T'.b, 0, none⟩), .slice A2 X.length c2] W fun e W' => e = .returned (.int .i64 (putCode T'.room L' X)) ∧ GT2 D W' T T' L (putList T'.room L' X) ∧ Fr (fun j => ¬ D j) W W' ∧ KB W W' := by
  obtain ⟨S, σ, S2, σ2, m', m, h1, h2, h4, h3, h5, h6⟩ := h.swap
  exact (st_put X A2 c2 h1 h4 hX hl).mono fun e W' ⟨he, ho⟩ => ⟨he, (Out.gt2 h1 h2 h4 h3 h5 h6 ho).swap, ho.2.2, ho.2.1⟩
theorem gt2_fresh (c : UInt8) (h : GT2 D W T T' L L') :
    Calls Try.prog 21 #[.pointer (some ⟨T'.b, 0, none⟩), .int .u8 (c.toNat : Int)] W fun e W' => e = .returned (.tuple #[.agg #[.int .i64 (freshS T'.room L' c).kind, .string (freshS T'.room L' c).text, .int .i64 (freshS T'.room L' c).n], .int .i64 (freshE T'.room L' c)]) ∧ GT2 D W' T T' L (freshL T'.room L' c) ∧ Fr (fun j => ¬ D j) W W' ∧ KB W W' := by
  obtain ⟨S, σ, S2, σ2, m', m, h1, h2, h4, h3, h5, h6⟩ := h.swap
  exact (st_fresh c h1 h4).mono fun e W' ⟨he, ho⟩ => ⟨he, (Out.gt2 h1 h2 h4 h3 h5 h6 ho).swap, ho.2.2, ho.2.1⟩
theorem gt_clone (h : GT D W T L) : Calls Try.prog 18 #[.pointer (some ⟨T.b, 0, none⟩)] W fun e W' => ∃ T' : TB, e = .returned (.pointer (some ⟨T'.b, 0, none⟩)) ∧ T'.room = T.room ∧ GT2 D W' T T' L L ∧ Fr (fun j => ¬ D j) W W' ∧ KB W W' := by
  obtain ⟨S, σ, S2, σ2, m, h1, ho, h2⟩ := h
  refine (tabclone_is T L m h1 h2.blk h2.bs h2.bp).mono ?_
  rintro e W' ⟨T', he, hr, hB, ⟨σ', σ2', hT, hof⟩, hK, hF, hbs, hbp⟩
  have hl1 := h1.syms.lt h2.bs
  have hl2 := h1.pages.lt h2.bp
  have n1 : T.bs ≠ T'.bs := by omega
  have n2 : T.bp ≠ T'.bp := by omega
  exact ⟨T', he, hr, ⟨_, σ', _, σ2', m, m, hT, fun q hq => hof q (h1.syms.low q hq) (ho q hq).1 (ho q hq).2, ⟨h2.blk.kb hK, by rw [upd_ne _ _ n1]; exact h2.bs, by rw [upd_ne _ _ n2]; exact h2.bp, h2.ti, h2.srt, h2.val, h2.len, h2.r1, h2.r2⟩, ⟨hB, upd_same _ _ _, upd_same _ _ _, h2.ti, h2.srt, h2.val, by rw [hr]; exact h2.len, by rw [hr]; exact h2.r1, by rw [hr]; exact h2.r2⟩, n1, n2⟩, hF, hK⟩
theorem gt_new (room : Int) (w : World) (h1 : 1 ≤ room) (h2 : room ≤ 4096) : Calls Try.prog 5 #[.int .i64 room] w fun e w' => ∃ T : TB, e = .returned (.tuple #[.pointer (some ⟨T.b, 0, none⟩), .int .i64 0]) ∧ T.room = room ∧ GT (· < w.heap.size) w' T [] ∧ Below w.heap.size w w' := by
  refine (tabnewC_is room h1 h2 (Tabs.start w)).mono ?_
  rintro e w' ⟨T, he, hr, hB, ⟨σ', σ2', hT, hof⟩, hb, _, _⟩
  exact ⟨T, he, hr, ⟨_, σ', _, σ2', [], hT, fun q hq => hof q hq (fun _ _ h => by cases h) (fun _ _ h => by cases h), ⟨hB, upd_same _ _ _, upd_same _ _ _, TI.nil, Srt.nil, (fun s hs => absurd hs (by simp)), (by rw [List.length_nil]; omega), (by omega), (by omega)⟩⟩, hb⟩
theorem gts_new (h : GT D W T L) : Calls Try.prog 14 #[.slice none 0 0] W fun e W' => ∃ k, e = .returned (.pointer (some ⟨k, 0, none⟩)) ∧ GTS D W' T L k [] ∧ Below W.heap.size W W' := by
  obtain ⟨S, σ, S2, σ2, m, h1, ho, h2⟩ := h
  refine (sNewC_Sym none 0 [] h1.syms (RowRd.nil _ _ _) (by simp)).mono ?_
  rintro e w1 ⟨k, rfl, hk, ⟨σ', g1, hof⟩, hB⟩
  have hl1 := h1.syms.lt h2.bs
  have n1 : T.bs ≠ k := by omega
  exact ⟨k, rfl, ⟨_, σ', S2, σ2, m, ⟨g1, h1.pages.below hB⟩, fun q hq => ⟨hof q (h1.syms.low q hq) (ho q hq).1, (ho q hq).2⟩, ⟨h2.blk.below hB, by rw [upd_ne _ _ n1]; exact h2.bs, h2.bp, h2.ti, h2.srt, h2.val, h2.len, h2.r1, h2.r2⟩, upd_same _ _ _, Ne.symm n1⟩, hB⟩
theorem gts_put {k : Nat} {l : List Sym} (x : Sym) (h : GTS D W T L k l) (hl : (l.length : Int) ≤ 100000000) :
    Calls Try.prog 25 #[.pointer (some ⟨k, 0, none⟩), .agg #[.int .i64 x.kind, .string x.text, .int .i64 x.n]] W fun e W' => e = .returned (.bool (!has cmpSym l x)) ∧ GTS D W' T L k (put cmpSym l x) ∧ Fr (fun j => ¬ D j) W W' ∧ KB W W' := by
  obtain ⟨S, σ, S2, σ2, m, h1, ho, h2, h3, h4⟩ := h
  refine (tPut_Sym x h1 h3 hl).mono ?_
  rintro e W' ⟨he, ⟨σ', g1, g2⟩, hK, hD, hF⟩
  exact ⟨he, ⟨_, σ', S2, σ2, m, g1, fun q hq => ⟨g2 q (h1.syms.low q hq) (ho q hq).1, (ho q hq).2⟩, ⟨h2.blk.kb hK, by rw [upd_ne _ _ (Ne.symm h4)]; exact h2.bs, h2.bp, h2.ti, h2.srt, h2.val, h2.len, h2.r1, h2.r2⟩, upd_same _ _ _, h4⟩, hD, hK⟩
end
/-! ### goals -/
structure GoalC where
  state : Sym
  kind : Int
  attr : ByteArray
  ia : Option Addr
  il : Nat
  ic : Nat
  op : Sym
def GoalC.cells (g : GoalC) : List Value := [.int .i64 g.state.kind, .string g.state.text, .int .i64 g.state.n, .int .i64 g.kind, .string g.attr, .slice g.ia g.il g.ic, .int .i64 g.op.kind, .string g.op.text, .int .i64 g.op.n]
theorem GoalC.cells_length (g : GoalC) : g.cells.length = 9 := rfl
theorem GoalC.one (g : GoalC) : ∀ u ∈ g.cells, u.oneCell' = true := by
  intro u hu
  simp only [GoalC.cells, List.mem_cons, List.not_mem_nil, or_false] at hu
  rcases hu with rfl | rfl | rfl | rfl | rfl | rfl | rfl | rfl | rfl <;> rfl
theorem info_Goal : (Try.prog.info? 61).map (fun i => (i.zero, i.size, i.bytes)) = some (some (.agg #[.int .i64 0, .string ⟨#[]⟩, .int .i64 0, .int .i64 0, .string ⟨#[]⟩, .slice none 0 0, .int .i64 0, .string ⟨#[]⟩, .int .i64 0]), 9, 112) := by kernel_rfl
theorem goal_at {w : World} {A : Option Addr} {c k : Nat} {l : List GoalC} (h : RowRd w 9 GoalC.cells A c l) (hk : k < l.length) : ∃ g off, A = some ⟨g, off, none⟩ ∧ g < w.heap.size ∧
    w.cell? ⟨g, off + k * 9, none⟩ = some (.int .i64 l[k].state.kind) ∧ w.cell? ⟨g, off + k * 9 + 1, none⟩ = some (.string l[k].state.text) ∧ w.cell? ⟨g, off + k * 9 + 2, none⟩ = some (.int .i64 l[k].state.n) ∧
    w.cell? ⟨g, off + k * 9 + 3, none⟩ = some (.int .i64 l[k].kind) ∧ w.cell? ⟨g, off + k * 9 + 4, none⟩ = some (.string l[k].attr) ∧ w.cell? ⟨g, off + k * 9 + 5, none⟩ = some (.slice l[k].ia l[k].il l[k].ic) ∧
    w.cell? ⟨g, off + k * 9 + 6, none⟩ = some (.int .i64 l[k].op.kind) ∧ w.cell? ⟨g, off + k * 9 + 7, none⟩ = some (.string l[k].op.text) ∧ w.cell? ⟨g, off + k * 9 + 8, none⟩ = some (.int .i64 l[k].op.n) := by
  obtain ⟨g, off, hA, hg, hc⟩ := h.at_ hk
  exact ⟨g, off, hA, hg, hc 0 _ rfl, hc 1 _ rfl, hc 2 _ rfl, hc 3 _ rfl, hc 4 _ rfl, hc 5 _ rfl, hc 6 _ rfl, hc 7 _ rfl, hc 8 _ rfl⟩
/-- A stack in memory: its table, how deep it may be, its goals, its links. -/
structure Stk (W : World) (sb : Nat) (T : TB) (dep : Int) (gs : List GoalC) (ks : List Value) (A : Option Addr) (c : Nat) : Prop where
  blk : Blk W sb 64 (.int .i64 dep :: .pointer (some ⟨T.b, 0, none⟩) :: .slice A gs.length c :: ks).toArray
  row : W.ownsRow 0 61 9 (.slice A gs.length c) gs.length (gs.flatMap GoalC.cells)
theorem owns_kb {W W' : World} {base size n : Nat} {e : TypeId} {v : Value} {xs : List Value} (h : W.ownsRow base e size v n xs) (hK : KB W W') (h1 : e ≠ 68) (h2 : e ≠ 36) (h3 : e ≠ 88) (h4 : e ≠ 73) : W'.ownsRow base e size v n xs :=
  ⟨h.1, h.2.imp id fun ⟨g, cap, cur, hv, h0, hg, hr⟩ => ⟨g, cap, cur, hv, h0, hK g e cur h1 h2 h3 h4 hg, hr⟩⟩
section
variable {W W' : World} {sb : Nat} {T : TB} {dep : Int} {gs : List GoalC} {ks : List Value} {A : Option Addr} {c : Nat}
theorem Stk.kb (h : Stk W sb T dep gs ks A c) (hK : KB W W') : Stk W' sb T dep gs ks A c := ⟨hK _ _ _ (by decide) (by decide) (by decide) (by decide) h.blk, owns_kb h.row hK (by decide) (by decide) (by decide) (by decide)⟩
theorem Stk.below (h : Stk W sb T dep gs ks A c) (hb : Below W.heap.size W W') : Stk W' sb T dep gs ks A c := ⟨h.blk.new_ hb, ownsRow_new h.row hb⟩
theorem Stk.stored {w' : World} {gs' : List GoalC} {A' : Option Addr} {c' : Nat} (h : Stk W sb T dep gs ks A c) (hb : Below W.heap.size W w') (hown : w'.ownsRow 0 61 9 (.slice A' gs'.length c') gs'.length (gs'.flatMap GoalC.cells)) :
    Stk (w'.setCell ⟨sb, 2, none⟩ (.slice A' gs'.length c')) sb T dep gs' ks A' c' ∧ Fr (· = sb) W (w'.setCell ⟨sb, 2, none⟩ (.slice A' gs'.length c')) := by
  have hB := h.blk.new_ hb
  refine ⟨⟨?_, ?_⟩, (Fr.of_new (M := (· = sb)) hb).setCell (p := ⟨sb, 2, none⟩) (.inl rfl) _⟩
  · have := hB.set_ 2 (.slice A' gs'.length c')
    simpa only [List.setIfInBounds_toArray, List.set_cons_zero, List.set_cons_succ] using this
  · exact ownsRow_setCell_other (a := ⟨sb, 2, none⟩) hown (own_blk_ne hown hB (by decide)) _
theorem Stk.rd (h : Stk W sb T dep gs ks A c) : RowRd W 9 GoalC.cells A c gs := ownsRow_rd GoalC.cells_length h.row
end
/-- Symbols' own rows that are grown: blocks of other types lie. -/
theorem KB.grown {w w1 w2 : World} {base n : Nat} {v : Value} {xs : List Value} (h : KB w w1) (hown : w1.ownsRow base 36 3 v n xs) (hg : w1.grownBy w2 v.ownBlock) : KB w w2 := fun g t cs h1 h2 h3 h4 hb => (h g t cs h1 h2 h3 h4 hb).grown hg (own_blk_ne hown (h g t cs h1 h2 h3 h4 hb) (Ne.symm h2))
/-- A row that was grown: where it lies, what was written. -/
theorem row_grown {D : Nat → Prop} {X w4 : World} {A : Option Addr} {c n m B : Nat} {v' : Value} {xs news : List Value} (hown : X.ownsRow 0 36 3 (.slice A n c) n xs) (hA : AIn A D) (hB : AIn A (B ≤ ·)) (hBX : B ≤ X.heap.size) (hown' : w4.ownsRow 0 36 3 v' (n + m) (xs ++ news)) (hg : X.grownBy w4 (Value.slice A n c).ownBlock) (hat : v'.ownBlock = (Value.slice A n c).ownBlock ∨ v'.ownBlock = some X.heap.size) :
    ∃ A' c', v' = .slice A' (n + m) c' ∧ Fr D X w4 ∧ KB X w4 ∧ AIn A' (fun k => D k ∨ (X.heap.size ≤ k ∧ k < w4.heap.size)) ∧ AIn A' (B ≤ ·) ∧ Below B X w4 ∧ Fr (fun k => (Value.slice A n c).ownBlock = some k) X w4 ∧ n + m ≤ c' := by
  obtain ⟨A', c', rfl, hc, _, hz⟩ := own_form2 hown'
  have hob : ∀ k, (Value.slice A n c).ownBlock = some k → D k ∧ B ≤ k := by
    intro k hk
    rcases A with _ | a
    · simp [Value.ownBlock] at hk
    · have e : a.block = k := by simpa [Value.ownBlock] using hk
      exact ⟨e ▸ hA a rfl, e ▸ hB a rfl⟩
  have hat' : ∀ a, A' = some a → (∃ k, (Value.slice A n c).ownBlock = some k ∧ a.block = k) ∨ a.block = X.heap.size := by
    intro a ha
    subst ha
    rcases hat with h | h
    · exact .inl ⟨a.block, by rw [← h]; simp [Value.ownBlock], rfl⟩
    · exact .inr (by simpa [Value.ownBlock] using h)
  refine ⟨A', c', rfl, (Fr.refl D X).grown hg (fun k hk => .inl (hob k hk).1), KB.grown (KB.refl X) hown hg, fun a ha => ?_, fun a ha => ?_, (Below.refl B X).grown hg hBX (fun k hk => (hob k hk).2), (Fr.refl _ X).grown hg (fun k hk => .inl hk), hc⟩
  · rcases hat' a ha with ⟨k, hk, e⟩ | e
    · exact .inl (e ▸ (hob k hk).1)
    · refine .inr ⟨by omega, ?_⟩
      subst ha
      rcases ownsRow_form hown' with ⟨hv, _⟩ | ⟨g, cap, hv, _, _, hr, _⟩
      · cases hv
      · injection hv with hv
        injection hv with hv
        subst hv
        exact hr.lt
  · rcases hat' a ha with ⟨k, hk, e⟩ | e
    · exact e ▸ (hob k hk).2
    · show B ≤ a.block
      omega
theorem news_alloc {Y : World} {t : TypeId} {cs : List Value} {k : Nat} (hk : Y.heap.size = k) : ∀ (j : Nat) (u : Value), cs[j]? = some u → (Y.alloc (.cells cs.toArray t)).cell? ((⟨k, 0, none⟩ : Addr).add j) = some u := by
  subst hk
  exact World.news_of_block (heap_alloc_new _ _)
/-- A protected row of symbols is grown, behind new memory: what stands. -/
theorem step_row {P : (Nat → Prop) → World → Prop} (hgrow : ∀ D W W', P D W → Fr D W W' → KB W W' → P (fun k => D k ∨ (W.heap.size ≤ k ∧ k < W'.heap.size)) W') {D : Nat → Prop} {w3 X w4 : World} {A : Option Addr} {c n m B : Nat} {v' : Value} {xs news : List Value}
    (h : P D w3) (hb : Below w3.heap.size w3 X) (hown : w3.ownsRow 0 36 3 (.slice A n c) n xs) (hA : AIn A D) (hB : AIn A (B ≤ ·)) (hBX : B ≤ w3.heap.size) (hown' : w4.ownsRow 0 36 3 v' (n + m) (xs ++ news)) (hg : X.grownBy w4 (Value.slice A n c).ownBlock) (hat : v'.ownBlock = (Value.slice A n c).ownBlock ∨ v'.ownBlock = some X.heap.size) :
    ∃ A' c' D3, v' = .slice A' (n + m) c' ∧ P D3 w4 ∧ (∀ j, D j → D3 j) ∧ AIn A' D3 ∧ AIn A' (B ≤ ·) ∧ KB w3 w4 ∧ Below B w3 w4 ∧ Fr (fun k => (Value.slice A n c).ownBlock = some k) w3 w4 ∧ n + m ≤ c' := by
  obtain ⟨A', c', e1, hF, hK, h1, h2, h3, h4, h5⟩ := row_grown (D := fun k => D k ∨ (w3.heap.size ≤ k ∧ k < X.heap.size)) (ownsRow_new hown hb) (hA.mono (fun _ h => .inl h)) hB (Nat.le_trans hBX hb.size) hown' hg hat
  exact ⟨A', c', _, e1, hgrow _ _ _ (hgrow _ _ _ h (Fr.of_new hb) (KB.of_below hb)) hF hK, fun j hj => .inl (.inl hj), h1, h2, (KB.of_below hb).trans hK, (hb.mono hBX).trans h3, (Fr.of_new hb).trans h4, h5⟩
theorem owns_fresh (w : World) (t : TypeId) (size n : Nat) (cs : List Value) (h : cs.length = n * size) (hn : n ≤ maxLen) : (w.alloc (.cells cs.toArray t)).ownsRow 0 t size (.slice (some ⟨w.heap.size, 0, none⟩) n n) n cs :=
  ownsRow_of ⟨cs.toArray, Blk.new w t cs.toArray, by simp [h]⟩ (Nat.le_refl _) hn h (fun i u hu => by rw [(Blk.new w t cs.toArray).cell]; simpa using hu)
end Go.Proofs.Ythogokcbbkjcdaa

namespace Go.Proofs.Ythogokcbbkjcdaa
open Go.RowKit Go.Shelf
def W3 (t : ByteArray) : Sym := ⟨3, t, 0⟩
set_option maxHeartbeats 1000000 in
theorem gword_is (t : ByteArray) (w : World) : Calls Try.prog 19 #[.string t] w fun e w' => e = .returned (.agg #[.int .i64 3, .string t, .int .i64 0]) ∧ Below w.heap.size w w' := by
  go_enter Try.func19, Try.ntmps19
  go_wp2_with fail
  exact bodyPost_ret (v := .agg #[.int .i64 3, .string t, .int .i64 0]) (by simp [results, Try.results19, go_sem]) rfl ⟨rfl, by (repeat (first | exact Below.refl _ _ | (refine Below.drew ?_) | (refine Below.alloc ?_ (by simp <;> omega) _) | (refine Below.setCell ?_ (by simp <;> omega) _)))⟩
set_option maxHeartbeats 1000000 in
theorem symW_is (t : ByteArray) (w : World) : Calls Try.prog 17 #[.string t] w fun e w' => e = .returned (.agg #[.int .i64 3, .string t, .int .i64 0]) ∧ Below w.heap.size w w' := by
  go_enter Try.func17, Try.ntmps17
  go_wp2_with fail
  exact bodyPost_ret (v := .agg #[.int .i64 3, .string t, .int .i64 0]) (by simp [results, Try.results17, go_sem]) rfl ⟨rfl, by (repeat (first | exact Below.refl _ _ | (refine Below.drew ?_) | (refine Below.alloc ?_ (by simp <;> omega) _) | (refine Below.setCell ?_ (by simp <;> omega) _)))⟩
set_option maxHeartbeats 1000000 in
theorem symI_is (t : ByteArray) (n : Int) (w : World) : Calls Try.prog 13 #[.string t, .int .i64 n] w fun e w' => e = .returned (.agg #[.int .i64 1, .string t, .int .i64 n]) ∧ Below w.heap.size w w' := by
  go_enter Try.func13, Try.ntmps13
  go_wp2_with fail
  exact bodyPost_ret (v := .agg #[.int .i64 1, .string t, .int .i64 n]) (by simp [results, Try.results13, go_sem]) rfl ⟨rfl, by (repeat (first | exact Below.refl _ _ | (refine Below.drew ?_) | (refine Below.alloc ?_ (by simp <;> omega) _) | (refine Below.setCell ?_ (by simp <;> omega) _)))⟩
theorem choices_none (w : World) : Calls Try.prog 23 #[.int .i64 4] w fun e w' => e = .returned (.string ⟨#[110, 111, 110, 101]⟩) ∧ w = w' := by
  go_enter Try.func23, Try.ntmps23
  go_wp2_with fail
  go_ret
  exact ⟨rfl, rfl⟩
theorem choices_tie (w : World) : Calls Try.prog 23 #[.int .i64 1] w fun e w' => e = .returned (.string ⟨#[109, 117, 108, 116, 105, 112, 108, 101]⟩) ∧ w = w' := by
  go_enter Try.func23, Try.ntmps23
  go_wp2_with fail
  go_ret
  exact ⟨rfl, rfl⟩
theorem impasse_none (w : World) : Calls Try.prog 24 #[.int .i64 4] w fun e w' => e = .returned (.string ⟨#[110, 111, 45, 99, 104, 97, 110, 103, 101]⟩) ∧ w = w' := by
  go_enter Try.func24, Try.ntmps24
  go_wp2_with fail
  go_ret
  exact ⟨rfl, rfl⟩
theorem impasse_tie (w : World) : Calls Try.prog 24 #[.int .i64 1] w fun e w' => e = .returned (.string ⟨#[116, 105, 101]⟩) ∧ w = w' := by
  go_enter Try.func24, Try.ntmps24
  go_wp2_with fail
  go_ret
  exact ⟨rfl, rfl⟩
theorem len_is {sb : Nat} {T : TB} {dep : Int} {gs : List GoalC} {ks : List Value} {A : Option Addr} {c : Nat} {w : World} (h : Stk w sb T dep gs ks A c) : Calls Try.prog 8 #[.pointer (some ⟨sb, 0, none⟩)] w fun e w' => e = .returned (.int .i64 gs.length) ∧ w = w' := by
  have s2 : w.cell? ⟨sb, 2, none⟩ = some (.slice A gs.length c) := (h.blk.cell 2).trans rfl
  have hl := h.blk.lt
  clear h
  go_enter Try.func8, Try.ntmps8
  go_wp2_with fail
  go_ret
  exact ⟨rfl, rfl⟩
end Go.Proofs.Ythogokcbbkjcdaa

namespace Go.Proofs.Ythogokcbbkjcdaa
open Go.RowKit Go.Shelf
def words7 : List Sym := [W3 ⟨#[115, 116, 97, 116, 101]⟩, W3 ⟨#[116, 121, 112, 101]⟩, W3 ⟨#[115, 117, 112, 101, 114, 115, 116, 97, 116, 101]⟩, W3 ⟨#[110, 105, 108]⟩, W3 ⟨#[105, 111]⟩, W3 ⟨#[105, 110, 112, 117, 116, 45, 108, 105, 110, 107]⟩, W3 ⟨#[111, 117, 116, 112, 117, 116, 45, 108, 105, 110, 107]⟩]
def wordsN : List Sym := [W3 ⟨#[97, 116, 116, 114, 105, 98, 117, 116, 101]⟩, W3 ⟨#[99, 104, 111, 105, 99, 101, 115]⟩, W3 ⟨#[105, 109, 112, 97, 115, 115, 101]⟩, W3 ⟨#[115, 117, 112, 101, 114, 115, 116, 97, 116, 101]⟩, W3 ⟨#[116, 121, 112, 101]⟩, W3 ⟨#[115, 116, 97, 116, 101]⟩, W3 ⟨#[115, 116, 97, 116, 101]⟩, W3 ⟨#[110, 111, 110, 101]⟩, W3 ⟨#[110, 111, 45, 99, 104, 97, 110, 103, 101]⟩]
def wordsT : List Sym := [W3 ⟨#[97, 116, 116, 114, 105, 98, 117, 116, 101]⟩, W3 ⟨#[99, 104, 111, 105, 99, 101, 115]⟩, W3 ⟨#[105, 109, 112, 97, 115, 115, 101]⟩, W3 ⟨#[115, 117, 112, 101, 114, 115, 116, 97, 116, 101]⟩, W3 ⟨#[116, 121, 112, 101]⟩, W3 ⟨#[115, 116, 97, 116, 101]⟩, W3 ⟨#[111, 112, 101, 114, 97, 116, 111, 114]⟩, W3 ⟨#[109, 117, 108, 116, 105, 112, 108, 101]⟩, W3 ⟨#[116, 105, 101]⟩] ++ [W3 ⟨#[105, 116, 101, 109]⟩, ⟨1, ⟨#[79]⟩, 1⟩, ⟨1, ⟨#[79]⟩, 2⟩]
def ids4 : List Sym := [⟨1, ⟨#[83]⟩, 1⟩, ⟨1, ⟨#[73]⟩, 1⟩, ⟨1, ⟨#[73]⟩, 2⟩, ⟨1, ⟨#[73]⟩, 3⟩]
def cs4 : List UInt8 := [83, 73, 73, 73]
def gl (k : Nat) : List Sym := puts cmpSym (puts cmpSym [] words7) (ids4.take k)
theorem gl0 : gl 0 = puts cmpSym [] words7 := rfl
theorem words7_valid : words7.all validB = true := by kernel_rfl
theorem words7_len : (puts cmpSym [] words7).length = 7 := by kernel_rfl
theorem wordsN_valid : wordsN.all validB = true := by kernel_rfl
theorem wordsT_valid : wordsT.all validB = true := by kernel_rfl
theorem ids4_valid : ids4.all validB = true := by kernel_rfl
theorem gfresh0 {room : Int} (h : 11 ≤ room) : freshS room (gl 0) 83 = ⟨1, ⟨#[83]⟩, 1⟩ ∧ freshE room (gl 0) 83 = 0 ∧ freshL room (gl 0) 83 = gl 1 := by
  have e0 : freshE room (gl 0) 83 = 0 := by
    unfold freshE
    rw [show nextL (gl 0) 83 = 1 from by kernel_rfl, show (gl 0).length = 7 from by kernel_rfl, if_neg (by decide), if_neg (by omega)]
  refine ⟨?_, e0, ?_⟩
  · unfold freshS
    rw [if_pos e0]
    kernel_rfl
  · unfold freshL
    rw [if_pos e0]
    kernel_rfl
theorem gfresh1 {room : Int} (h : 11 ≤ room) : freshS room (gl 1) 73 = ⟨1, ⟨#[73]⟩, 1⟩ ∧ freshE room (gl 1) 73 = 0 ∧ freshL room (gl 1) 73 = gl 2 := by
  have e0 : freshE room (gl 1) 73 = 0 := by
    unfold freshE
    rw [show nextL (gl 1) 73 = 1 from by kernel_rfl, show (gl 1).length = 8 from by kernel_rfl, if_neg (by decide), if_neg (by omega)]
  refine ⟨?_, e0, ?_⟩
  · unfold freshS
    rw [if_pos e0]
    kernel_rfl
  · unfold freshL
    rw [if_pos e0]
    kernel_rfl
theorem gfresh2 {room : Int} (h : 11 ≤ room) : freshS room (gl 2) 73 = ⟨1, ⟨#[73]⟩, 2⟩ ∧ freshE room (gl 2) 73 = 0 ∧ freshL room (gl 2) 73 = gl 3 := by
  have e0 : freshE room (gl 2) 73 = 0 := by
    unfold freshE
    rw [show nextL (gl 2) 73 = 2 from by kernel_rfl, show (gl 2).length = 9 from by kernel_rfl, if_neg (by decide), if_neg (by omega)]
  refine ⟨?_, e0, ?_⟩
  · unfold freshS
    rw [if_pos e0]
    kernel_rfl
  · unfold freshL
    rw [if_pos e0]
    kernel_rfl
theorem gfresh3 {room : Int} (h : 11 ≤ room) : freshS room (gl 3) 73 = ⟨1, ⟨#[73]⟩, 3⟩ ∧ freshE room (gl 3) 73 = 0 ∧ freshL room (gl 3) 73 = gl 4 := by
  have e0 : freshE room (gl 3) 73 = 0 := by
    unfold freshE
    rw [show nextL (gl 3) 73 = 3 from by kernel_rfl, show (gl 3).length = 10 from by kernel_rfl, if_neg (by decide), if_neg (by omega)]
  refine ⟨?_, e0, ?_⟩
  · unfold freshS
    rw [if_pos e0]
    kernel_rfl
  · unfold freshL
    rw [if_pos e0]
    kernel_rfl
theorem gput7 {room : Int} (h : 11 ≤ room) : putCode room [] words7 = 0 ∧ putList room [] words7 = gl 0 := by
  unfold putCode putList
  rw [if_pos words7_valid, if_pos words7_valid, if_neg (by rw [words7_len]; omega), if_neg (by rw [words7_len]; omega)]
  exact ⟨rfl, rfl⟩
def gnew : List Sym := puts cmpSym [] (words7 ++ ids4)
theorem gnew_len : gnew.length = 11 := by kernel_rfl
theorem gput11 {room : Int} (h : 11 ≤ room) : putList room [] (words7 ++ ids4) = gnew := by
  unfold putList
  rw [if_pos (by rw [List.all_append, words7_valid, ids4_valid]; rfl), if_neg (by have := gnew_len; unfold gnew at this; omega)]
  rfl
end Go.Proofs.Ythogokcbbkjcdaa

namespace Go.Proofs.Ythogokcbbkjcdaa
open Go.RowKit Go.Shelf
theorem freshE_ok {room : Int} {L : List Sym} (h1 : (L.length : Int) < room) (h2 : nextL L 83 ≤ 1048576) : freshE room L 83 = 0 := by
  have h3 := nextL_pos (L := L) (c := 83) (by decide)
  unfold freshE
  rw [if_neg (by omega), if_neg (by omega)]
theorem gt2_freshS {D : Nat → Prop} {W : World} {T T' : TB} {L M : List Sym} (h : GT2 D W T T' L M) (h1 : (M.length : Int) < T'.room) (h2 : nextL M 83 ≤ 1048576) :
    Calls Try.prog 21 #[.pointer (some ⟨T'.b, 0, none⟩), .int .u8 83] W fun e W' => e = .returned (.tuple #[.agg #[.int .i64 1, .string ⟨#[83]⟩, .int .i64 (nextL M 83)], .int .i64 0]) ∧ GT2 D W' T T' L (put cmpSym M ⟨1, ⟨#[83]⟩, nextL M 83⟩) ∧ Fr (fun j => ¬ D j) W W' ∧ KB W W' := by
  have hk := gt2_fresh 83 h
  have e0 := freshE_ok h1 h2
  have e1 : freshS T'.room M 83 = ⟨1, ⟨#[83]⟩, nextL M 83⟩ := by unfold freshS; rw [if_pos e0]; rfl
  have e2 : freshL T'.room M 83 = put cmpSym M ⟨1, ⟨#[83]⟩, nextL M 83⟩ := by unfold freshL; rw [if_pos e0]; rfl
  rw [e0, e1, e2] at hk
  exact hk
theorem push_put {room : Int} {L X : List Sym} (hs : Srt cmpSym L) (hX : X.all validB = true) (hrm : ((puts cmpSym L X).length : Int) < room) (hnx : nextL (puts cmpSym L X) 83 ≤ 1048576) :
    putList room L (X ++ [⟨1, ⟨#[83]⟩, nextL (puts cmpSym L X) 83⟩]) = puts cmpSym L (X ++ [⟨1, ⟨#[83]⟩, nextL (puts cmpSym L X) 83⟩]) := by
  have hv : validB ⟨1, letB 83, nextL (puts cmpSym L X) 83⟩ = true := valid_let (by decide) (nextL_pos (by decide)) hnx
  have hlen := length_put tc_sym (Srt.puts tc_sym X hs) (fresh_not (L := puts cmpSym L X) (c := 83) (by decide))
  have hall : (X ++ [(⟨1, ⟨#[83]⟩, nextL (puts cmpSym L X) 83⟩ : Sym)]).all validB = true := by
    rw [List.all_append, hX]
    show (true && (validB ⟨1, letB 83, nextL (puts cmpSym L X) 83⟩ && true)) = true
    rw [hv]; rfl
  unfold putList
  rw [if_pos hall, if_neg]
  rw [puts_snoc]
  have e : put cmpSym (puts cmpSym L X) ⟨1, ⟨#[83]⟩, nextL (puts cmpSym L X) 83⟩ = put cmpSym (puts cmpSym L X) ⟨1, letB 83, nextL (puts cmpSym L X) 83⟩ := rfl
  rw [e, hlen]
  omega
/-- Behind a Push that makes a goal. -/
def PushTo (D : Nat → Prop) (W : World) (sb : Nat) (T : TB) (L X : List Sym) (dep : Int) (gs : List GoalC) (ks : List Value) (kind : Int) (attr : ByteArray) (l : List Sym) (W' : World) : Prop :=
  Fr (fun j => ¬ D j) W W' ∧ ∃ A' c' ia ic, GT D W' T (puts cmpSym L (X ++ [⟨1, ⟨#[83]⟩, nextL (puts cmpSym L X) 83⟩])) ∧
    Stk W' sb T dep (gs ++ [⟨⟨1, ⟨#[83]⟩, nextL (puts cmpSym L X) 83⟩, kind, attr, ia, l.length, ic, zsym⟩]) ks A' c' ∧ RowRd W' 3 Sym.cells ia ic l
def ops2 : List Sym := [⟨1, ⟨#[79]⟩, 1⟩, ⟨1, ⟨#[79]⟩, 2⟩]
theorem ops2_valid : ∀ s ∈ ops2, validB s = true := List.all_eq_true.1 (show ops2.all validB = true by kernel_rfl)
theorem ops2_new : ∀ i, (hi : i < ops2.length) → has cmpSym (puts cmpSym [] (ops2.take i)) ops2[i] = false := by
  intro i hi
  obtain rfl | rfl : i = 0 ∨ i = 1 := by simp [ops2] at hi; omega
  · kernel_rfl
  · kernel_rfl
theorem goals_one (l : List GoalC) : ∀ u ∈ l.flatMap GoalC.cells, u.oneCell' = true := fun u hu => by
  obtain ⟨x, _, hx⟩ := List.mem_flatMap.1 hu
  exact x.one u hx
end Go.Proofs.Ythogokcbbkjcdaa

namespace Go.Proofs.Ythogokcbbkjcdaa
open Go.RowKit Go.Shelf
attribute [local go_sem] Oper.semAt_some
def goal0 : GoalC := ⟨⟨1, ⟨#[83]⟩, 1⟩, 0, ⟨#[]⟩, none, 0, 0, zsym⟩
def links : List Value := [.int .i64 1, .string ⟨#[73]⟩, .int .i64 1, .int .i64 1, .string ⟨#[73]⟩, .int .i64 2, .int .i64 1, .string ⟨#[73]⟩, .int .i64 3]
theorem gt2_fresh0 {D : Nat → Prop} {W : World} {T T' : TB} {L : List Sym} (h : GT2 D W T T' L (gl 0)) (hr : 11 ≤ T'.room) :
    Calls Try.prog 21 #[.pointer (some ⟨T'.b, 0, none⟩), .int .u8 83] W fun e W' => e = .returned (.tuple #[.agg #[.int .i64 1, .string ⟨#[83]⟩, .int .i64 1], .int .i64 0]) ∧ GT2 D W' T T' L (gl 1) ∧ Fr (fun j => ¬ D j) W W' ∧ KB W W' := by
  have h1 := gt2_fresh 83 h
  rw [(gfresh0 hr).1, (gfresh0 hr).2.1, (gfresh0 hr).2.2] at h1
  exact h1
theorem gt2_fresh1 {D : Nat → Prop} {W : World} {T T' : TB} {L : List Sym} (h : GT2 D W T T' L (gl 1)) (hr : 11 ≤ T'.room) :
    Calls Try.prog 21 #[.pointer (some ⟨T'.b, 0, none⟩), .int .u8 73] W fun e W' => e = .returned (.tuple #[.agg #[.int .i64 1, .string ⟨#[73]⟩, .int .i64 1], .int .i64 0]) ∧ GT2 D W' T T' L (gl 2) ∧ Fr (fun j => ¬ D j) W W' ∧ KB W W' := by
  have h1 := gt2_fresh 73 h
  rw [(gfresh1 hr).1, (gfresh1 hr).2.1, (gfresh1 hr).2.2] at h1
  exact h1
theorem gt2_fresh2 {D : Nat → Prop} {W : World} {T T' : TB} {L : List Sym} (h : GT2 D W T T' L (gl 2)) (hr : 11 ≤ T'.room) :
    Calls Try.prog 21 #[.pointer (some ⟨T'.b, 0, none⟩), .int .u8 73] W fun e W' => e = .returned (.tuple #[.agg #[.int .i64 1, .string ⟨#[73]⟩, .int .i64 2], .int .i64 0]) ∧ GT2 D W' T T' L (gl 3) ∧ Fr (fun j => ¬ D j) W W' ∧ KB W W' := by
  have h1 := gt2_fresh 73 h
  rw [(gfresh2 hr).1, (gfresh2 hr).2.1, (gfresh2 hr).2.2] at h1
  exact h1
theorem gt2_fresh3 {D : Nat → Prop} {W : World} {T T' : TB} {L : List Sym} (h : GT2 D W T T' L (gl 3)) (hr : 11 ≤ T'.room) :
    Calls Try.prog 21 #[.pointer (some ⟨T'.b, 0, none⟩), .int .u8 73] W fun e W' => e = .returned (.tuple #[.agg #[.int .i64 1, .string ⟨#[73]⟩, .int .i64 3], .int .i64 0]) ∧ GT2 D W' T T' L (gl 4) ∧ Fr (fun j => ¬ D j) W W' ∧ KB W W' := by
  have h1 := gt2_fresh 73 h
  rw [(gfresh3 hr).1, (gfresh3 hr).2.1, (gfresh3 hr).2.2] at h1
  exact h1
set_option maxRecDepth 100000 in
set_option maxHeartbeats 16000000 in
theorem gnew_is {D : Nat → Prop} {W : World} {T : TB} (dep : Int) (h : GT D W T []) (h1 : 1 ≤ dep) (h8 : dep ≤ 8) (hr : 11 ≤ T.room) :
    Calls Try.prog 7 #[.pointer (some ⟨T.b, 0, none⟩), .int .i64 dep] W fun e W' => ∃ sb A c, e = .returned (.tuple #[.pointer (some ⟨sb, 0, none⟩), .int .i64 0]) ∧ GT D W' T gnew ∧ Stk W' sb T dep [goal0] links A c ∧ W.heap.size ≤ sb ∧ Fr (fun j => ¬ D j) W W' ∧ KB W W' := by
  obtain ⟨i0, hi0, hz0, hz1, hz2⟩ := info_parts info_Sym
  have HT := Lib.hid h
  have t1 : decide (dep < 1) = false := by simp; omega
  have t2 : decide ((8 : Int) < dep) = false := by simp; omega
  have hlow := h.low
  have HLOW := Lib.hid hlow
  clear h h1 h8 hlow
  go_enter Try.func7, Try.ntmps7
  go_wp2_with fail
  refine (gt_clone HT.out).mono ?_
  rintro e W1 ⟨T', rfl, hroom, h2, hF1, hK1⟩
  have H2 := Lib.hid h2
  have HF1 := Lib.hid hF1
  have HK1 := Lib.hid hK1
  have HR := Lib.hid (show 11 ≤ T'.room by rw [hroom]; exact hr)
  clear hroom h2 hF1 hK1 t1 t2
  go_wp2_with fail
  go_loopw [7, 25] (fun p s wr => ∃ k : Nat, s = .int .i64 k ∧ k ≤ 7 ∧ wr.ownsRow W1.heap.size 36 3 p k ((words7.take k).flatMap Sym.cells) ∧ Below W1.heap.size W1 wr) (fun p s wr => 7 - (intOf s).toNat)
  case atStart => exact ⟨0, rfl, by omega, owns_nil W1 W1.heap.size _ _, Below.refl _ _⟩
  case round =>
    obtain ⟨k, rfl, hk, hown, hB⟩ := hrel
    have HO := Lib.hid hown
    have HB := Lib.hid hB
    clear hown hB
    by_cases hlt : k < 7
    · obtain rfl | rfl | rfl | rfl | rfl | rfl | rfl : k = 0 ∨ k = 1 ∨ k = 2 ∨ k = 3 ∨ k = 4 ∨ k = 5 ∨ k = 6 := by omega
      · have hix : ∀ V : World, (Instr.index 55 (.agg #[.string ⟨#[115, 116, 97, 116, 101]⟩, .string ⟨#[116, 121, 112, 101]⟩, .string ⟨#[115, 117, 112, 101, 114, 115, 116, 97, 116, 101]⟩, .string ⟨#[110, 105, 108]⟩, .string ⟨#[105, 111]⟩, .string ⟨#[105, 110, 112, 117, 116, 45, 108, 105, 110, 107]⟩, .string ⟨#[111, 117, 116, 112, 117, 116, 45, 108, 105, 110, 107]⟩]) (.int .i64 0)).run Try.prog V = .ok (.string ⟨#[115, 116, 97, 116, 101]⟩) V := fun V => by rfl
        go_wp2_with fail
        refine (gword_is _ _).mono ?_
        rintro e w3 ⟨rfl, hb3⟩
        have HB3 := Lib.hid hb3
        clear hb3 hlt hk
        have hz3 := HB3.out.size
        have hzr := HB.out.size
        go_wp2_with (at_builtin; refine wpList_append_own _ rfl _ _ 32 rfl W1.heap.size 36 i0 _ 3 32 Try.underlying32 hi0 hz0 hz1 hz2 rfl (by decide) u7 0 ((words7.take 0).flatMap Sym.cells) rfl (owns_below (owns_below HO.out HB3.out) ((Below.refl _ _).alloc (Nat.le_refl _) _)) ⟨w3.heap.size, 0, none⟩ 1 1 (Sym.cells (W3 ⟨#[115, 116, 97, 116, 101]⟩)) rfl rfl (World.news_of_block (heap_alloc_new _ _)) (Sym.one _) (by unfold maxLen; omega) (by omega) (by simp; omega) ?_; intro v' w4 hown' hg hnil)
        obtain ⟨A', c', rfl, hA'⟩ := owns_form hown'
        have HO4 := Lib.hid hown'
        have HB4 := Lib.hid (((HB.out.trans (HB3.out.mono hzr)).alloc (by omega) (.cells #[.int .i64 3, .string ⟨#[115, 116, 97, 116, 101]⟩, .int .i64 0] 36)).grown hg (by simp; omega) (fun k hk => owns_block HO.out k hk))
        clear hown' hg hnil hix
        go_wp2_with fail
        go_roundw
        case rel => exact ⟨0 + 1, by go_num, by omega, HO4.out, HB4.out⟩
        case measure => simp [intOf] <;> omega
      · have hix : ∀ V : World, (Instr.index 55 (.agg #[.string ⟨#[115, 116, 97, 116, 101]⟩, .string ⟨#[116, 121, 112, 101]⟩, .string ⟨#[115, 117, 112, 101, 114, 115, 116, 97, 116, 101]⟩, .string ⟨#[110, 105, 108]⟩, .string ⟨#[105, 111]⟩, .string ⟨#[105, 110, 112, 117, 116, 45, 108, 105, 110, 107]⟩, .string ⟨#[111, 117, 116, 112, 117, 116, 45, 108, 105, 110, 107]⟩]) (.int .i64 1)).run Try.prog V = .ok (.string ⟨#[116, 121, 112, 101]⟩) V := fun V => by rfl
        go_wp2_with fail
        refine (gword_is _ _).mono ?_
        rintro e w3 ⟨rfl, hb3⟩
        have HB3 := Lib.hid hb3
        clear hb3 hlt hk
        have hz3 := HB3.out.size
        have hzr := HB.out.size
        go_wp2_with (at_builtin; refine wpList_append_own _ rfl _ _ 32 rfl W1.heap.size 36 i0 _ 3 32 Try.underlying32 hi0 hz0 hz1 hz2 rfl (by decide) u7 1 ((words7.take 1).flatMap Sym.cells) rfl (owns_below (owns_below HO.out HB3.out) ((Below.refl _ _).alloc (Nat.le_refl _) _)) ⟨w3.heap.size, 0, none⟩ 1 1 (Sym.cells (W3 ⟨#[116, 121, 112, 101]⟩)) rfl rfl (World.news_of_block (heap_alloc_new _ _)) (Sym.one _) (by unfold maxLen; omega) (by omega) (by simp; omega) ?_; intro v' w4 hown' hg hnil)
        obtain ⟨A', c', rfl, hA'⟩ := owns_form hown'
        have HO4 := Lib.hid hown'
        have HB4 := Lib.hid (((HB.out.trans (HB3.out.mono hzr)).alloc (by omega) (.cells #[.int .i64 3, .string ⟨#[116, 121, 112, 101]⟩, .int .i64 0] 36)).grown hg (by simp; omega) (fun k hk => owns_block HO.out k hk))
        clear hown' hg hnil hix
        go_wp2_with fail
        go_roundw
        case rel => exact ⟨1 + 1, by go_num, by omega, HO4.out, HB4.out⟩
        case measure => simp [intOf] <;> omega
      · have hix : ∀ V : World, (Instr.index 55 (.agg #[.string ⟨#[115, 116, 97, 116, 101]⟩, .string ⟨#[116, 121, 112, 101]⟩, .string ⟨#[115, 117, 112, 101, 114, 115, 116, 97, 116, 101]⟩, .string ⟨#[110, 105, 108]⟩, .string ⟨#[105, 111]⟩, .string ⟨#[105, 110, 112, 117, 116, 45, 108, 105, 110, 107]⟩, .string ⟨#[111, 117, 116, 112, 117, 116, 45, 108, 105, 110, 107]⟩]) (.int .i64 2)).run Try.prog V = .ok (.string ⟨#[115, 117, 112, 101, 114, 115, 116, 97, 116, 101]⟩) V := fun V => by rfl
        go_wp2_with fail
        refine (gword_is _ _).mono ?_
        rintro e w3 ⟨rfl, hb3⟩
        have HB3 := Lib.hid hb3
        clear hb3 hlt hk
        have hz3 := HB3.out.size
        have hzr := HB.out.size
        go_wp2_with (at_builtin; refine wpList_append_own _ rfl _ _ 32 rfl W1.heap.size 36 i0 _ 3 32 Try.underlying32 hi0 hz0 hz1 hz2 rfl (by decide) u7 2 ((words7.take 2).flatMap Sym.cells) rfl (owns_below (owns_below HO.out HB3.out) ((Below.refl _ _).alloc (Nat.le_refl _) _)) ⟨w3.heap.size, 0, none⟩ 1 1 (Sym.cells (W3 ⟨#[115, 117, 112, 101, 114, 115, 116, 97, 116, 101]⟩)) rfl rfl (World.news_of_block (heap_alloc_new _ _)) (Sym.one _) (by unfold maxLen; omega) (by omega) (by simp; omega) ?_; intro v' w4 hown' hg hnil)
        obtain ⟨A', c', rfl, hA'⟩ := owns_form hown'
        have HO4 := Lib.hid hown'
        have HB4 := Lib.hid (((HB.out.trans (HB3.out.mono hzr)).alloc (by omega) (.cells #[.int .i64 3, .string ⟨#[115, 117, 112, 101, 114, 115, 116, 97, 116, 101]⟩, .int .i64 0] 36)).grown hg (by simp; omega) (fun k hk => owns_block HO.out k hk))
        clear hown' hg hnil hix
        go_wp2_with fail
        go_roundw
        case rel => exact ⟨2 + 1, by go_num, by omega, HO4.out, HB4.out⟩
        case measure => simp [intOf] <;> omega
      · have hix : ∀ V : World, (Instr.index 55 (.agg #[.string ⟨#[115, 116, 97, 116, 101]⟩, .string ⟨#[116, 121, 112, 101]⟩, .string ⟨#[115, 117, 112, 101, 114, 115, 116, 97, 116, 101]⟩, .string ⟨#[110, 105, 108]⟩, .string ⟨#[105, 111]⟩, .string ⟨#[105, 110, 112, 117, 116, 45, 108, 105, 110, 107]⟩, .string ⟨#[111, 117, 116, 112, 117, 116, 45, 108, 105, 110, 107]⟩]) (.int .i64 3)).run Try.prog V = .ok (.string ⟨#[110, 105, 108]⟩) V := fun V => by rfl
        go_wp2_with fail
        refine (gword_is _ _).mono ?_
        rintro e w3 ⟨rfl, hb3⟩
        have HB3 := Lib.hid hb3
        clear hb3 hlt hk
        have hz3 := HB3.out.size
        have hzr := HB.out.size
        go_wp2_with (at_builtin; refine wpList_append_own _ rfl _ _ 32 rfl W1.heap.size 36 i0 _ 3 32 Try.underlying32 hi0 hz0 hz1 hz2 rfl (by decide) u7 3 ((words7.take 3).flatMap Sym.cells) rfl (owns_below (owns_below HO.out HB3.out) ((Below.refl _ _).alloc (Nat.le_refl _) _)) ⟨w3.heap.size, 0, none⟩ 1 1 (Sym.cells (W3 ⟨#[110, 105, 108]⟩)) rfl rfl (World.news_of_block (heap_alloc_new _ _)) (Sym.one _) (by unfold maxLen; omega) (by omega) (by simp; omega) ?_; intro v' w4 hown' hg hnil)
        obtain ⟨A', c', rfl, hA'⟩ := owns_form hown'
        have HO4 := Lib.hid hown'
        have HB4 := Lib.hid (((HB.out.trans (HB3.out.mono hzr)).alloc (by omega) (.cells #[.int .i64 3, .string ⟨#[110, 105, 108]⟩, .int .i64 0] 36)).grown hg (by simp; omega) (fun k hk => owns_block HO.out k hk))
        clear hown' hg hnil hix
        go_wp2_with fail
        go_roundw
        case rel => exact ⟨3 + 1, by go_num, by omega, HO4.out, HB4.out⟩
        case measure => simp [intOf] <;> omega
      · have hix : ∀ V : World, (Instr.index 55 (.agg #[.string ⟨#[115, 116, 97, 116, 101]⟩, .string ⟨#[116, 121, 112, 101]⟩, .string ⟨#[115, 117, 112, 101, 114, 115, 116, 97, 116, 101]⟩, .string ⟨#[110, 105, 108]⟩, .string ⟨#[105, 111]⟩, .string ⟨#[105, 110, 112, 117, 116, 45, 108, 105, 110, 107]⟩, .string ⟨#[111, 117, 116, 112, 117, 116, 45, 108, 105, 110, 107]⟩]) (.int .i64 4)).run Try.prog V = .ok (.string ⟨#[105, 111]⟩) V := fun V => by rfl
        go_wp2_with fail
        refine (gword_is _ _).mono ?_
        rintro e w3 ⟨rfl, hb3⟩
        have HB3 := Lib.hid hb3
        clear hb3 hlt hk
        have hz3 := HB3.out.size
        have hzr := HB.out.size
        go_wp2_with (at_builtin; refine wpList_append_own _ rfl _ _ 32 rfl W1.heap.size 36 i0 _ 3 32 Try.underlying32 hi0 hz0 hz1 hz2 rfl (by decide) u7 4 ((words7.take 4).flatMap Sym.cells) rfl (owns_below (owns_below HO.out HB3.out) ((Below.refl _ _).alloc (Nat.le_refl _) _)) ⟨w3.heap.size, 0, none⟩ 1 1 (Sym.cells (W3 ⟨#[105, 111]⟩)) rfl rfl (World.news_of_block (heap_alloc_new _ _)) (Sym.one _) (by unfold maxLen; omega) (by omega) (by simp; omega) ?_; intro v' w4 hown' hg hnil)
        obtain ⟨A', c', rfl, hA'⟩ := owns_form hown'
        have HO4 := Lib.hid hown'
        have HB4 := Lib.hid (((HB.out.trans (HB3.out.mono hzr)).alloc (by omega) (.cells #[.int .i64 3, .string ⟨#[105, 111]⟩, .int .i64 0] 36)).grown hg (by simp; omega) (fun k hk => owns_block HO.out k hk))
        clear hown' hg hnil hix
        go_wp2_with fail
        go_roundw
        case rel => exact ⟨4 + 1, by go_num, by omega, HO4.out, HB4.out⟩
        case measure => simp [intOf] <;> omega
      · have hix : ∀ V : World, (Instr.index 55 (.agg #[.string ⟨#[115, 116, 97, 116, 101]⟩, .string ⟨#[116, 121, 112, 101]⟩, .string ⟨#[115, 117, 112, 101, 114, 115, 116, 97, 116, 101]⟩, .string ⟨#[110, 105, 108]⟩, .string ⟨#[105, 111]⟩, .string ⟨#[105, 110, 112, 117, 116, 45, 108, 105, 110, 107]⟩, .string ⟨#[111, 117, 116, 112, 117, 116, 45, 108, 105, 110, 107]⟩]) (.int .i64 5)).run Try.prog V = .ok (.string ⟨#[105, 110, 112, 117, 116, 45, 108, 105, 110, 107]⟩) V := fun V => by rfl
        go_wp2_with fail
        refine (gword_is _ _).mono ?_
        rintro e w3 ⟨rfl, hb3⟩
        have HB3 := Lib.hid hb3
        clear hb3 hlt hk
        have hz3 := HB3.out.size
        have hzr := HB.out.size
        go_wp2_with (at_builtin; refine wpList_append_own _ rfl _ _ 32 rfl W1.heap.size 36 i0 _ 3 32 Try.underlying32 hi0 hz0 hz1 hz2 rfl (by decide) u7 5 ((words7.take 5).flatMap Sym.cells) rfl (owns_below (owns_below HO.out HB3.out) ((Below.refl _ _).alloc (Nat.le_refl _) _)) ⟨w3.heap.size, 0, none⟩ 1 1 (Sym.cells (W3 ⟨#[105, 110, 112, 117, 116, 45, 108, 105, 110, 107]⟩)) rfl rfl (World.news_of_block (heap_alloc_new _ _)) (Sym.one _) (by unfold maxLen; omega) (by omega) (by simp; omega) ?_; intro v' w4 hown' hg hnil)
        obtain ⟨A', c', rfl, hA'⟩ := owns_form hown'
        have HO4 := Lib.hid hown'
        have HB4 := Lib.hid (((HB.out.trans (HB3.out.mono hzr)).alloc (by omega) (.cells #[.int .i64 3, .string ⟨#[105, 110, 112, 117, 116, 45, 108, 105, 110, 107]⟩, .int .i64 0] 36)).grown hg (by simp; omega) (fun k hk => owns_block HO.out k hk))
        clear hown' hg hnil hix
        go_wp2_with fail
        go_roundw
        case rel => exact ⟨5 + 1, by go_num, by omega, HO4.out, HB4.out⟩
        case measure => simp [intOf] <;> omega
      · have hix : ∀ V : World, (Instr.index 55 (.agg #[.string ⟨#[115, 116, 97, 116, 101]⟩, .string ⟨#[116, 121, 112, 101]⟩, .string ⟨#[115, 117, 112, 101, 114, 115, 116, 97, 116, 101]⟩, .string ⟨#[110, 105, 108]⟩, .string ⟨#[105, 111]⟩, .string ⟨#[105, 110, 112, 117, 116, 45, 108, 105, 110, 107]⟩, .string ⟨#[111, 117, 116, 112, 117, 116, 45, 108, 105, 110, 107]⟩]) (.int .i64 6)).run Try.prog V = .ok (.string ⟨#[111, 117, 116, 112, 117, 116, 45, 108, 105, 110, 107]⟩) V := fun V => by rfl
        go_wp2_with fail
        refine (gword_is _ _).mono ?_
        rintro e w3 ⟨rfl, hb3⟩
        have HB3 := Lib.hid hb3
        clear hb3 hlt hk
        have hz3 := HB3.out.size
        have hzr := HB.out.size
        go_wp2_with (at_builtin; refine wpList_append_own _ rfl _ _ 32 rfl W1.heap.size 36 i0 _ 3 32 Try.underlying32 hi0 hz0 hz1 hz2 rfl (by decide) u7 6 ((words7.take 6).flatMap Sym.cells) rfl (owns_below (owns_below HO.out HB3.out) ((Below.refl _ _).alloc (Nat.le_refl _) _)) ⟨w3.heap.size, 0, none⟩ 1 1 (Sym.cells (W3 ⟨#[111, 117, 116, 112, 117, 116, 45, 108, 105, 110, 107]⟩)) rfl rfl (World.news_of_block (heap_alloc_new _ _)) (Sym.one _) (by unfold maxLen; omega) (by omega) (by simp; omega) ?_; intro v' w4 hown' hg hnil)
        obtain ⟨A', c', rfl, hA'⟩ := owns_form hown'
        have HO4 := Lib.hid hown'
        have HB4 := Lib.hid (((HB.out.trans (HB3.out.mono hzr)).alloc (by omega) (.cells #[.int .i64 3, .string ⟨#[111, 117, 116, 112, 117, 116, 45, 108, 105, 110, 107]⟩, .int .i64 0] 36)).grown hg (by simp; omega) (fun k hk => owns_block HO.out k hk))
        clear hown' hg hnil hix
        go_wp2_with fail
        go_roundw
        case rel => exact ⟨6 + 1, by go_num, by omega, HO4.out, HB4.out⟩
        case measure => simp [intOf] <;> omega
    · have hk7 : k = 7 := by omega
      subst hk7
      clear hlt hk
      obtain ⟨A1, c1, rfl, hA1⟩ := owns_form HO.out
      have HA1 := Lib.hid hA1
      clear hA1
      obtain ⟨D1, hD1⟩ : ∃ D1 : Nat → Prop, D1 = fun j => D j ∨ (W1.heap.size ≤ j ∧ j < wr.heap.size) := ⟨_, rfl⟩
      have HO1 := Lib.hid (show wr.ownsRow 0 36 3 (.slice A1 7 c1) 7 (words7.flatMap Sym.cells) from owns_base HO.out (Nat.zero_le _))
      have HAD := Lib.hid (show AIn A1 D1 by
        intro a ha
        subst ha
        rw [hD1]
        refine .inr ⟨HA1.out _ rfl, ?_⟩
        rcases ownsRow_form HO1.out with ⟨hv, _⟩ | ⟨g, cap, hv, _, _, hr, _⟩
        · cases hv
        · injection hv with hv
          injection hv with hv
          subst hv
          exact hr.lt)
      have h3 := H2.out.new_ HB.out
      rw [← hD1] at h3
      have HD := Lib.hid (show ∀ j, D j → D1 j by intro j hj; rw [hD1]; exact .inl hj)
      have HLT := Lib.hid (show ∀ j, D1 j → j < wr.heap.size from h3.low)
      have H3 := Lib.hid h3
      clear h3 hD1
      go_wp2_with fail
      refine (gt2_put words7 A1 c1 H3.out (ownsRow_rd Sym.cells_length HO1.out) (by decide)).mono ?_
      rintro e W2 ⟨rfl, h4, hF2, hK2⟩
      rw [(gput7 HR.out).1]
      rw [(gput7 HR.out).2] at h4
      have H4 := Lib.hid h4
      have HF2 := Lib.hid hF2
      have HK2 := Lib.hid hK2
      have hz2w := hF2.size
      clear h4 hF2 hK2
      go_wp2_with fail
      go_loopw [11, 41] (fun p s wq => ∃ (k : Nat) (A : Option Addr) (c : Nat), s = .int .i64 k ∧ k ≤ 4 ∧ p = .slice A k c ∧ wq.ownsRow 0 36 3 (.slice A k c) k ((ids4.take k).flatMap Sym.cells) ∧ ∃ D2 : Nat → Prop, GT2 D2 wq T T' [] (gl k) ∧ (∀ j, D1 j → D2 j) ∧ AIn A D2 ∧ AIn A (W2.heap.size ≤ ·) ∧ Fr (fun j => ¬ D1 j) W2 wq ∧ KB W2 wq) (fun p s wq => 4 - (intOf s).toNat)
      case atStart => exact ⟨0, none, 0, rfl, by omega, rfl, owns_nil W2 0 _ _, D1, H4.out, fun _ h => h, AIn.none_ _, AIn.none_ _, Fr.refl _ _, KB.refl _⟩
      case round =>
        obtain ⟨k, A, c, rfl, hk, rfl, hown, D2, h5, hDD, hAD, hAB, hF5, hK5⟩ := hrel
        have HOI := Lib.hid hown
        have H5 := Lib.hid h5
        have HDD := Lib.hid hDD
        have HAI := Lib.hid hAD
        have HAB := Lib.hid hAB
        have HF5 := Lib.hid hF5
        have HK5 := Lib.hid hK5
        clear hown h5 hDD hAD hAB hF5 hK5
        by_cases hlt : k < 4
        · obtain rfl | rfl | rfl | rfl : k = 0 ∨ k = 1 ∨ k = 2 ∨ k = 3 := by omega
          · have hix : ∀ V : World, (Instr.index 57 (.agg #[.int .u8 83, .int .u8 73, .int .u8 73, .int .u8 73]) (.int .i64 0)).run Try.prog V = .ok (.int .u8 83) V := fun V => by rfl
            clear hlt hk
            go_wp2_with fail
            refine (gt2_fresh0 H5.out HR.out).mono ?_
            rintro e w3 ⟨rfl, h6, hF6, hK6⟩
            have H6 := Lib.hid h6
            have HF6 := Lib.hid hF6
            have HK6 := Lib.hid hK6
            have HO6 := Lib.hid (ownsRow_fr HOI.out hF6 (fun g hg hn => by
              rcases A with _ | a
              · simp [Value.ownBlock] at hg
              · have e : a.block = g := by simpa [Value.ownBlock] using hg
                exact hn (e ▸ HAI.out a rfl)))
            have hz6 := hF6.size
            have hz5 := HF5.out.size
            clear h6 hF6 hK6
            go_wp2_with (at_builtin; refine wpList_append_src _ rfl (.tmp 53) (.tmp 55) 32 rfl 36 i0 _ 3 32 Try.underlying32 hi0 hz0 hz1 hz2 rfl (by omega) (.slice A 0 c) 0 ((ids4.take 0).flatMap Sym.cells) rfl (ownsRow_new HO6.out (by (repeat (first | exact Below.refl _ _ | (refine Below.drew ?_) | (refine Below.alloc ?_ (by simp <;> omega) _) | (refine Below.setCell ?_ (by simp <;> omega) _))))) _ 1 1 (Sym.cells ⟨1, ⟨#[83]⟩, 1⟩) rfl rfl (fun _ => ⟨_, rfl, news_alloc (by simp)⟩) (Sym.one _) (by unfold maxLen; omega) (by omega) ?_; intro v' w4 hown' hg hnil hat)
            obtain ⟨A', c', D3, rfl, h7, hDD3, hA3, hB3, hK3, hbe3, _, _⟩ := step_row (P := fun D W => GT2 D W T T' [] (gl 1)) (fun _ _ _ h hF hK => GT2.grow h hF hK) H6.out (by (repeat (first | exact Below.refl _ _ | (refine Below.drew ?_) | (refine Below.alloc ?_ (by simp <;> omega) _) | (refine Below.setCell ?_ (by simp <;> omega) _)))) HO6.out HAI.out HAB.out (by omega) hown' hg hat
            have H7 := Lib.hid h7
            have HO7 := Lib.hid hown'
            have HA3 := Lib.hid (And.intro hA3 hB3)
            have HK3 := Lib.hid ((HK5.out.trans HK6.out).trans hK3)
            have HF3 := Lib.hid ((HF5.out.trans (HF6.out.mono (fun j _ hj h => hj (HDD.out j h)))).into (Fr.of_below hbe3) (fun _ h => .inr h))
            have HD3 := Lib.hid (fun j (hj : D1 j) => hDD3 j (HDD.out j hj))
            clear h7 hown' hA3 hB3 hK3 hbe3 hDD3 hg hat hnil hix
            go_wp2_with fail
            go_roundw
            case rel => exact ⟨0 + 1, A', c', by go_num, by omega, rfl, HO7.out, D3, H7.out, HD3.out, HA3.out.1, HA3.out.2, HF3.out, HK3.out⟩
            case measure => simp [intOf] <;> omega
          · have hix : ∀ V : World, (Instr.index 57 (.agg #[.int .u8 83, .int .u8 73, .int .u8 73, .int .u8 73]) (.int .i64 1)).run Try.prog V = .ok (.int .u8 73) V := fun V => by rfl
            clear hlt hk
            go_wp2_with fail
            refine (gt2_fresh1 H5.out HR.out).mono ?_
            rintro e w3 ⟨rfl, h6, hF6, hK6⟩
            have H6 := Lib.hid h6
            have HF6 := Lib.hid hF6
            have HK6 := Lib.hid hK6
            have HO6 := Lib.hid (ownsRow_fr HOI.out hF6 (fun g hg hn => by
              rcases A with _ | a
              · simp [Value.ownBlock] at hg
              · have e : a.block = g := by simpa [Value.ownBlock] using hg
                exact hn (e ▸ HAI.out a rfl)))
            have hz6 := hF6.size
            have hz5 := HF5.out.size
            clear h6 hF6 hK6
            go_wp2_with (at_builtin; refine wpList_append_src _ rfl (.tmp 53) (.tmp 55) 32 rfl 36 i0 _ 3 32 Try.underlying32 hi0 hz0 hz1 hz2 rfl (by omega) (.slice A 1 c) 1 ((ids4.take 1).flatMap Sym.cells) rfl (ownsRow_new HO6.out (by (repeat (first | exact Below.refl _ _ | (refine Below.drew ?_) | (refine Below.alloc ?_ (by simp <;> omega) _) | (refine Below.setCell ?_ (by simp <;> omega) _))))) _ 1 1 (Sym.cells ⟨1, ⟨#[73]⟩, 1⟩) rfl rfl (fun _ => ⟨_, rfl, news_alloc (by simp)⟩) (Sym.one _) (by unfold maxLen; omega) (by omega) ?_; intro v' w4 hown' hg hnil hat)
            obtain ⟨A', c', D3, rfl, h7, hDD3, hA3, hB3, hK3, hbe3, _, _⟩ := step_row (P := fun D W => GT2 D W T T' [] (gl 2)) (fun _ _ _ h hF hK => GT2.grow h hF hK) H6.out (by (repeat (first | exact Below.refl _ _ | (refine Below.drew ?_) | (refine Below.alloc ?_ (by simp <;> omega) _) | (refine Below.setCell ?_ (by simp <;> omega) _)))) HO6.out HAI.out HAB.out (by omega) hown' hg hat
            have H7 := Lib.hid h7
            have HO7 := Lib.hid hown'
            have HA3 := Lib.hid (And.intro hA3 hB3)
            have HK3 := Lib.hid ((HK5.out.trans HK6.out).trans hK3)
            have HF3 := Lib.hid ((HF5.out.trans (HF6.out.mono (fun j _ hj h => hj (HDD.out j h)))).into (Fr.of_below hbe3) (fun _ h => .inr h))
            have HD3 := Lib.hid (fun j (hj : D1 j) => hDD3 j (HDD.out j hj))
            clear h7 hown' hA3 hB3 hK3 hbe3 hDD3 hg hat hnil hix
            go_wp2_with fail
            go_roundw
            case rel => exact ⟨1 + 1, A', c', by go_num, by omega, rfl, HO7.out, D3, H7.out, HD3.out, HA3.out.1, HA3.out.2, HF3.out, HK3.out⟩
            case measure => simp [intOf] <;> omega
          · have hix : ∀ V : World, (Instr.index 57 (.agg #[.int .u8 83, .int .u8 73, .int .u8 73, .int .u8 73]) (.int .i64 2)).run Try.prog V = .ok (.int .u8 73) V := fun V => by rfl
            clear hlt hk
            go_wp2_with fail
            refine (gt2_fresh2 H5.out HR.out).mono ?_
            rintro e w3 ⟨rfl, h6, hF6, hK6⟩
            have H6 := Lib.hid h6
            have HF6 := Lib.hid hF6
            have HK6 := Lib.hid hK6
            have HO6 := Lib.hid (ownsRow_fr HOI.out hF6 (fun g hg hn => by
              rcases A with _ | a
              · simp [Value.ownBlock] at hg
              · have e : a.block = g := by simpa [Value.ownBlock] using hg
                exact hn (e ▸ HAI.out a rfl)))
            have hz6 := hF6.size
            have hz5 := HF5.out.size
            clear h6 hF6 hK6
            go_wp2_with (at_builtin; refine wpList_append_src _ rfl (.tmp 53) (.tmp 55) 32 rfl 36 i0 _ 3 32 Try.underlying32 hi0 hz0 hz1 hz2 rfl (by omega) (.slice A 2 c) 2 ((ids4.take 2).flatMap Sym.cells) rfl (ownsRow_new HO6.out (by (repeat (first | exact Below.refl _ _ | (refine Below.drew ?_) | (refine Below.alloc ?_ (by simp <;> omega) _) | (refine Below.setCell ?_ (by simp <;> omega) _))))) _ 1 1 (Sym.cells ⟨1, ⟨#[73]⟩, 2⟩) rfl rfl (fun _ => ⟨_, rfl, news_alloc (by simp)⟩) (Sym.one _) (by unfold maxLen; omega) (by omega) ?_; intro v' w4 hown' hg hnil hat)
            obtain ⟨A', c', D3, rfl, h7, hDD3, hA3, hB3, hK3, hbe3, _, _⟩ := step_row (P := fun D W => GT2 D W T T' [] (gl 3)) (fun _ _ _ h hF hK => GT2.grow h hF hK) H6.out (by (repeat (first | exact Below.refl _ _ | (refine Below.drew ?_) | (refine Below.alloc ?_ (by simp <;> omega) _) | (refine Below.setCell ?_ (by simp <;> omega) _)))) HO6.out HAI.out HAB.out (by omega) hown' hg hat
            have H7 := Lib.hid h7
            have HO7 := Lib.hid hown'
            have HA3 := Lib.hid (And.intro hA3 hB3)
            have HK3 := Lib.hid ((HK5.out.trans HK6.out).trans hK3)
            have HF3 := Lib.hid ((HF5.out.trans (HF6.out.mono (fun j _ hj h => hj (HDD.out j h)))).into (Fr.of_below hbe3) (fun _ h => .inr h))
            have HD3 := Lib.hid (fun j (hj : D1 j) => hDD3 j (HDD.out j hj))
            clear h7 hown' hA3 hB3 hK3 hbe3 hDD3 hg hat hnil hix
            go_wp2_with fail
            go_roundw
            case rel => exact ⟨2 + 1, A', c', by go_num, by omega, rfl, HO7.out, D3, H7.out, HD3.out, HA3.out.1, HA3.out.2, HF3.out, HK3.out⟩
            case measure => simp [intOf] <;> omega
          · have hix : ∀ V : World, (Instr.index 57 (.agg #[.int .u8 83, .int .u8 73, .int .u8 73, .int .u8 73]) (.int .i64 3)).run Try.prog V = .ok (.int .u8 73) V := fun V => by rfl
            clear hlt hk
            go_wp2_with fail
            refine (gt2_fresh3 H5.out HR.out).mono ?_
            rintro e w3 ⟨rfl, h6, hF6, hK6⟩
            have H6 := Lib.hid h6
            have HF6 := Lib.hid hF6
            have HK6 := Lib.hid hK6
            have HO6 := Lib.hid (ownsRow_fr HOI.out hF6 (fun g hg hn => by
              rcases A with _ | a
              · simp [Value.ownBlock] at hg
              · have e : a.block = g := by simpa [Value.ownBlock] using hg
                exact hn (e ▸ HAI.out a rfl)))
            have hz6 := hF6.size
            have hz5 := HF5.out.size
            clear h6 hF6 hK6
            go_wp2_with (at_builtin; refine wpList_append_src _ rfl (.tmp 53) (.tmp 55) 32 rfl 36 i0 _ 3 32 Try.underlying32 hi0 hz0 hz1 hz2 rfl (by omega) (.slice A 3 c) 3 ((ids4.take 3).flatMap Sym.cells) rfl (ownsRow_new HO6.out (by (repeat (first | exact Below.refl _ _ | (refine Below.drew ?_) | (refine Below.alloc ?_ (by simp <;> omega) _) | (refine Below.setCell ?_ (by simp <;> omega) _))))) _ 1 1 (Sym.cells ⟨1, ⟨#[73]⟩, 3⟩) rfl rfl (fun _ => ⟨_, rfl, news_alloc (by simp)⟩) (Sym.one _) (by unfold maxLen; omega) (by omega) ?_; intro v' w4 hown' hg hnil hat)
            obtain ⟨A', c', D3, rfl, h7, hDD3, hA3, hB3, hK3, hbe3, _, _⟩ := step_row (P := fun D W => GT2 D W T T' [] (gl 4)) (fun _ _ _ h hF hK => GT2.grow h hF hK) H6.out (by (repeat (first | exact Below.refl _ _ | (refine Below.drew ?_) | (refine Below.alloc ?_ (by simp <;> omega) _) | (refine Below.setCell ?_ (by simp <;> omega) _)))) HO6.out HAI.out HAB.out (by omega) hown' hg hat
            have H7 := Lib.hid h7
            have HO7 := Lib.hid hown'
            have HA3 := Lib.hid (And.intro hA3 hB3)
            have HK3 := Lib.hid ((HK5.out.trans HK6.out).trans hK3)
            have HF3 := Lib.hid ((HF5.out.trans (HF6.out.mono (fun j _ hj h => hj (HDD.out j h)))).into (Fr.of_below hbe3) (fun _ h => .inr h))
            have HD3 := Lib.hid (fun j (hj : D1 j) => hDD3 j (HDD.out j hj))
            clear h7 hown' hA3 hB3 hK3 hbe3 hDD3 hg hat hnil hix
            go_wp2_with fail
            go_roundw
            case rel => exact ⟨3 + 1, A', c', by go_num, by omega, rfl, HO7.out, D3, H7.out, HD3.out, HA3.out.1, HA3.out.2, HF3.out, HK3.out⟩
            case measure => simp [intOf] <;> omega
        · have hk4 : k = 4 := by omega
          subst hk4
          clear hlt hk
          have hz5 := HF5.out.size
          have hnn : ∀ (D' : Nat → Prop) (a : Addr), AIn (some a) D' → ∀ g, (Value.slice (some a) 7 c1).ownBlock = some g → D' g := fun D' a hd g hg => by
            have e : a.block = g := by simpa [Value.ownBlock] using hg
            exact e ▸ hd a rfl
          have hown1 : ∀ g, (Value.slice A1 7 c1).ownBlock = some g → D1 g := by
            intro g hg
            rcases A1 with _ | a
            · simp [Value.ownBlock] at hg
            · exact hnn D1 a HAD.out g hg
          have HOW1 := Lib.hid hown1
          have hop := ownsRow_fr (ownsRow_fr HO1.out HF2.out (fun g hg hn => hn (hown1 g hg))) HF5.out (fun g hg hn => hn (hown1 g hg))
          have HOP := Lib.hid hop
          have hns := (ownsRow_rd Sym.cells_length (l := ids4) (show wr.ownsRow 0 36 3 (.slice A ids4.length c) ids4.length (ids4.flatMap Sym.cells) from HOI.out)).news Sym.cells_length (by omega)
          have HNS := Lib.hid hns
          clear hnn hown1 hop hns
          go_wp2_with (at_builtin; refine wpList_append_src _ rfl (.tmp 59) (.tmp 60) 32 rfl 36 i0 _ 3 32 Try.underlying32 hi0 hz0 hz1 hz2 rfl (by omega) (.slice A1 7 c1) 7 (words7.flatMap Sym.cells) rfl HOP.out A 4 c (ids4.flatMap Sym.cells) rfl rfl HNS.out (Sym.oneAll _) (by unfold maxLen; omega) (by omega) ?_; intro v' w4 hown' hg hnil hat)
          obtain ⟨A', c', rfl, hFg, hKg, hA', hB', hbe, hFo, _⟩ := row_grown (D := D2) (B := W1.heap.size) HOP.out (HAD.out.mono HDD.out) HA1.out (by have := HF5.out.size; have := HB.out.size; have := H3.out.low; omega) hown' hg hat
          have h8 := (GT2.one H5.out).grow hFg hKg
          obtain ⟨D3, hD3⟩ : ∃ D3 : Nat → Prop, D3 = fun j => D2 j ∨ (wr.heap.size ≤ j ∧ j < w4.heap.size) := ⟨_, rfl⟩
          rw [← hD3] at h8 hA'
          have HD3 := Lib.hid (show ∀ j, D2 j → D3 j by intro j hj; rw [hD3]; exact .inl hj)
          have hoi := ownsRow_fr HOI.out hFo (fun g hg hg2 => by
            have h1 := HLT.out g (HOW1.out g hg2)
            rcases A with _ | a
            · simp [Value.ownBlock] at hg
            · have e : a.block = g := by simpa [Value.ownBlock] using hg
              have := HAB.out a rfl
              omega)
          have HBE := Lib.hid hbe
          have HKG := Lib.hid hKg
          clear hFg hKg hB' hbe hFo hD3 hg hat hnil
          refine (gt_put (words7 ++ ids4) A' c' h8 (ownsRow_rd Sym.cells_length (by rw [List.flatMap_append]; exact hown')) (by decide)).mono ?_
          rintro e W6 ⟨rfl, h9, hF9, hK9⟩
          rw [gput11 hr] at h9
          have hoi2 := ownsRow_fr hoi hF9 (fun g hg hn => hn (HD3.out g (by
            rcases A with _ | a
            · simp [Value.ownBlock] at hg
            · have e : a.block = g := by simpa [Value.ownBlock] using hg
              exact e ▸ HAI.out a rfl)))
          have HF := Lib.hid (show Fr (fun j => ¬ D j) W W6 from (((HF1.out.trans ((Fr.of_new HB.out).trans (HF2.out.mono (fun j _ hj h => hj (HD.out j h))))).trans (HF5.out.mono (fun j _ hj h => hj (HD.out j h)))).into (Fr.of_below HBE.out) (fun i hi => .inr (Nat.le_trans HF1.out.size hi))).trans (hF9.mono (fun j _ hj h => hj (HD3.out j (HDD.out j (HD.out j h))))))
          have HK := Lib.hid (show KB W W6 from ((((HK1.out.trans (KB.of_below HB.out)).trans HK2.out).trans HK5.out).trans HKG.out).trans hK9)
          have H9 := Lib.hid (show GT D W6 T gnew from h9.weaken (fun j hj => HD3.out j (HDD.out j (HD.out j hj))))
          have HSZ := Lib.hid HF.out.size
          rcases ownsRow_form hoi2 with ⟨_, h0, _⟩ | ⟨gi, cap, hv, hn, hcp, hrm, hx, hcell⟩
          · omega
          injection hv with hv _ hvc
          subst hv
          subst hvc
          have hgi := hrm.lt
          have y0 : W6.cell? ⟨gi, 0, none⟩ = some (.int .i64 1) := hcell 0 _ rfl
          have y1 : W6.cell? ⟨gi, 1, none⟩ = some (.string ⟨#[83]⟩) := hcell 1 _ rfl
          have y2 : W6.cell? ⟨gi, 2, none⟩ = some (.int .i64 1) := hcell 2 _ rfl
          have y3 : W6.cell? ⟨gi, 3, none⟩ = some (.int .i64 1) := hcell 3 _ rfl
          have y4 : W6.cell? ⟨gi, 4, none⟩ = some (.string ⟨#[73]⟩) := hcell 4 _ rfl
          have y5 : W6.cell? ⟨gi, 5, none⟩ = some (.int .i64 1) := hcell 5 _ rfl
          have y6 : W6.cell? ⟨gi, 6, none⟩ = some (.int .i64 1) := hcell 6 _ rfl
          have y7 : W6.cell? ⟨gi, 7, none⟩ = some (.string ⟨#[73]⟩) := hcell 7 _ rfl
          have y8 : W6.cell? ⟨gi, 8, none⟩ = some (.int .i64 2) := hcell 8 _ rfl
          have y9 : W6.cell? ⟨gi, 9, none⟩ = some (.int .i64 1) := hcell 9 _ rfl
          have y10 : W6.cell? ⟨gi, 10, none⟩ = some (.string ⟨#[73]⟩) := hcell 10 _ rfl
          have y11 : W6.cell? ⟨gi, 11, none⟩ = some (.int .i64 3) := hcell 11 _ rfl
          clear hoi hoi2 h8 h9 hF9 hK9 hown' hA' hcell hrm hx hcp
          go_wp2_with fail
          refine wp_region_E (fun w9 => Below W6.heap.size W6 w9) [(0, 0), (1, 0), (2, 0), (3, 0), (4, 1), (5, 0), (7, 0), (8, 0), (9, 1), (10, 0), (11, 0), (12, 1), (13, 0), (14, 0), (15, 1), (6, 2), (16, 0), (17, 2), (18, 0), (19, 0)] (by kernel_rfl) (by kernel_rfl) (fun KK hKK => ?_)
          simp only [beside, List.filterMap_cons, List.filterMap_nil, List.getElem?_toArray, List.getElem?_cons_zero, List.getElem?_cons_succ, Option.map_some]
          repeat (first | (refine wpX_w ?_ (Or.inl ⟨by rfl, fun w9 => ?_⟩) ?_; rotate_left 1; go_simp; with_reducible rfl; simp only [Act.put, List.setIfInBounds_toArray, List.set_cons_zero, List.set_cons_succ]) | (refine wpX_l ?_ (((Below.refl _ _).drew)) (Or.inl ⟨by rfl, fun w9 hw9 => ?_⟩) ?_; rotate_left 1; obtain ⟨hc9, hf9⟩ := bcell hw9; go_simp; with_reducible rfl; simp only [Act.put, List.setIfInBounds_toArray, List.set_cons_zero, List.set_cons_succ]) | (refine wpX_w undef (Or.inr ⟨by rfl, rfl⟩) ?_; simp only [Act.put, List.setIfInBounds_toArray, List.set_cons_zero, List.set_cons_succ]) | (refine wpX_l undef (((Below.refl _ _).drew)) (Or.inr ⟨by rfl, rfl⟩) ?_; simp only [Act.put, List.setIfInBounds_toArray, List.set_cons_zero, List.set_cons_succ]))
          refine wpX_es (fun K9 hK9 => ?_)
          go_simp
          refine hK9 _ _ (((Below.refl _ _).drew).alloc (Nat.le_refl _) _) ?_
          clear hK9 K9
          repeat (first | (refine wpX_w ?_ (Or.inl ⟨by rfl, fun w9 => ?_⟩) ?_; rotate_left 1; go_simp; with_reducible rfl; simp only [Act.put, List.setIfInBounds_toArray, List.set_cons_zero, List.set_cons_succ]) | (refine wpX_l ?_ (((Below.refl _ _).drew).alloc (Nat.le_refl _) _) (Or.inl ⟨by rfl, fun w9 hw9 => ?_⟩) ?_; rotate_left 1; obtain ⟨hc9, hf9⟩ := bcell hw9; go_simp; with_reducible rfl; simp only [Act.put, List.setIfInBounds_toArray, List.set_cons_zero, List.set_cons_succ]) | (refine wpX_w undef (Or.inr ⟨by rfl, rfl⟩) ?_; simp only [Act.put, List.setIfInBounds_toArray, List.set_cons_zero, List.set_cons_succ]) | (refine wpX_l undef (((Below.refl _ _).drew).alloc (Nat.le_refl _) _) (Or.inr ⟨by rfl, rfl⟩) ?_; simp only [Act.put, List.setIfInBounds_toArray, List.set_cons_zero, List.set_cons_succ]))
          refine wpX_e (by kernel_rfl) (fun K9 hK9 => ?_)
          go_simp
          refine hK9 _ _ ?_
          clear hK9 K9
          repeat (first | (refine wpX_w ?_ (Or.inl ⟨by rfl, fun w9 => ?_⟩) ?_; rotate_left 1; go_simp; with_reducible rfl; simp only [Act.put, List.setIfInBounds_toArray, List.set_cons_zero, List.set_cons_succ]) | (refine wpX_l ?_ (((Below.refl _ _).drew).alloc (Nat.le_refl _) _) (Or.inl ⟨by rfl, fun w9 hw9 => ?_⟩) ?_; rotate_left 1; obtain ⟨hc9, hf9⟩ := bcell hw9; go_simp; with_reducible rfl; simp only [Act.put, List.setIfInBounds_toArray, List.set_cons_zero, List.set_cons_succ]) | (refine wpX_w undef (Or.inr ⟨by rfl, rfl⟩) ?_; simp only [Act.put, List.setIfInBounds_toArray, List.set_cons_zero, List.set_cons_succ]) | (refine wpX_l undef (((Below.refl _ _).drew).alloc (Nat.le_refl _) _) (Or.inr ⟨by rfl, rfl⟩) ?_; simp only [Act.put, List.setIfInBounds_toArray, List.set_cons_zero, List.set_cons_succ]))
          refine wpX_nil ?_
          simp only [OnlyN_normal]
          refine hKK _ _ ?_
          clear hKK KK
          go_wp2_with fail
          go_ret2
          have hb : Below W6.heap.size W6 ((W6.drew.alloc (.cells goal0.cells.toArray 61)).alloc (.cells (.int .i64 dep :: .pointer (some ⟨T.b, 0, none⟩) :: .slice (some ⟨W6.heap.size, 0, none⟩) 1 1 :: links).toArray 64)) := (((Below.refl _ _).drew).alloc (Nat.le_refl _) _).alloc (by simp) _
          refine ⟨W6.heap.size + 1, some ⟨W6.heap.size, 0, none⟩, 1, rfl, H9.out.below hb, ⟨?_, ?_⟩, by have := HSZ.out; omega, HF.out.trans (Fr.of_new hb), HK.out.trans (KB.of_below hb)⟩
          · have := Blk.new (W6.drew.alloc (.cells goal0.cells.toArray 61)) 64 (.int .i64 dep :: .pointer (some ⟨T.b, 0, none⟩) :: .slice (some ⟨W6.heap.size, 0, none⟩) 1 1 :: links).toArray
            rw [show (W6.drew.alloc (.cells goal0.cells.toArray 61)).heap.size = W6.heap.size + 1 from by simp] at this
            exact this
          · exact ownsRow_new (owns_fresh W6.drew 61 9 1 goal0.cells rfl (by decide)) ((Below.refl _ _).alloc (Nat.le_refl _) _)
end Go.Proofs.Ythogokcbbkjcdaa

namespace Go.Proofs.Ythogokcbbkjcdaa
open Go.RowKit
theorem Fr.setCells {M : Nat → Prop} {a : World} {g : Nat} : ∀ (vs : List Value) (o : Nat) {b : World}, Fr M a b → (M g ∨ a.heap.size ≤ g) → Fr M a (b.setCells g o vs)
  | [], _, _, h, _ => h
  | v :: vs, o, _, h, hg => Fr.setCells vs (o + 1) (h.setCell (p := ⟨g, o, none⟩) hg v) hg
theorem ownsRow_setCells {g : Nat} {e : TypeId} {size n cap : Nat} : ∀ (vs : List Value) (o : Nat) {w : World} {xs : List Value}, w.ownsRow 0 e size (.slice (some ⟨g, 0, none⟩) n cap) n xs → (w.setCells g o vs).ownsRow 0 e size (.slice (some ⟨g, 0, none⟩) n cap) n ((vs.zipIdx o).foldl (fun l (v, j) => l.set j v) xs)
  | [], _, _, _, h => h
  | v :: vs, o, _, _, h => by
    rw [List.zipIdx_cons, List.foldl_cons]
    exact ownsRow_setCells vs (o + 1) ((h.stored o v).1)
theorem zip_shift : ∀ (vs : List Value) (o s : Nat) (xs : List Value), (vs.zipIdx (o + s)).foldl (fun l (v, j) => l.set j v) xs = (vs.zipIdx s).foldl (fun l (v, j) => l.set (o + j) v) xs
  | [], _, _, _ => rfl
  | v :: vs, o, s, xs => by
    rw [List.zipIdx_cons, List.zipIdx_cons, List.foldl_cons, List.foldl_cons]
    exact zip_shift vs o (s + 1) _
/-- The row behind the store. -/
theorem ownsRow_element {α : Type} {cells : α → List Value} {w : World} {g : Nat} {e : TypeId} {size n cap : Nat} (hsz : ∀ x, (cells x).length = size) (h0 : 0 < size) {l : List α} (h : w.ownsRow 0 e size (.slice (some ⟨g, 0, none⟩) n cap) n (l.flatMap cells)) (k : Nat) (hk : k < l.length) (y : α) :
    (w.setCells g (k * size) (cells y)).ownsRow 0 e size (.slice (some ⟨g, 0, none⟩) n cap) n ((l.set k y).flatMap cells) := by
  have h1 := ownsRow_setCells (w := w) (cells y) (k * size) h
  have h2 := zip_shift (cells y) (k * size) 0 (l.flatMap cells)
  rw [Nat.add_zero] at h2
  rw [h2] at h1
  have h3 := flat_set hsz h0 l k hk y
  unfold setAll at h3
  rw [h3] at h1
  exact h1
/-- At a step of a walk through a region. -/
theorem step_store_el {P : Program} {ops : Array Oper} {o : Oper} {a : Act} {w : World} {K : Act → World → Prop} {Q : Exit → Act → World → Prop} {E : Prop} (hgd : o.guard = none) (ty : TypeId) (x y : Operand) (ho : o.op = .store ty x y)
    (b off : Nat) (cells : Array Value) (hx : a.eval x = .pointer (some ⟨b, off, none⟩)) (hy : a.eval y = .agg cells)
    (ht : w.there b off cells.size) (hi : (P.info? ty).map (·.size) = some cells.size) (h1 : cells.all (·.oneCell') = true)
    (h : K (a.put o.dst undef) (w.setCells b off cells.toList)) : if Region.wanted o (yielded ops a.tmps) = true then Oper.wp P o a w K Q else E := by
  rw [if_pos (by simp [Region.wanted, hgd])]
  exact wp_store_mid ty x y ho b off cells hx hy ht hi h1 h
theorem Blk.farCells {g' : Nat} {t : TypeId} {cs : Array Value} {g : Nat} : ∀ (vs : List Value) (o : Nat) {w : World}, Blk w g' t cs → g' ≠ g → Blk (w.setCells g o vs) g' t cs
  | [], _, _, h, _ => h
  | v :: vs, o, _, h, hn => Blk.farCells vs (o + 1) (h.far (p := ⟨g, o, none⟩) hn v) hn
theorem Room.there {w : World} {g : Nat} {e : TypeId} {m : Nat} (h : Room w g e m) {o n : Nat} (hn : o + n ≤ m) : w.there g o n := fun j hj => by
  obtain ⟨u, hu⟩ := h.cell (i := o + j) (by omega)
  exact ⟨by rw [hu]; rfl, h.frozen _⟩
theorem Blk.range {w : World} {g : Nat} {t : TypeId} {cs : Array Value} (h : Blk w g t cs) : w.rangeAt g 0 cs.toList := fun j v hv => by
  rw [Nat.zero_add, h.cell]; simpa using hv
theorem Blk.there {w : World} {g : Nat} {t : TypeId} {cs : Array Value} (h : Blk w g t cs) : w.there g 0 cs.size := fun j hj => by
  rw [Nat.zero_add]
  exact ⟨by rw [h.cell, Array.getElem?_eq_getElem hj]; rfl, h.frozen j⟩
theorem Below.setCells' {B : Nat} {a : World} {g : Nat} : ∀ (vs : List Value) (o : Nat) {b : World}, Below B a b → B ≤ g → Below B a (b.setCells g o vs)
  | [], _, _, h, _ => h
  | v :: vs, o, _, h, hg => Below.setCells' vs (o + 1) (h.setCell (show B ≤ (⟨g, o, none⟩ : Addr).block from hg) v) hg
/-- A result that lies in memory, at once. -/
theorem results_cell_tmp {P : Program} {fn : Func} {t s : Tmp} {T : TypeId} (h : fn.results = #[.cell t T, .tmp s]) (tmps : Array Value) (w : World) (g : Nat) (cs : List Value) (d : TypeDesc) (ht : tmps.getD t undef = .pointer (some ⟨g, 0, none⟩)) (hc : w.rangeAt g 0 cs)
    (hu : P.underlying T = some d) (hd : d.isRow = true) (hi : (P.info? T).map (·.size) = some cs.length) : (results fn tmps).run P w = .ok (.tuple #[.agg cs.toArray, tmps.getD s undef]) w := by
  have hl := run_loadVar_mid (P := P) w g 0 T cs d hc hu hd hi
  have ht' : tmps[t]?.getD undef = .pointer (some ⟨g, 0, none⟩) := by simpa using ht
  simp [results, h, ht', Sem.run_bind, asAddr, hl]
theorem results_cell {P : Program} {fn : Func} {t : Tmp} {T : TypeId} (h : fn.results = #[.cell t T]) (tmps : Array Value) (w : World) (g : Nat) (cs : List Value) (d : TypeDesc) (ht : tmps.getD t undef = .pointer (some ⟨g, 0, none⟩)) (hc : w.rangeAt g 0 cs)
    (hu : P.underlying T = some d) (hd : d.isRow = true) (hi : (P.info? T).map (·.size) = some cs.length) : (results fn tmps).run P w = .ok (.agg cs.toArray) w := by
  have hl := run_loadVar_mid (P := P) w g 0 T cs d hc hu hd hi
  have ht' : tmps[t]?.getD undef = .pointer (some ⟨g, 0, none⟩) := by simpa using ht
  simp [results, h, ht', Sem.run_bind, asAddr, hl]
theorem RowRd.range {α : Type} {w : World} {size c : Nat} {cells : α → List Value} {A : Option Addr} {l : List α} (h : RowRd w size cells A c l) {k : Nat} (hk : k < l.length) : ∃ b off, A = some ⟨b, off, none⟩ ∧ b < w.heap.size ∧ w.rangeAt b (off + k * size) (cells l[k]) := by
  obtain ⟨b, off, h1, h2, h3⟩ := h.at_ hk
  exact ⟨b, off, h1, h2, fun j v hv => h3 j v hv⟩
theorem rangeAt_below {w w' : World} {B g o : Nat} {cs : List Value} (h : w.rangeAt g o cs) (hb : Below B w w') (hg : g < B) : w'.rangeAt g o cs := fun j v hv => (hb.cell (p := ⟨g, o + j, none⟩) hg).trans (h j v hv)
end Go.Proofs.Ythogokcbbkjcdaa

namespace Go.Proofs.Ythogokcbbkjcdaa
open Go.RowKit Go.Shelf
attribute [local go_sem] Oper.semAt_some
def goal1 (ia : Option Addr) (ic : Nat) : GoalC := ⟨⟨1, ⟨#[83]⟩, 2⟩, 1, ⟨#[111, 112, 101, 114, 97, 116, 111, 114]⟩, ia, 2, ic, zsym⟩
set_option maxRecDepth 100000 in
set_option maxHeartbeats 8000000 in
theorem item_is {W : World} {sb : Nat} {T : TB} {dep : Int} {ks : List Value} {A : Option Addr} {c : Nat} {ia : Option Addr} {ic : Nat} (hS : Stk W sb T dep [goal0, goal1 ia ic] ks A c) (hi : RowRd W 3 Sym.cells ia ic ops2) :
    Calls Try.prog 16 #[.pointer (some ⟨sb, 0, none⟩), .agg #[.int .i64 1, .string ⟨#[83]⟩, .int .i64 2, .int .i64 3, .string ⟨#[105, 116, 101, 109]⟩, .int .i64 0, .int .i64 1, .string ⟨#[79]⟩, .int .i64 1, .bool false, .bool false, .int .i64 0]] W fun e W' => e = .returned (.tuple #[.agg #[.int .i64 1, .string ⟨#[83]⟩, .int .i64 1, .int .i64 3, .string ⟨#[111, 112, 101, 114, 97, 116, 111, 114]⟩, .int .i64 0, .int .i64 1, .string ⟨#[79]⟩, .int .i64 1, .bool true, .bool true, .int .i64 0], .bool true]) ∧ Below W.heap.size W W' := by
  have hsl := hS.blk.lt
  have s2 : W.cell? ⟨sb, 2, none⟩ = some (.slice A 2 c) := (hS.blk.cell 2).trans rfl
  rcases ownsRow_form hS.row with ⟨_, h0, _⟩ | ⟨ga, cap, hv, hn, hcp, hrm, hx, hcell⟩
  · cases h0
  injection hv with hv _ hvc
  subst hv
  subst hvc
  have hga := hrm.lt
  obtain ⟨gi, oi, rfl, hgi, hci⟩ := hi.2.2 (by decide)
  have hc2 : 2 ≤ ic := hi.1
  have hic : ic ≤ maxLen := hi.2.1
  have aa0 : W.cell? ⟨ga, 0, none⟩ = some (.int .i64 1) := hcell 0 _ rfl
  have aa1 : W.cell? ⟨ga, 1, none⟩ = some (.string ⟨#[83]⟩) := hcell 1 _ rfl
  have aa2 : W.cell? ⟨ga, 2, none⟩ = some (.int .i64 1) := hcell 2 _ rfl
  have aa3 : W.cell? ⟨ga, 3, none⟩ = some (.int .i64 0) := hcell 3 _ rfl
  have aa4 : W.cell? ⟨ga, 4, none⟩ = some (.string ⟨#[]⟩) := hcell 4 _ rfl
  have aa5 : W.cell? ⟨ga, 5, none⟩ = some (.slice none 0 0) := hcell 5 _ rfl
  have aa6 : W.cell? ⟨ga, 6, none⟩ = some (.int .i64 0) := hcell 6 _ rfl
  have aa7 : W.cell? ⟨ga, 7, none⟩ = some (.string ⟨#[]⟩) := hcell 7 _ rfl
  have aa8 : W.cell? ⟨ga, 8, none⟩ = some (.int .i64 0) := hcell 8 _ rfl
  have aa9 : W.cell? ⟨ga, 9, none⟩ = some (.int .i64 1) := hcell 9 _ rfl
  have aa10 : W.cell? ⟨ga, 10, none⟩ = some (.string ⟨#[83]⟩) := hcell 10 _ rfl
  have aa11 : W.cell? ⟨ga, 11, none⟩ = some (.int .i64 2) := hcell 11 _ rfl
  have aa12 : W.cell? ⟨ga, 12, none⟩ = some (.int .i64 1) := hcell 12 _ rfl
  have aa13 : W.cell? ⟨ga, 13, none⟩ = some (.string ⟨#[111, 112, 101, 114, 97, 116, 111, 114]⟩) := hcell 13 _ rfl
  have aa14 : W.cell? ⟨ga, 14, none⟩ = some (.slice (some ⟨gi, oi, none⟩) 2 ic) := hcell 14 _ rfl
  have aa15 : W.cell? ⟨ga, 15, none⟩ = some (.int .i64 0) := hcell 15 _ rfl
  have aa16 : W.cell? ⟨ga, 16, none⟩ = some (.string ⟨#[]⟩) := hcell 16 _ rfl
  have aa17 : W.cell? ⟨ga, 17, none⟩ = some (.int .i64 0) := hcell 17 _ rfl
  have bb0 : W.cell? ⟨gi, oi, none⟩ = some (.int .i64 1) := by have := hci 0 (by decide) 0 _ rfl; simpa [ops2] using this
  have bb1 : W.cell? ⟨gi, oi + 1, none⟩ = some (.string ⟨#[79]⟩) := by have := hci 0 (by decide) 1 _ rfl; simpa [ops2] using this
  have bb2 : W.cell? ⟨gi, oi + 2, none⟩ = some (.int .i64 1) := by have := hci 0 (by decide) 2 _ rfl; simpa [ops2] using this
  clear hS hi hrm hx hcell hci
  go_enter Try.func16, Try.ntmps16
  go_wp2_with fail
  obtain ⟨W1, hW1⟩ : ∃ W1, W1 = (W.alloc (.cells #[.int .i64 1, .string ⟨#[83]⟩, .int .i64 2, .int .i64 3, .string ⟨#[105, 116, 101, 109]⟩, .int .i64 0, .int .i64 1, .string ⟨#[79]⟩, .int .i64 1, .bool false, .bool false, .int .i64 0] 50)).alloc (.cells #[.int .i64 0, .string ⟨#[]⟩, .int .i64 0, .int .i64 0, .string ⟨#[]⟩, .int .i64 0, .int .i64 0, .string ⟨#[]⟩, .int .i64 0, .bool false, .bool false, .int .i64 0] 50) := ⟨_, rfl⟩
  rw [← hW1]
  have hbW : Below W.heap.size W W1 := by rw [hW1]; exact ((Below.refl _ _).alloc (Nat.le_refl _) _).alloc (by simp) _
  have hB1 : Blk W1 W.heap.size 50 #[.int .i64 1, .string ⟨#[83]⟩, .int .i64 2, .int .i64 3, .string ⟨#[105, 116, 101, 109]⟩, .int .i64 0, .int .i64 1, .string ⟨#[79]⟩, .int .i64 1, .bool false, .bool false, .int .i64 0] := by rw [hW1]; exact (Blk.new W 50 #[.int .i64 1, .string ⟨#[83]⟩, .int .i64 2, .int .i64 3, .string ⟨#[105, 116, 101, 109]⟩, .int .i64 0, .int .i64 1, .string ⟨#[79]⟩, .int .i64 1, .bool false, .bool false, .int .i64 0]).alloc _
  have hR1 : Blk W1 (W.heap.size + 1) 50 #[.int .i64 0, .string ⟨#[]⟩, .int .i64 0, .int .i64 0, .string ⟨#[]⟩, .int .i64 0, .int .i64 0, .string ⟨#[]⟩, .int .i64 0, .bool false, .bool false, .int .i64 0] := by
    rw [hW1]
    have := Blk.new (W.alloc (.cells #[.int .i64 1, .string ⟨#[83]⟩, .int .i64 2, .int .i64 3, .string ⟨#[105, 116, 101, 109]⟩, .int .i64 0, .int .i64 1, .string ⟨#[79]⟩, .int .i64 1, .bool false, .bool false, .int .i64 0] 50)) 50 #[.int .i64 0, .string ⟨#[]⟩, .int .i64 0, .int .i64 0, .string ⟨#[]⟩, .int .i64 0, .int .i64 0, .string ⟨#[]⟩, .int .i64 0, .bool false, .bool false, .int .i64 0]
    rw [show (W.alloc (.cells #[.int .i64 1, .string ⟨#[83]⟩, .int .i64 2, .int .i64 3, .string ⟨#[105, 116, 101, 109]⟩, .int .i64 0, .int .i64 1, .string ⟨#[79]⟩, .int .i64 1, .bool false, .bool false, .int .i64 0] 50)).heap.size = W.heap.size + 1 from by simp] at this
    exact this
  obtain ⟨rx, hrx⟩ : ∃ rx, rx = W.heap.size + 1 := ⟨_, rfl⟩
  obtain ⟨bx, hbx⟩ : ∃ bx, bx = W.heap.size := ⟨_, rfl⟩
  rw [← hrx] at hR1 ⊢
  rw [← hbx] at hB1 ⊢
  have ee0 : W1.cell? ⟨bx, 0, none⟩ = some (.int .i64 1) := (hB1.cell 0).trans rfl
  have ee1 : W1.cell? ⟨bx, 1, none⟩ = some (.string ⟨#[83]⟩) := (hB1.cell 1).trans rfl
  have ee2 : W1.cell? ⟨bx, 2, none⟩ = some (.int .i64 2) := (hB1.cell 2).trans rfl
  have ee3 : W1.cell? ⟨bx, 3, none⟩ = some (.int .i64 3) := (hB1.cell 3).trans rfl
  have ee4 : W1.cell? ⟨bx, 4, none⟩ = some (.string ⟨#[105, 116, 101, 109]⟩) := (hB1.cell 4).trans rfl
  have ee5 : W1.cell? ⟨bx, 5, none⟩ = some (.int .i64 0) := (hB1.cell 5).trans rfl
  have ee6 : W1.cell? ⟨bx, 6, none⟩ = some (.int .i64 1) := (hB1.cell 6).trans rfl
  have ee7 : W1.cell? ⟨bx, 7, none⟩ = some (.string ⟨#[79]⟩) := (hB1.cell 7).trans rfl
  have ee8 : W1.cell? ⟨bx, 8, none⟩ = some (.int .i64 1) := (hB1.cell 8).trans rfl
  have ee9 : W1.cell? ⟨bx, 9, none⟩ = some (.bool false) := (hB1.cell 9).trans rfl
  have ee10 : W1.cell? ⟨bx, 10, none⟩ = some (.bool false) := (hB1.cell 10).trans rfl
  have ee11 : W1.cell? ⟨bx, 11, none⟩ = some (.int .i64 0) := (hB1.cell 11).trans rfl
  have hbl := hB1.lt
  have HR1 := Lib.hid hR1
  have HBX := Lib.hid (show W.heap.size ≤ rx by omega)
  have HBW := Lib.hid hbW
  replace s2 := (hbW.cell (p := ⟨sb, 2, none⟩) hsl).trans s2
  replace aa0 := (hbW.cell (p := ⟨ga, 0, none⟩) hga).trans aa0
  replace aa1 := (hbW.cell (p := ⟨ga, 1, none⟩) hga).trans aa1
  replace aa2 := (hbW.cell (p := ⟨ga, 2, none⟩) hga).trans aa2
  replace aa3 := (hbW.cell (p := ⟨ga, 3, none⟩) hga).trans aa3
  replace aa4 := (hbW.cell (p := ⟨ga, 4, none⟩) hga).trans aa4
  replace aa5 := (hbW.cell (p := ⟨ga, 5, none⟩) hga).trans aa5
  replace aa6 := (hbW.cell (p := ⟨ga, 6, none⟩) hga).trans aa6
  replace aa7 := (hbW.cell (p := ⟨ga, 7, none⟩) hga).trans aa7
  replace aa8 := (hbW.cell (p := ⟨ga, 8, none⟩) hga).trans aa8
  replace aa9 := (hbW.cell (p := ⟨ga, 9, none⟩) hga).trans aa9
  replace aa10 := (hbW.cell (p := ⟨ga, 10, none⟩) hga).trans aa10
  replace aa11 := (hbW.cell (p := ⟨ga, 11, none⟩) hga).trans aa11
  replace aa12 := (hbW.cell (p := ⟨ga, 12, none⟩) hga).trans aa12
  replace aa13 := (hbW.cell (p := ⟨ga, 13, none⟩) hga).trans aa13
  replace aa14 := (hbW.cell (p := ⟨ga, 14, none⟩) hga).trans aa14
  replace aa15 := (hbW.cell (p := ⟨ga, 15, none⟩) hga).trans aa15
  replace aa16 := (hbW.cell (p := ⟨ga, 16, none⟩) hga).trans aa16
  replace aa17 := (hbW.cell (p := ⟨ga, 17, none⟩) hga).trans aa17
  replace bb0 := (hbW.cell (p := ⟨gi, oi, none⟩) hgi).trans bb0
  replace bb1 := (hbW.cell (p := ⟨gi, oi + 1, none⟩) hgi).trans bb1
  replace bb2 := (hbW.cell (p := ⟨gi, oi + 2, none⟩) hgi).trans bb2
  replace hga := Nat.lt_of_lt_of_le hga hbW.size
  replace hgi := Nat.lt_of_lt_of_le hgi hbW.size
  replace hsl := Nat.lt_of_lt_of_le hsl hbW.size
  clear hW1 hB1 hR1 hrx hbx hbW
  refine wp_region_E (fun w9 => Below W1.heap.size W1 w9) [(0, 0), (1, 1), (2, 2), (3, 0), (4, 0), (5, 0), (6, 1), (7, 0)] (by kernel_rfl) (by kernel_rfl) (fun KK hKK => ?_)
  simp only [beside, List.filterMap_cons, List.filterMap_nil, List.getElem?_toArray, List.getElem?_cons_zero, List.getElem?_cons_succ, Option.map_some]
  repeat (first | (refine wpX_w ?_ (Or.inl ⟨by rfl, fun w9 => ?_⟩) ?_; rotate_left 1; go_simp; with_reducible rfl; simp only [Act.put, List.setIfInBounds_toArray, List.set_cons_zero, List.set_cons_succ]) | (refine wpX_l ?_ (((Below.refl _ _).drew)) (Or.inl ⟨by rfl, fun w9 hw9 => ?_⟩) ?_; rotate_left 1; obtain ⟨hc9, hf9⟩ := bcell hw9; go_simp; with_reducible rfl; simp only [Act.put, List.setIfInBounds_toArray, List.set_cons_zero, List.set_cons_succ]) | (refine wpX_w undef (Or.inr ⟨by rfl, rfl⟩) ?_; simp only [Act.put, List.setIfInBounds_toArray, List.set_cons_zero, List.set_cons_succ]) | (refine wpX_l undef (((Below.refl _ _).drew)) (Or.inr ⟨by rfl, rfl⟩) ?_; simp only [Act.put, List.setIfInBounds_toArray, List.set_cons_zero, List.set_cons_succ]))
  refine wpX_es (fun K9 hK9 => ?_)
  go_simp
  refine (gword_is _ _).mono ?_
  rintro e w2 ⟨rfl, hb2⟩
  have HB2 := Lib.hid ((Below.refl W1.heap.size W1).drew.trans (hb2.mono (by simp)))
  clear hb2
  refine hK9 _ _ HB2.out ?_
  clear hK9 K9
  repeat (first | (refine wpX_w ?_ (Or.inl ⟨by rfl, fun w9 => ?_⟩) ?_; rotate_left 1; go_simp; with_reducible rfl; simp only [Act.put, List.setIfInBounds_toArray, List.set_cons_zero, List.set_cons_succ]) | (refine wpX_l ?_ (HB2.out) (Or.inl ⟨by rfl, fun w9 hw9 => ?_⟩) ?_; rotate_left 1; obtain ⟨hc9, hf9⟩ := bcell hw9; go_simp; with_reducible rfl; simp only [Act.put, List.setIfInBounds_toArray, List.set_cons_zero, List.set_cons_succ]) | (refine wpX_w undef (Or.inr ⟨by rfl, rfl⟩) ?_; simp only [Act.put, List.setIfInBounds_toArray, List.set_cons_zero, List.set_cons_succ]) | (refine wpX_l undef (HB2.out) (Or.inr ⟨by rfl, rfl⟩) ?_; simp only [Act.put, List.setIfInBounds_toArray, List.set_cons_zero, List.set_cons_succ]))
  refine wpX_nil ?_
  simp only [OnlyN_normal]
  refine hKK _ _ ?_
  clear hKK KK
  have sw2 := (HB2.out.cell (p := ⟨sb, 2, none⟩) hsl).trans s2
  have hslw := Nat.lt_of_lt_of_le hsl HB2.out.size
  go_wp2_with fail
  go_loopw [24] (fun s wr => ∃ i : Nat, s = .int .i64 i ∧ i ≤ 1 ∧ Below W1.heap.size W1 wr) (fun s wr => 2 - (intOf s).toNat)
  case atStart => exact ⟨0, rfl, by omega, HB2.out⟩
  case round =>
    obtain ⟨i, rfl, hi1, hB⟩ := hrel
    have HB := Lib.hid hB
    clear hB
    have qs2 := (HB.out.cell (p := ⟨sb, 2, none⟩) hsl).trans s2
    have qaa0 := (HB.out.cell (p := ⟨ga, 0, none⟩) hga).trans aa0
    have qaa1 := (HB.out.cell (p := ⟨ga, 1, none⟩) hga).trans aa1
    have qaa2 := (HB.out.cell (p := ⟨ga, 2, none⟩) hga).trans aa2
    have qaa3 := (HB.out.cell (p := ⟨ga, 3, none⟩) hga).trans aa3
    have qaa4 := (HB.out.cell (p := ⟨ga, 4, none⟩) hga).trans aa4
    have qaa5 := (HB.out.cell (p := ⟨ga, 5, none⟩) hga).trans aa5
    have qaa6 := (HB.out.cell (p := ⟨ga, 6, none⟩) hga).trans aa6
    have qaa7 := (HB.out.cell (p := ⟨ga, 7, none⟩) hga).trans aa7
    have qaa8 := (HB.out.cell (p := ⟨ga, 8, none⟩) hga).trans aa8
    have qaa9 := (HB.out.cell (p := ⟨ga, 9, none⟩) hga).trans aa9
    have qaa10 := (HB.out.cell (p := ⟨ga, 10, none⟩) hga).trans aa10
    have qaa11 := (HB.out.cell (p := ⟨ga, 11, none⟩) hga).trans aa11
    have qaa12 := (HB.out.cell (p := ⟨ga, 12, none⟩) hga).trans aa12
    have qaa13 := (HB.out.cell (p := ⟨ga, 13, none⟩) hga).trans aa13
    have qaa14 := (HB.out.cell (p := ⟨ga, 14, none⟩) hga).trans aa14
    have qaa15 := (HB.out.cell (p := ⟨ga, 15, none⟩) hga).trans aa15
    have qaa16 := (HB.out.cell (p := ⟨ga, 16, none⟩) hga).trans aa16
    have qaa17 := (HB.out.cell (p := ⟨ga, 17, none⟩) hga).trans aa17
    have qbb0 := (HB.out.cell (p := ⟨gi, oi, none⟩) hgi).trans bb0
    have qbb1 := (HB.out.cell (p := ⟨gi, oi + 1, none⟩) hgi).trans bb1
    have qbb2 := (HB.out.cell (p := ⟨gi, oi + 2, none⟩) hgi).trans bb2
    have qee0 := (HB.out.cell (p := ⟨bx, 0, none⟩) hbl).trans ee0
    have qee1 := (HB.out.cell (p := ⟨bx, 1, none⟩) hbl).trans ee1
    have qee2 := (HB.out.cell (p := ⟨bx, 2, none⟩) hbl).trans ee2
    have qee3 := (HB.out.cell (p := ⟨bx, 3, none⟩) hbl).trans ee3
    have qee4 := (HB.out.cell (p := ⟨bx, 4, none⟩) hbl).trans ee4
    have qee5 := (HB.out.cell (p := ⟨bx, 5, none⟩) hbl).trans ee5
    have qee6 := (HB.out.cell (p := ⟨bx, 6, none⟩) hbl).trans ee6
    have qee7 := (HB.out.cell (p := ⟨bx, 7, none⟩) hbl).trans ee7
    have qee8 := (HB.out.cell (p := ⟨bx, 8, none⟩) hbl).trans ee8
    have qee9 := (HB.out.cell (p := ⟨bx, 9, none⟩) hbl).trans ee9
    have qee10 := (HB.out.cell (p := ⟨bx, 10, none⟩) hbl).trans ee10
    have qee11 := (HB.out.cell (p := ⟨bx, 11, none⟩) hbl).trans ee11
    have qhbl := Nat.lt_of_lt_of_le hbl HB.out.size
    have qhga := Nat.lt_of_lt_of_le hga HB.out.size
    have qhgi := Nat.lt_of_lt_of_le hgi HB.out.size
    have qhsl := Nat.lt_of_lt_of_le hsl HB.out.size
    obtain rfl | rfl : i = 0 ∨ i = 1 := by omega
    · go_wp2_with fail
      go_roundw
      case rel => exact ⟨1, by go_num, by omega, HB.out.trans (Below.mono (by (repeat (first | exact Below.refl _ _ | (refine Below.drew ?_) | (refine Below.alloc ?_ (by simp <;> omega) _) | (refine Below.setCell ?_ (by simp <;> omega) _)))) HB.out.size)⟩
      case measure => simp [intOf] <;> omega
    · go_wp2_with fail
      go_loopw [37] (fun s wq => s = .int .i64 0 ∧ Below W1.heap.size W1 wq) (fun s wq => 1 - (intOf s).toNat)
      case atStart => exact ⟨rfl, HB.out.trans (Below.mono (by (repeat (first | exact Below.refl _ _ | (refine Below.drew ?_) | (refine Below.alloc ?_ (by simp <;> omega) _) | (refine Below.setCell ?_ (by simp <;> omega) _)))) HB.out.size)⟩
      case round =>
        obtain ⟨rfl, hBq⟩ := hrel
        have HBQ := Lib.hid hBq
        clear hBq qs2 qaa0 qaa1 qaa2 qaa3 qaa4 qaa5 qaa6 qaa7 qaa8 qaa9 qaa10 qaa11 qaa12 qaa13 qaa14 qaa15 qaa16 qaa17 qbb0 qbb1 qbb2 qee0 qee1 qee2 qee3 qee4 qee5 qee6 qee7 qee8 qee9 qee10 qee11 qhbl qhga qhgi qhsl
        have ps2 := (HBQ.out.cell (p := ⟨sb, 2, none⟩) hsl).trans s2
        have paa0 := (HBQ.out.cell (p := ⟨ga, 0, none⟩) hga).trans aa0
        have paa1 := (HBQ.out.cell (p := ⟨ga, 1, none⟩) hga).trans aa1
        have paa2 := (HBQ.out.cell (p := ⟨ga, 2, none⟩) hga).trans aa2
        have paa3 := (HBQ.out.cell (p := ⟨ga, 3, none⟩) hga).trans aa3
        have paa4 := (HBQ.out.cell (p := ⟨ga, 4, none⟩) hga).trans aa4
        have paa5 := (HBQ.out.cell (p := ⟨ga, 5, none⟩) hga).trans aa5
        have paa6 := (HBQ.out.cell (p := ⟨ga, 6, none⟩) hga).trans aa6
        have paa7 := (HBQ.out.cell (p := ⟨ga, 7, none⟩) hga).trans aa7
        have paa8 := (HBQ.out.cell (p := ⟨ga, 8, none⟩) hga).trans aa8
        have paa9 := (HBQ.out.cell (p := ⟨ga, 9, none⟩) hga).trans aa9
        have paa10 := (HBQ.out.cell (p := ⟨ga, 10, none⟩) hga).trans aa10
        have paa11 := (HBQ.out.cell (p := ⟨ga, 11, none⟩) hga).trans aa11
        have paa12 := (HBQ.out.cell (p := ⟨ga, 12, none⟩) hga).trans aa12
        have paa13 := (HBQ.out.cell (p := ⟨ga, 13, none⟩) hga).trans aa13
        have paa14 := (HBQ.out.cell (p := ⟨ga, 14, none⟩) hga).trans aa14
        have paa15 := (HBQ.out.cell (p := ⟨ga, 15, none⟩) hga).trans aa15
        have paa16 := (HBQ.out.cell (p := ⟨ga, 16, none⟩) hga).trans aa16
        have paa17 := (HBQ.out.cell (p := ⟨ga, 17, none⟩) hga).trans aa17
        have pbb0 := (HBQ.out.cell (p := ⟨gi, oi, none⟩) hgi).trans bb0
        have pbb1 := (HBQ.out.cell (p := ⟨gi, oi + 1, none⟩) hgi).trans bb1
        have pbb2 := (HBQ.out.cell (p := ⟨gi, oi + 2, none⟩) hgi).trans bb2
        have pee0 := (HBQ.out.cell (p := ⟨bx, 0, none⟩) hbl).trans ee0
        have pee1 := (HBQ.out.cell (p := ⟨bx, 1, none⟩) hbl).trans ee1
        have pee2 := (HBQ.out.cell (p := ⟨bx, 2, none⟩) hbl).trans ee2
        have pee3 := (HBQ.out.cell (p := ⟨bx, 3, none⟩) hbl).trans ee3
        have pee4 := (HBQ.out.cell (p := ⟨bx, 4, none⟩) hbl).trans ee4
        have pee5 := (HBQ.out.cell (p := ⟨bx, 5, none⟩) hbl).trans ee5
        have pee6 := (HBQ.out.cell (p := ⟨bx, 6, none⟩) hbl).trans ee6
        have pee7 := (HBQ.out.cell (p := ⟨bx, 7, none⟩) hbl).trans ee7
        have pee8 := (HBQ.out.cell (p := ⟨bx, 8, none⟩) hbl).trans ee8
        have pee9 := (HBQ.out.cell (p := ⟨bx, 9, none⟩) hbl).trans ee9
        have pee10 := (HBQ.out.cell (p := ⟨bx, 10, none⟩) hbl).trans ee10
        have pee11 := (HBQ.out.cell (p := ⟨bx, 11, none⟩) hbl).trans ee11
        have phbl := Nat.lt_of_lt_of_le hbl HBQ.out.size
        have phga := Nat.lt_of_lt_of_le hga HBQ.out.size
        have phgi := Nat.lt_of_lt_of_le hgi HBQ.out.size
        have phsl := Nat.lt_of_lt_of_le hsl HBQ.out.size
        go_wp2_with fail
        obtain ⟨V, hV⟩ : ∃ V, V = wr.alloc (.cells #[.int .i64 1, .string ⟨#[79]⟩, .int .i64 1] 36) := ⟨_, rfl⟩
        rw [← hV]
        have hbV : Below W1.heap.size W1 V := by rw [hV]; exact HBQ.out.alloc HBQ.out.size _
        have hkB : Blk V wr.heap.size 36 #[.int .i64 1, .string ⟨#[79]⟩, .int .i64 1] := by rw [hV]; exact Blk.new _ _ _
        obtain ⟨kx, hkx⟩ : ∃ kx, kx = wr.heap.size := ⟨_, rfl⟩
        rw [← hkx] at hkB ⊢
        have x0 : V.cell? ⟨kx, 0, none⟩ = some (.int .i64 1) := (hkB.cell 0).trans rfl
        have x1 : V.cell? ⟨kx, 1, none⟩ = some (.string ⟨#[79]⟩) := (hkB.cell 1).trans rfl
        have x2 : V.cell? ⟨kx, 2, none⟩ = some (.int .i64 1) := (hkB.cell 2).trans rfl
        have hkV := hkB.lt
        have HBV := Lib.hid hbV
        clear hV hkB hkx hbV ps2 paa0 paa1 paa2 paa3 paa4 paa5 paa6 paa7 paa8 paa9 paa10 paa11 paa12 paa13 paa14 paa15 paa16 paa17 pbb0 pbb1 pbb2 pee0 pee1 pee2 pee3 pee4 pee5 pee6 pee7 pee8 pee9 pee10 pee11 phbl phga phgi phsl
        have vs2 := (HBV.out.cell (p := ⟨sb, 2, none⟩) hsl).trans s2
        have vaa0 := (HBV.out.cell (p := ⟨ga, 0, none⟩) hga).trans aa0
        have vaa1 := (HBV.out.cell (p := ⟨ga, 1, none⟩) hga).trans aa1
        have vaa2 := (HBV.out.cell (p := ⟨ga, 2, none⟩) hga).trans aa2
        have vaa3 := (HBV.out.cell (p := ⟨ga, 3, none⟩) hga).trans aa3
        have vaa4 := (HBV.out.cell (p := ⟨ga, 4, none⟩) hga).trans aa4
        have vaa5 := (HBV.out.cell (p := ⟨ga, 5, none⟩) hga).trans aa5
        have vaa6 := (HBV.out.cell (p := ⟨ga, 6, none⟩) hga).trans aa6
        have vaa7 := (HBV.out.cell (p := ⟨ga, 7, none⟩) hga).trans aa7
        have vaa8 := (HBV.out.cell (p := ⟨ga, 8, none⟩) hga).trans aa8
        have vaa9 := (HBV.out.cell (p := ⟨ga, 9, none⟩) hga).trans aa9
        have vaa10 := (HBV.out.cell (p := ⟨ga, 10, none⟩) hga).trans aa10
        have vaa11 := (HBV.out.cell (p := ⟨ga, 11, none⟩) hga).trans aa11
        have vaa12 := (HBV.out.cell (p := ⟨ga, 12, none⟩) hga).trans aa12
        have vaa13 := (HBV.out.cell (p := ⟨ga, 13, none⟩) hga).trans aa13
        have vaa14 := (HBV.out.cell (p := ⟨ga, 14, none⟩) hga).trans aa14
        have vaa15 := (HBV.out.cell (p := ⟨ga, 15, none⟩) hga).trans aa15
        have vaa16 := (HBV.out.cell (p := ⟨ga, 16, none⟩) hga).trans aa16
        have vaa17 := (HBV.out.cell (p := ⟨ga, 17, none⟩) hga).trans aa17
        have vbb0 := (HBV.out.cell (p := ⟨gi, oi, none⟩) hgi).trans bb0
        have vbb1 := (HBV.out.cell (p := ⟨gi, oi + 1, none⟩) hgi).trans bb1
        have vbb2 := (HBV.out.cell (p := ⟨gi, oi + 2, none⟩) hgi).trans bb2
        have vee0 := (HBV.out.cell (p := ⟨bx, 0, none⟩) hbl).trans ee0
        have vee1 := (HBV.out.cell (p := ⟨bx, 1, none⟩) hbl).trans ee1
        have vee2 := (HBV.out.cell (p := ⟨bx, 2, none⟩) hbl).trans ee2
        have vee3 := (HBV.out.cell (p := ⟨bx, 3, none⟩) hbl).trans ee3
        have vee4 := (HBV.out.cell (p := ⟨bx, 4, none⟩) hbl).trans ee4
        have vee5 := (HBV.out.cell (p := ⟨bx, 5, none⟩) hbl).trans ee5
        have vee6 := (HBV.out.cell (p := ⟨bx, 6, none⟩) hbl).trans ee6
        have vee7 := (HBV.out.cell (p := ⟨bx, 7, none⟩) hbl).trans ee7
        have vee8 := (HBV.out.cell (p := ⟨bx, 8, none⟩) hbl).trans ee8
        have vee9 := (HBV.out.cell (p := ⟨bx, 9, none⟩) hbl).trans ee9
        have vee10 := (HBV.out.cell (p := ⟨bx, 10, none⟩) hbl).trans ee10
        have vee11 := (HBV.out.cell (p := ⟨bx, 11, none⟩) hbl).trans ee11
        have vhbl := Nat.lt_of_lt_of_le hbl HBV.out.size
        have vhga := Nat.lt_of_lt_of_le hga HBV.out.size
        have vhgi := Nat.lt_of_lt_of_le hgi HBV.out.size
        have vhsl := Nat.lt_of_lt_of_le hsl HBV.out.size
        have vw0 : IntKind.i64.wrap 0 = 0 := rfl
        have vw1 : IntKind.i64.wrap (((1 : Nat) : Int) - 1) = 0 := rfl
        have vw2 : IntKind.i64.wrap ((1 : Int) - 1) = 0 := rfl
        refine wp_region_E (fun w9 => Below V.heap.size V w9) [(0, 0), (1, 0), (2, 0), (3, 1), (4, 0), (5, 0), (6, 0), (7, 0), (8, 1), (10, 1), (9, 2), (11, 0), (12, 2), (13, 0)] (by kernel_rfl) (by kernel_rfl) (fun KK hKK => ?_)
        simp only [beside, List.filterMap_cons, List.filterMap_nil, List.getElem?_toArray, List.getElem?_cons_zero, List.getElem?_cons_succ, Option.map_some]
        repeat (first | (refine wpX_w ?_ (Or.inl ⟨by rfl, fun w9 => ?_⟩) ?_; rotate_left 1; go_simp; with_reducible rfl; simp only [Act.put, List.setIfInBounds_toArray, List.set_cons_zero, List.set_cons_succ]) | (refine wpX_l ?_ (((Below.refl _ _).drew)) (Or.inl ⟨by rfl, fun w9 hw9 => ?_⟩) ?_; rotate_left 1; obtain ⟨hc9, hf9⟩ := bcell hw9; go_simp; with_reducible rfl; simp only [Act.put, List.setIfInBounds_toArray, List.set_cons_zero, List.set_cons_succ]) | (refine wpX_w undef (Or.inr ⟨by rfl, rfl⟩) ?_; simp only [Act.put, List.setIfInBounds_toArray, List.set_cons_zero, List.set_cons_succ]) | (refine wpX_l undef (((Below.refl _ _).drew)) (Or.inr ⟨by rfl, rfl⟩) ?_; simp only [Act.put, List.setIfInBounds_toArray, List.set_cons_zero, List.set_cons_succ]))
        refine wpX_es (fun K9 hK9 => ?_)
        go_simp
        refine (gword_is _ _).mono ?_
        rintro e w5 ⟨rfl, hb5⟩
        have HB5 := Lib.hid ((Below.refl V.heap.size V).drew.trans (hb5.mono (by simp)))
        clear hb5
        have HTH := Lib.hid (show w5.there rx 0 (#[.int .i64 1, .string ⟨#[83]⟩, .int .i64 1, .int .i64 3, .string ⟨#[111, 112, 101, 114, 97, 116, 111, 114]⟩, .int .i64 0, .int .i64 1, .string ⟨#[79]⟩, .int .i64 1, .bool true, .bool true, .int .i64 0] : Array Value).size from ((HR1.out.new_ HBV.out).new_ HB5.out).there)
        refine hK9 _ _ HB5.out ?_
        clear hK9 K9
        repeat (first | (refine wpX_w ?_ (Or.inl ⟨by rfl, fun w9 => ?_⟩) ?_; rotate_left 1; go_simp; with_reducible rfl; simp only [Act.put, List.setIfInBounds_toArray, List.set_cons_zero, List.set_cons_succ]) | (refine wpX_l ?_ (HB5.out) (Or.inl ⟨by rfl, fun w9 hw9 => ?_⟩) ?_; rotate_left 1; obtain ⟨hc9, hf9⟩ := bcell hw9; go_simp; with_reducible rfl; simp only [Act.put, List.setIfInBounds_toArray, List.set_cons_zero, List.set_cons_succ]) | (refine wpX_w undef (Or.inr ⟨by rfl, rfl⟩) ?_; simp only [Act.put, List.setIfInBounds_toArray, List.set_cons_zero, List.set_cons_succ]) | (refine wpX_l undef (HB5.out) (Or.inr ⟨by rfl, rfl⟩) ?_; simp only [Act.put, List.setIfInBounds_toArray, List.set_cons_zero, List.set_cons_succ]))
        refine wpX_e (by kernel_rfl) (fun K9 hK9 => ?_)
        refine step_store_el rfl 50 (.tmp 4) (.tmp 56) rfl rx 0 #[.int .i64 1, .string ⟨#[83]⟩, .int .i64 1, .int .i64 3, .string ⟨#[111, 112, 101, 114, 97, 116, 111, 114]⟩, .int .i64 0, .int .i64 1, .string ⟨#[79]⟩, .int .i64 1, .bool true, .bool true, .int .i64 0] (by rfl) (by rfl) HTH.out (by kernel_rfl) (by kernel_rfl) ?_
        refine hK9 _ _ ?_
        clear hK9 K9
        repeat (first | (refine wpX_w ?_ (Or.inl ⟨by rfl, fun w9 => ?_⟩) ?_; rotate_left 1; go_simp; with_reducible rfl; simp only [Act.put, List.setIfInBounds_toArray, List.set_cons_zero, List.set_cons_succ]) | (refine wpX_l ?_ (HB5.out) (Or.inl ⟨by rfl, fun w9 hw9 => ?_⟩) ?_; rotate_left 1; obtain ⟨hc9, hf9⟩ := bcell hw9; go_simp; with_reducible rfl; simp only [Act.put, List.setIfInBounds_toArray, List.set_cons_zero, List.set_cons_succ]) | (refine wpX_w undef (Or.inr ⟨by rfl, rfl⟩) ?_; simp only [Act.put, List.setIfInBounds_toArray, List.set_cons_zero, List.set_cons_succ]) | (refine wpX_l undef (HB5.out) (Or.inr ⟨by rfl, rfl⟩) ?_; simp only [Act.put, List.setIfInBounds_toArray, List.set_cons_zero, List.set_cons_succ]))
        refine wpX_nil ?_
        simp only [OnlyN_normal]
        refine hKK _ _ ?_
        clear hKK KK
        go_wp2_with fail
        try simp only [Exit.inBlock, Exit.then]
        refine bodyPost_ret (v := .tuple #[.agg #[.int .i64 1, .string ⟨#[83]⟩, .int .i64 1, .int .i64 3, .string ⟨#[111, 112, 101, 114, 97, 116, 111, 114]⟩, .int .i64 0, .int .i64 1, .string ⟨#[79]⟩, .int .i64 1, .bool true, .bool true, .int .i64 0], .bool true]) ?_ rfl ⟨rfl, Below.setCells' _ _ (HBW.out.trans ((HBV.out.trans (HB5.out.mono HBV.out.size)).mono HBW.out.size)) HBX.out⟩
        exact results_cell_tmp (t := 4) (s := 5) (T := 50) rfl _ _ rx [.int .i64 1, .string ⟨#[83]⟩, .int .i64 1, .int .i64 3, .string ⟨#[111, 112, 101, 114, 97, 116, 111, 114]⟩, .int .i64 0, .int .i64 1, .string ⟨#[79]⟩, .int .i64 1, .bool true, .bool true, .int .i64 0] _ rfl (World.rangeAt_setCells_same w5 rx 0 [.int .i64 1, .string ⟨#[83]⟩, .int .i64 1, .int .i64 3, .string ⟨#[111, 112, 101, 114, 97, 116, 111, 114]⟩, .int .i64 0, .int .i64 1, .string ⟨#[79]⟩, .int .i64 1, .bool true, .bool true, .int .i64 0] HTH.out) Try.underlying50 rfl (by kernel_rfl)
end Go.Proofs.Ythogokcbbkjcdaa

namespace Go.Proofs.Ythogokcbbkjcdaa
open Go.RowKit
theorem wp_max {P : Program} {o : Oper} {a : Act} {w : World} {K : Act → World → Prop} {Q : Exit → Act → World → Prop} (s x : Operand) (ts : Array TypeId)
    (ho : o.op = .call { callee := .builtin .max, args := #[s, x], argTypes := ts }) (k : IntKind) (p q r : Int) (hs : a.eval s = .int k p) (hx : a.eval x = .int k q) (hr : max p q = r) (h : K (a.put o.dst (.int k r)) w) :
    Oper.wp P o a w K Q := by
  unfold Oper.wp execOp
  simp only [ho, resolve, invoke, builtin, Sem.run_bind, Sem.run_pure, Result.andThen_ok, List.map_toArray, List.map_cons, List.map_nil, hs, hx, Lib.run_max_ints, hr]
  exact h
theorem wpList_max {P : Program} {ops : Array Oper} {rest : List Oper} {o : Oper} {a : Act} {w : World} {Q : Exit → Act → World → Prop} (hgd : o.guard = none) (s x : Operand) (ts : Array TypeId)
    (ho : o.op = .call { callee := .builtin .max, args := #[s, x], argTypes := ts }) (k : IntKind) (p q r : Int) (hs : a.eval s = .int k p) (hx : a.eval x = .int k q) (hr : max p q = r) (h : wpList P ops Q rest (a.put o.dst (.int k r)) w) :
    wpList P ops Q (o :: rest) a w :=
  wpList_plain hgd fun _ hK => wp_max s x ts ho k p q r hs hx hr (hK _ _ h)
end Go.Proofs.Ythogokcbbkjcdaa
