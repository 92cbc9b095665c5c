/-
  Texts put together: TabOne, TabTwo, SymNumber, SymParse, TabWakes, Rep, RowSym, Types.
-/
import Derived.Test.YtlkffnmmphehdaaMf
import Derived.Test.YtlkffnmmphehdaaMd
import Derived.Test.YtlkffnmmphehdaaMe
import Derived.Test.YtlkffnmmphehdaaMa

namespace Go.Proofs.Ytlkffnmmphehdaa
open Go.RowKit Go.Shelf
/-- What a table is, in a family of sets. -/
structure TabSt (W : World) (S : Nat → Option (List Sym)) (S2 : Nat → Option (List Page)) (T : TB) (L : List Sym) (m : List Page) : Prop where
  blk : TabBlk W T
  bs : S T.bs = some L
  bp : S2 T.bp = some m
  ti : TI L m
  srt : Srt cmpSym L
  val : ∀ s ∈ L, validB s = true
  len : (L.length : Int) ≤ T.room
  r1 : 1 ≤ T.room
  r2 : T.room ≤ 4096
/-- One table that knows L; blocks of D lie under protection. -/
def One (D : Nat → Prop) (W : World) (T : TB) (L : List Sym) : Prop := ∃ S σ S2 σ2 m, Tabs D W S σ S2 σ2 ∧ TabSt W S S2 T L m
/-- The answers. -/
def putCode (room : Int) (L X : List Sym) : Int := if X.all validB = true then (if room < ((puts cmpSym L X).length : Int) then 20 else 0) else 9
def putList (room : Int) (L X : List Sym) : List Sym := if X.all validB = true then (if room < ((puts cmpSym L X).length : Int) then L else puts cmpSym L X) else L
def zsym : Sym := ⟨0, ⟨#[]⟩, 0⟩
def freshE (room : Int) (L : List Sym) (c : UInt8) : Int := if nextL L c = 0 then 1 else if room ≤ (L.length : Int) ∨ 1048576 < nextL L c then 20 else 0
def freshS (room : Int) (L : List Sym) (c : UInt8) : Sym := if freshE room L c = 0 then ⟨1, letB c, nextL L c⟩ else zsym
def freshL (room : Int) (L : List Sym) (c : UInt8) : List Sym := if freshE room L c = 0 then put cmpSym L ⟨1, letB c, nextL L c⟩ else L
theorem nextL_pos {L : List Sym} {c : UInt8} (h : greatB c = true) : 1 ≤ nextL L c := by unfold nextL; rw [if_pos h]; have := maxL_nonneg L c; omega
theorem fresh_not {L : List Sym} {c : UInt8} (hg : greatB c = true) : has cmpSym L ⟨1, letB c, nextL L c⟩ = false := by
  rw [hasNot]
  intro hm
  have h5 := (maxL_le.1 (Int.le_refl (maxL L c))).2 _ hm ⟨rfl, rfl⟩
  have h6 : nextL L c = maxL L c + 1 := by unfold nextL; rw [if_pos hg]
  dsimp only at h5
  omega
theorem nextL_zero {L : List Sym} {c : UInt8} (h : greatB c = false) : nextL L c = 0 := by unfold nextL; simp [h]
section
variable {D D' : Nat → Prop} {W W' : World} {T : TB} {L : List Sym}
theorem TabSt.blk_ {S : Nat → Option (List Sym)} {S2 : Nat → Option (List Page)} {m : List Page} (h : TabSt W S S2 T L m) (hb : TabBlk W' T) : TabSt W' S S2 T L m := ⟨hb, h.bs, h.bp, h.ti, h.srt, h.val, h.len, h.r1, h.r2⟩
theorem One.below (h : One D W T L) (hb : Below W.heap.size W W') : One D W' T L := by
  obtain ⟨S, σ, S2, σ2, m, h1, h2⟩ := h
  exact ⟨S, σ, S2, σ2, m, h1.below hb, h2.blk_ (h2.blk.below hb)⟩
theorem One.protect (h : One D W T L) (hb : Below W.heap.size W W') : One (fun j => D j ∨ (W.heap.size ≤ j ∧ j < W'.heap.size)) W' T L := by
  obtain ⟨S, σ, S2, σ2, m, h1, h2⟩ := h
  exact ⟨S, σ, S2, σ2, m, h1.protect hb, h2.blk_ (h2.blk.below hb)⟩
theorem One.weaken (h : One D W T L) (hD : ∀ j, D' j → D j) : One D' W T L := by
  obtain ⟨S, σ, S2, σ2, m, h1, h2⟩ := h
  exact ⟨S, σ, S2, σ2, m, h1.weaken hD, h2⟩
theorem Tabs.off_blk {S : Nat → Option (List Sym)} {σ : Nat → St} {S2 : Nat → Option (List Page)} {σ2 : Nat → St} {k : Nat} {t : TypeId} {cs : Array Value} (h : Tabs D W S σ S2 σ2) (hB : Blk W k t cs) (h1 : t ≠ 83) (h2 : t ≠ 23) (h3 : t ≠ 98) (h4 : t ≠ 87) : Off k S σ ∧ Off k S2 σ2 := by
  refine ⟨fun b l hb => ⟨fun e => ?_, fun a ha e => ?_⟩, fun b l hb => ⟨fun e => ?_, fun a ha e => ?_⟩⟩
  · exact hB.ne_ (h.syms.at_ b l hb).blk h1 e.symm
  · have := own_blk_ne (h.syms.at_ b l hb).row hB (Ne.symm h2)
    rw [ha] at this
    exact this (by simp [Value.ownBlock, e])
  · exact hB.ne_ (h.pages.at_ b l hb).blk h3 e.symm
  · have := own_blk_ne (h.pages.at_ b l hb).row hB (Ne.symm h4)
    rw [ha] at this
    exact this (by simp [Value.ownBlock, e])
theorem Tabs.offProtect {S : Nat → Option (List Sym)} {σ : Nat → St} {S2 : Nat → Option (List Page)} {σ2 : Nat → St} {k : Nat} (h : Tabs D W S σ S2 σ2) (ho : Off k S σ ∧ Off k S2 σ2) (hF : Fr (· = k) W W') : Tabs (fun j => D j ∨ (W.heap.size ≤ j ∧ j < W'.heap.size)) W' S σ S2 σ2 := by
  have h1 := h.off ho.1 ho.2 hF
  exact ⟨h1.syms.widen W.heap.size (fun b l hb => ⟨h.syms.lt hb, fun _ => (h.syms.at_ b l hb).row_lt⟩), h1.pages.widen W.heap.size (fun b l hb => ⟨h.pages.lt hb, fun _ => (h.pages.at_ b l hb).row_lt⟩)⟩
/-- The document's table is written. -/
theorem One.doc {k : Nat} {room : Int} {l : List Sym} {A : Option Addr} {cap : Nat} (h : One D W T L) (hR : RTabA W k room l A cap) (hF : Fr (· = k) W W') : One (fun j => D j ∨ (W.heap.size ≤ j ∧ j < W'.heap.size)) W' T L := by
  obtain ⟨S, σ, S2, σ2, m, h1, h2⟩ := h
  exact ⟨S, σ, S2, σ2, m, h1.offProtect (h1.off_blk hR.1 (by decide) (by decide) (by decide) (by decide)) hF, h2.blk_ ⟨h2.blk.1.fr hF (h2.blk.1.ne_ hR.1 (by decide)), h2.blk.2.fr hF (h2.blk.2.ne_ hR.1 (by decide))⟩⟩
theorem One.low (h : One D W T L) : ∀ j, D j → j < W.heap.size := by
  obtain ⟨S, σ, S2, σ2, m, h1, h2⟩ := h
  exact h1.syms.low
theorem RTabA.frD {k : Nat} {room : Int} {l : List Sym} {A : Option Addr} {cap : Nat} (h : RTabA W k room l A cap) (hK : KB W W') (hF : Fr (fun j => ¬ D j) W W') (hA : AIn A D) : RTabA W' k room l A cap :=
  ⟨hK _ _ _ (by decide) (by decide) (by decide) (by decide) h.1, h.2.1.fr hF (hA.mono (fun j hj hn => hn hj)), h.2.2.mono (fun j hj => ⟨hj.1, Nat.lt_of_lt_of_le hj.2 hF.size⟩)⟩
theorem One.put_ {l : List Sym} {m m' : List Page} {S : Nat → Option (List Sym)} {σ : Nat → St} {S2 : Nat → Option (List Page)} {σ2 : Nat → St} (h2 : TabSt W S S2 T L m) (hP : TabPut D W S σ S2 σ2 T l m' W') (hti : TI l m') (hs : Srt cmpSym l) (hv : ∀ s ∈ l, validB s = true) (hl : (l.length : Int) ≤ T.room) : One D W' T l := by
  obtain ⟨⟨σ', σ2', h3, _⟩, hK, _⟩ := hP
  exact ⟨_, σ', _, σ2', m', h3, ⟨h2.blk.kb hK, upd_same _ _ _, upd_same _ _ _, hti, hs, hv, hl, h2.r1, h2.r2⟩⟩
theorem putList_valid {room : Int} {L X : List Sym} (h : ∀ s ∈ L, validB s = true) : ∀ s ∈ putList room L X, validB s = true := by
  unfold putList
  split
  · rename_i hx
    split
    · exact h
    · intro s hs
      rw [mem_puts_iff] at hs
      rcases hs with hs | hs
      · exact h s hs
      · exact List.all_eq_true.1 hx s hs
  · exact h
set_option maxHeartbeats 1000000 in
theorem one_put (X : List Sym) (A2 : Option Addr) (c2 : Nat) (h : One D W T L) (hX : RowRd W 3 Sym.cells A2 c2 X) (hl : (X.length : Int) ≤ 10000) :
    Calls Try.prog 23 #[.pointer (some ⟨T.b, 0, none⟩), .slice A2 X.length c2] W fun e W' => e = .returned (.int .i64 (putCode T.room L X)) ∧ One D W' T (putList T.room L X) ∧ Fr (fun j => ¬ D j) W W' ∧ KB W W' := by
  have H := h
  obtain ⟨S, σ, S2, σ2, m, h1, h2⟩ := h
  refine (tputl_is T L m X A2 c2 h1 h2.blk h2.bs h2.bp hX h2.r1 h2.r2 h2.len (page_len h2.ti.1) hl).mono ?_
  intro e W' hp
  have hval := putList_valid (room := T.room) (X := X) h2.val
  unfold TPut at hp
  unfold putList at hval ⊢
  unfold putCode
  split at hp
  · rename_i hx
    rw [if_pos hx] at hval
    rw [if_pos hx, if_pos hx]
    split at hp
    · rename_i hr
      rw [if_pos hr, if_pos hr]
      exact ⟨hp.1, H.below hp.2, Fr.of_new hp.2, KB.of_below hp.2⟩
    · rename_i hr
      rw [if_neg hr] at hval
      rw [if_neg hr, if_neg hr]
      have hti := h2.ti.puts (m := m) (frsh L X) (fun s hs => List.all_eq_true.1 hx s (mem_frsh.1 hs).1)
      rw [puts_frsh h2.srt] at hti
      exact ⟨hp.1, One.put_ h2 hp.2 hti (Srt.puts tc_sym _ h2.srt) hval (by omega), hp.2.2.2, hp.2.2.1⟩
  · rename_i hx
    rw [if_neg hx, if_neg hx]
    exact ⟨hp.1, H.below hp.2, Fr.of_new hp.2, KB.of_below hp.2⟩
set_option maxHeartbeats 1000000 in
theorem one_fresh (c : UInt8) (h : One D W T L) :
    Calls Try.prog 25 #[.pointer (some ⟨T.b, 0, none⟩), .int .u8 (c.toNat : Int)] W fun e W' => e = .returned (.tuple #[.agg #[.int .i64 (freshS T.room L c).kind, .string (freshS T.room L c).text, .int .i64 (freshS T.room L c).n], .int .i64 (freshE T.room L c)]) ∧ One D W' T (freshL T.room L c) ∧ Fr (fun j => ¬ D j) W W' ∧ KB W W' := by
  have H := h
  obtain ⟨S, σ, S2, σ2, m, h1, h2⟩ := h
  have hlen := h2.len
  have hr2 := h2.r2
  have hpl := page_len h2.ti.1
  cases hg : greatB c
  · have e0 : freshE T.room L c = 1 := by unfold freshE; rw [if_pos (nextL_zero hg)]
    have e1 : freshS T.room L c = zsym := by unfold freshS; rw [e0]; rfl
    have e2 : freshL T.room L c = L := by unfold freshL; rw [e0]; rfl
    rw [e0, e1, e2]
    exact (fresh_arg T c hg).mono fun e W' ⟨h3, h4⟩ => ⟨h3, H.below h4, Fr.of_new h4, KB.of_below h4⟩
  · have hp := nextL_pos (L := L) hg
    have hnb := h2.ti.next c
    by_cases hf : T.room ≤ L.length
    · have e0 : freshE T.room L c = 20 := by unfold freshE; rw [if_neg (by omega), if_pos (.inl hf)]
      have e1 : freshS T.room L c = zsym := by unfold freshS; rw [e0]; rfl
      have e2 : freshL T.room L c = L := by unfold freshL; rw [e0]; rfl
      rw [e0, e1, e2]
      exact (fresh_full T L m c h1 h2.blk h2.bs h2.bp hg hf (by omega)).mono fun e W' ⟨h3, h4⟩ => ⟨h3, H.below h4, Fr.of_new h4, KB.of_below h4⟩
    · by_cases hn : 1048576 < nextL L c
      · have e0 : freshE T.room L c = 20 := by unfold freshE; rw [if_neg (by omega), if_pos (.inr hn)]
        have e1 : freshS T.room L c = zsym := by unfold freshS; rw [e0]; rfl
        have e2 : freshL T.room L c = L := by unfold freshL; rw [e0]; rfl
        rw [e0, e1, e2]
        exact (fresh_far T L m c h1 h2.blk h2.bs h2.bp hg hf (by omega) (by omega)).mono fun e W' ⟨h3, h4⟩ => ⟨h3, H.below h4, Fr.of_new h4, KB.of_below h4⟩
      · have e0 : freshE T.room L c = 0 := by unfold freshE; rw [if_neg (by omega), if_neg (fun h => h.elim hf hn)]
        have e1 : freshS T.room L c = ⟨1, letB c, nextL L c⟩ := by unfold freshS; rw [if_pos e0]
        have e2 : freshL T.room L c = put cmpSym L ⟨1, letB c, nextL L c⟩ := by unfold freshL; rw [if_pos e0]
        have hv : validB ⟨1, letB c, nextL L c⟩ = true := valid_let hg hp (by omega)
        have hlp := length_put tc_sym h2.srt (fresh_not hg)
        rw [e0, e1, e2]
        refine (fresh_new T L m c h1 h2.blk h2.bs h2.bp hg hf (by omega) (by omega) (by omega) (by omega)).mono fun e W' ⟨h3, h4⟩ => ?_
        rw [hnb] at h3 h4
        exact ⟨h3, One.put_ h2 h4 (h2.ti.put hv) (h2.srt.put tc_sym _) (fun s hs => by
          rcases mem_put_iff.1 hs with hs | rfl
          · exact h2.val s hs
          · exact hv) (by rw [hlp]; omega), h4.2.2, h4.2.1⟩
theorem one_next (c : UInt8) (h : One D W T L) : Calls Try.prog 29 #[.pointer (some ⟨T.b, 0, none⟩), .int .u8 (c.toNat : Int)] W fun e W' => e = .returned (.int .i64 (nextL L c)) ∧ Below W.heap.size W W' := by
  obtain ⟨S, σ, S2, σ2, m, h1, h2⟩ := h
  rw [← h2.ti.next c]
  exact next_is T m c h1 h2.blk h2.bp (by have := page_len h2.ti.1; omega)
theorem one_has (s : Sym) (h : One D W T L) : Calls Try.prog 27 #[.pointer (some ⟨T.b, 0, none⟩), .agg #[.int .i64 s.kind, .string s.text, .int .i64 s.n]] W fun e W' => e = .returned (.bool (has cmpSym L s)) ∧ Below W.heap.size W W' := by
  obtain ⟨S, σ, S2, σ2, m, h1, h2⟩ := h
  exact tabhas_is T L s h1 h2.blk h2.bs (by have := h2.len; have := h2.r2; omega)
theorem one_len (h : One D W T L) : Calls Try.prog 31 #[.pointer (some ⟨T.b, 0, none⟩)] W fun e W' => e = .returned (.int .i64 L.length) ∧ W = W' := by
  obtain ⟨S, σ, S2, σ2, m, h1, h2⟩ := h
  exact tablen_is T L h1 h2.blk h2.bs
/-- The list of a table's sequence: in new memory. -/
theorem one_list (kb : Nat) (h : One D W T L) (hbox : W.cell? ⟨kb, 0, none⟩ = some (.pointer (some ⟨T.b, 0, none⟩))) :
    Calls Try.prog 33 #[.func (.func 57) #[] #[.pointer (some ⟨kb, 0, none⟩)]] W fun e W' => ∃ A c, e = .returned (.slice A L.length c) ∧ RowRd W' 3 Sym.cells A c L ∧ AIn A (fun j => W.heap.size ≤ j ∧ j < W'.heap.size) ∧ One (fun j => D j ∨ (W.heap.size ≤ j ∧ j < W'.heap.size)) W' T L ∧ Fr (fun j => ¬ D j) W W' ∧ KB W W' := by
  obtain ⟨S, σ, S2, σ2, m, h1, h2⟩ := h
  have hS := h1.syms.at_ T.bs L h2.bs
  refine (listP_Sym _ _ L W _ _ (seq_tall kb _ _ _ T L W hbox h2.blk hS) (by have := h2.len; have := h2.r2; omega)).mono ?_
  rintro e W' ⟨A, c, he, hown, hA, W1, W2, hB1, hs, hB2⟩
  have hS1 := hS.new_ hB1
  have hS2 := hs.set_ hS1 (by decide)
  have hF : Fr (· = T.bs) W W' := ((Fr.of_new (M := (· = T.bs)) hB1).trans (hs.fr.mono (fun _ _ h => h))).into (Fr.of_below hB2) (fun i hi => .inr hi)
  have hS3 : SymSet W' T.bs true (σ T.bs).A (σ T.bs).c L := hS2.fr (Fr.of_below hB2) (by have := hS.lt; omega) (hS.row_lt.mono (fun k hk => by omega))
  have hD : Fr (fun k => ¬ D k) W W' := hF.mono (fun k _ hk => by rw [hk]; exact (h1.syms.out T.bs L h2.bs).1)
  have hs1 := h1.syms.seen (by decide) h2.bs hS3 hF
  have hF2 : Fr (SetMod T.bs (σ T.bs).sn (σ T.bs).A) W W' := hF.mono (fun j _ hj => .inl hj)
  have hp1 := h1.pages.other hS (by decide) (by decide) (by decide) (by decide) hF2
  have hK := KB.of_sym hS hF2
  have hrd := ownsRow_rd Sym.cells_length hown
  have hlt : AIn A (· < W'.heap.size) := by
    intro a ha
    subst ha
    rcases ownsRow_form hown with ⟨hv, _⟩ | ⟨g, cap, hv, _, _, hr, _⟩
    · cases hv
    · injection hv with hv
      injection hv with hv
      subst hv
      exact hr.lt
  refine ⟨A, c, he, hrd, fun a ha => ⟨hA a ha, hlt a ha⟩, ⟨S, _, S2, σ2, m, ⟨hs1.widen W.heap.size (fun j l hj => ⟨h1.syms.lt hj, fun _ a ha => ?_⟩), hp1.widen W.heap.size (fun j l hj => ⟨h1.pages.lt hj, fun _ => (h1.pages.at_ j l hj).row_lt⟩)⟩, h2.blk_ (h2.blk.kb hK)⟩, hD, hK⟩
  by_cases e : j = T.bs
  · subst e; rw [upd_same] at ha; exact hS.row_lt a ha
  · rw [upd_ne _ _ e] at ha; exact (h1.syms.at_ j l hj).row_lt a ha
/-- A new table. -/
theorem one_new (room : Int) (w : World) (h1 : 1 ≤ room) (h2 : room ≤ 4096) : Calls Try.prog 21 #[.int .i64 room] w fun e w' => ∃ T : TB, e = .returned (.tuple #[.pointer (some ⟨T.b, 0, none⟩), .int .i64 0]) ∧ T.room = room ∧ One (· < w.heap.size) w' T [] ∧ Below w.heap.size w w' := by
  refine (tabnew_is room h1 h2 (Tabs.start w)).mono ?_
  rintro e w' ⟨T, he, hr, hB, ⟨σ', σ2', hT⟩, hb, _, _⟩
  exact ⟨T, he, hr, ⟨_, σ', _, σ2', [], hT, ⟨hB, upd_same _ _ _, upd_same _ _ _, TI.nil, Srt.nil, (fun s hs => absurd hs (by simp)), (by rw [List.length_nil]; omega), (by omega), (by omega)⟩⟩, hb⟩
/-! ### the document's -/
set_option maxHeartbeats 1000000 in
theorem doc_put (k : Nat) (room : Int) (X : List Sym) (A A2 : Option Addr) (cap c2 : Nat) (hR : RTabA W k room L A cap) (hs : Srt cmpSym L) (hX : RowRd W 3 Sym.cells A2 c2 X) (hl : (X.length : Int) ≤ 10000) (hL : (L.length : Int) ≤ 4096) :
    Calls Try.prog 24 #[.pointer (some ⟨k, 0, none⟩), .slice A2 X.length c2] W fun e W' => e = .returned (.int .i64 (putCode room L X)) ∧ (∃ A' cap', RTabA W' k room (putList room L X) A' cap' ∧ From A W.heap.size A') ∧ Fr (· = k) W W' := by
  refine (rtput_is k room L X A2 c2 A cap W hR hX hs (by omega) (by omega)).mono ?_
  intro e W' hp
  unfold RPut at hp
  unfold putList putCode
  split at hp
  · rename_i hx
    rw [if_pos hx, if_pos hx]
    split at hp
    · rename_i hr
      rw [if_pos hr, if_pos hr]
      exact ⟨hp.1, ⟨A, cap, hR.below_ hp.2, From.refl _ _⟩, Fr.of_new hp.2⟩
    · rename_i hr
      rw [if_neg hr, if_neg hr]
      exact hp
  · rename_i hx
    rw [if_neg hx, if_neg hx]
    exact ⟨hp.1, ⟨A, cap, hR.below_ hp.2, From.refl _ _⟩, Fr.of_new hp.2⟩
theorem valid_n (h : ∀ s ∈ L, validB s = true) : ∀ s ∈ L, s.kind = 1 → s.n ≤ 1048576 := fun s hs hk => by
  obtain ⟨k, t, n⟩ := s
  dsimp only at hk
  subst hk
  exact (validB_id (h _ hs)).2.2.2
set_option maxHeartbeats 1000000 in
theorem doc_fresh (k : Nat) (room : Int) (c : UInt8) (A : Option Addr) (cap : Nat) (hR : RTabA W k room L A cap) (hs : Srt cmpSym L) (hv : ∀ s ∈ L, validB s = true) (hL : (L.length : Int) ≤ 4096) :
    Calls Try.prog 26 #[.pointer (some ⟨k, 0, none⟩), .int .u8 (c.toNat : Int)] W fun e W' => e = .returned (.tuple #[.agg #[.int .i64 (freshS room L c).kind, .string (freshS room L c).text, .int .i64 (freshS room L c).n], .int .i64 (freshE room L c)]) ∧ (∃ A' cap', RTabA W' k room (freshL room L c) A' cap' ∧ From A W.heap.size A') ∧ Fr (· = k) W W' := by
  have hbd := valid_n hv
  have same : ∀ W', Below W.heap.size W W' → (∃ A' cap', RTabA W' k room L A' cap' ∧ From A W.heap.size A') ∧ Fr (· = k) W W' := fun W' hb => ⟨⟨A, cap, hR.below_ hb, From.refl _ _⟩, Fr.of_new hb⟩
  by_cases h0 : nextL L c = 0
  · have e0 : freshE room L c = 1 := by unfold freshE; rw [if_pos h0]
    have e1 : freshS room L c = zsym := by unfold freshS; rw [e0]; rfl
    have e2 : freshL room L c = L := by unfold freshL; rw [e0]; rfl
    rw [e0, e1, e2]
    exact (rfresh_arg k room L c A cap W hR hbd (by omega) h0).mono fun e W' ⟨h3, h4⟩ => ⟨h3, same W' h4⟩
  · by_cases hf : room ≤ L.length
    · have e0 : freshE room L c = 20 := by unfold freshE; rw [if_neg h0, if_pos (.inl hf)]
      have e1 : freshS room L c = zsym := by unfold freshS; rw [e0]; rfl
      have e2 : freshL room L c = L := by unfold freshL; rw [e0]; rfl
      rw [e0, e1, e2]
      exact (rfresh_full k room L c A cap W hR hbd (by omega) h0 hf).mono fun e W' ⟨h3, h4⟩ => ⟨h3, same W' h4⟩
    · by_cases hn : 1048576 < nextL L c
      · have e0 : freshE room L c = 20 := by unfold freshE; rw [if_neg h0, if_pos (.inr hn)]
        have e1 : freshS room L c = zsym := by unfold freshS; rw [e0]; rfl
        have e2 : freshL room L c = L := by unfold freshL; rw [e0]; rfl
        rw [e0, e1, e2]
        exact (rfresh_far k room L c A cap W hR hbd (by omega) h0 hf hn).mono fun e W' ⟨h3, h4⟩ => ⟨h3, same W' h4⟩
      · have e0 : freshE room L c = 0 := by unfold freshE; rw [if_neg h0, if_neg (fun h => h.elim hf hn)]
        have e1 : freshS room L c = ⟨1, letB c, nextL L c⟩ := by unfold freshS; rw [if_pos e0]
        have e2 : freshL room L c = put cmpSym L ⟨1, letB c, nextL L c⟩ := by unfold freshL; rw [if_pos e0]
        rw [e0, e1, e2]
        exact rfresh_new k room L c A cap W hR hbd (by omega) hs h0 hf (by omega)
theorem doc_next (k : Nat) (room : Int) (c : UInt8) (A : Option Addr) (cap : Nat) (hR : RTabA W k room L A cap) (hv : ∀ s ∈ L, validB s = true) (hL : (L.length : Int) ≤ 4096) :
    Calls Try.prog 30 #[.pointer (some ⟨k, 0, none⟩), .int .u8 (c.toNat : Int)] W fun e W' => e = .returned (.int .i64 (nextL L c)) ∧ Below W.heap.size W W' :=
  rnext_is k room L c W ⟨A, cap, hR⟩ (valid_n hv) (by omega)
/-- What a list that a table knows is. -/
theorem One.list_ (h : One D W T L) : Srt cmpSym L ∧ (∀ s ∈ L, validB s = true) ∧ (L.length : Int) ≤ T.room ∧ T.room ≤ 4096 := by
  obtain ⟨S, σ, S2, σ2, m, h1, h2⟩ := h
  exact ⟨h2.srt, h2.val, h2.len, h2.r2⟩
end
end Go.Proofs.Ytlkffnmmphehdaa

namespace Go.Proofs.Ytlkffnmmphehdaa
open Go.RowKit Go.Shelf
/-- What a call on one table leaves of a family of sets. -/
def Out (D : Nat → Prop) (W : World) (S : Nat → Option (List Sym)) (S2 : Nat → Option (List Page)) (T : TB) (L' : List Sym) (W' : World) : Prop :=
  (∃ σ' σ2' m', Tabs D W' (upd S T.bs (some L')) σ' (upd S2 T.bp (some m')) σ2' ∧ TI L' m' ∧ Srt cmpSym L' ∧ (∀ s ∈ L', validB s = true) ∧ (L'.length : Int) ≤ T.room) ∧ KB W W' ∧ Fr (fun j => ¬ D j) W W'
def Two (D : Nat → Prop) (W : World) (T T' : TB) (L L' : List Sym) : Prop := ∃ S σ S2 σ2 m m', Tabs D W S σ S2 σ2 ∧ TabSt W S S2 T L m ∧ TabSt W S S2 T' L' m' ∧ T.bs ≠ T'.bs ∧ T.bp ≠ T'.bp
section
variable {D D' : Nat → Prop} {W W' : World} {T T' : TB} {L L' L1 : List Sym} {S : Nat → Option (List Sym)} {σ : Nat → St} {S2 : Nat → Option (List Page)} {σ2 : Nat → St} {m : List Page}
theorem Out.same (h1 : Tabs D W S σ S2 σ2) (h2 : TabSt W S S2 T L m) (hb : Below W.heap.size W W') : Out D W S S2 T L W' :=
  ⟨⟨σ, σ2, m, by rw [upd_id _ _ _ h2.bs, upd_id _ _ _ h2.bp]; exact h1.below hb, h2.ti, h2.srt, h2.val, h2.len⟩, KB.of_below hb, Fr.of_new hb⟩
theorem Two.swap (h : Two D W T T' L L') : Two D W T' T L' L := by
  obtain ⟨S, σ, S2, σ2, m, m', h1, h2, h3, h4, h5⟩ := h
  exact ⟨S, σ, S2, σ2, m', m, h1, h3, h2, Ne.symm h4, Ne.symm h5⟩
theorem Two.one (h : Two D W T T' L L') : One D W T L := by
  obtain ⟨S, σ, S2, σ2, m, m', h1, h2, _⟩ := h
  exact ⟨S, σ, S2, σ2, m, h1, h2⟩
theorem Two.below (h : Two D W T T' L L') (hb : Below W.heap.size W W') : Two D W' T T' L L' := by
  obtain ⟨S, σ, S2, σ2, m, m', h1, h2, h3, h4, h5⟩ := h
  exact ⟨S, σ, S2, σ2, m, m', h1.below hb, h2.blk_ (h2.blk.below hb), h3.blk_ (h3.blk.below hb), h4, h5⟩
theorem Two.out {m' : List Page} (h2 : TabSt W S S2 T L m) (h3 : TabSt W S S2 T' L' m') (h4 : T.bs ≠ T'.bs) (h5 : T.bp ≠ T'.bp) (h : Out D W S S2 T L1 W') : Two D W' T T' L1 L' := by
  obtain ⟨⟨σ', σ2', m2, g1, g2, g3, g4, g5⟩, hK, _⟩ := h
  exact ⟨_, σ', _, σ2', m2, m', g1, ⟨h2.blk.kb hK, upd_same _ _ _, upd_same _ _ _, g2, g3, g4, g5, h2.r1, h2.r2⟩, ⟨h3.blk.kb hK, by rw [upd_ne _ _ (Ne.symm h4)]; exact h3.bs, by rw [upd_ne _ _ (Ne.symm h5)]; exact h3.bp, h3.ti, h3.srt, h3.val, h3.len, h3.r1, h3.r2⟩, h4, h5⟩
set_option maxHeartbeats 1000000 in
theorem st_put (X : List Sym) (A2 : Option Addr) (c2 : Nat) (h1 : Tabs D W S σ S2 σ2) (h2 : TabSt W S S2 T L m) (hX : RowRd W 3 Sym.cells A2 c2 X) (hl : (X.length : Int) ≤ 10000) :
    Calls Try.prog 23 #[.pointer (some ⟨T.b, 0, none⟩), .slice A2 X.length c2] W fun e W' => e = .returned (.int .i64 (putCode T.room L X)) ∧ Out D W S S2 T (putList T.room L X) W' := by
  refine (tputl_is T L m X A2 c2 h1 h2.blk h2.bs h2.bp hX h2.r1 h2.r2 h2.len (page_len h2.ti.1) hl).mono ?_
  intro e W' hp
  have hval := putList_valid (room := T.room) (X := X) h2.val
  unfold TPut at hp
  unfold putList at hval ⊢
  unfold putCode
  split at hp
  · rename_i hx
    rw [if_pos hx] at hval
    rw [if_pos hx, if_pos hx]
    split at hp
    · rename_i hr
      rw [if_pos hr, if_pos hr]
      exact ⟨hp.1, Out.same h1 h2 hp.2⟩
    · rename_i hr
      rw [if_neg hr] at hval
      rw [if_neg hr, if_neg hr]
      have hti := h2.ti.puts (m := m) (frsh L X) (fun s hs => List.all_eq_true.1 hx s (mem_frsh.1 hs).1)
      rw [puts_frsh h2.srt] at hti
      obtain ⟨he, ⟨σ', σ2', g1, _⟩, hK, hF⟩ := hp
      exact ⟨he, ⟨σ', σ2', _, g1, hti, Srt.puts tc_sym _ h2.srt, hval, by omega⟩, hK, hF⟩
  · rename_i hx
    rw [if_neg hx, if_neg hx]
    exact ⟨hp.1, Out.same h1 h2 hp.2⟩
set_option maxHeartbeats 1000000 in
theorem st_fresh (c : UInt8) (h1 : Tabs D W S σ S2 σ2) (h2 : TabSt W S S2 T L m) :
    Calls Try.prog 25 #[.pointer (some ⟨T.b, 0, none⟩), .int .u8 (c.toNat : Int)] W fun e W' => e = .returned (.tuple #[.agg #[.int .i64 (freshS T.room L c).kind, .string (freshS T.room L c).text, .int .i64 (freshS T.room L c).n], .int .i64 (freshE T.room L c)]) ∧ Out D W S S2 T (freshL T.room L c) W' := by
  have hlen := h2.len
  have hr2 := h2.r2
  have hpl := page_len h2.ti.1
  cases hg : greatB c
  · have e0 : freshE T.room L c = 1 := by unfold freshE; rw [if_pos (nextL_zero hg)]
    have e1 : freshS T.room L c = zsym := by unfold freshS; rw [e0]; rfl
    have e2 : freshL T.room L c = L := by unfold freshL; rw [e0]; rfl
    rw [e0, e1, e2]
    exact (fresh_arg T c hg).mono fun e W' ⟨h3, h4⟩ => ⟨h3, Out.same h1 h2 h4⟩
  · have hp := nextL_pos (L := L) hg
    have hnb := h2.ti.next c
    by_cases hf : T.room ≤ L.length
    · have e0 : freshE T.room L c = 20 := by unfold freshE; rw [if_neg (by omega), if_pos (.inl hf)]
      have e1 : freshS T.room L c = zsym := by unfold freshS; rw [e0]; rfl
      have e2 : freshL T.room L c = L := by unfold freshL; rw [e0]; rfl
      rw [e0, e1, e2]
      exact (fresh_full T L m c h1 h2.blk h2.bs h2.bp hg hf (by omega)).mono fun e W' ⟨h3, h4⟩ => ⟨h3, Out.same h1 h2 h4⟩
    · by_cases hn : 1048576 < nextL L c
      · have e0 : freshE T.room L c = 20 := by unfold freshE; rw [if_neg (by omega), if_pos (.inr hn)]
        have e1 : freshS T.room L c = zsym := by unfold freshS; rw [e0]; rfl
        have e2 : freshL T.room L c = L := by unfold freshL; rw [e0]; rfl
        rw [e0, e1, e2]
        exact (fresh_far T L m c h1 h2.blk h2.bs h2.bp hg hf (by omega) (by omega)).mono fun e W' ⟨h3, h4⟩ => ⟨h3, Out.same h1 h2 h4⟩
      · have e0 : freshE T.room L c = 0 := by unfold freshE; rw [if_neg (by omega), if_neg (fun h => h.elim hf hn)]
        have e1 : freshS T.room L c = ⟨1, letB c, nextL L c⟩ := by unfold freshS; rw [if_pos e0]
        have e2 : freshL T.room L c = put cmpSym L ⟨1, letB c, nextL L c⟩ := by unfold freshL; rw [if_pos e0]
        have hv : validB ⟨1, letB c, nextL L c⟩ = true := valid_let hg hp (by omega)
        have hlp := length_put tc_sym h2.srt (fresh_not hg)
        rw [e0, e1, e2]
        refine (fresh_new T L m c h1 h2.blk h2.bs h2.bp hg hf (by omega) (by omega) (by omega) (by omega)).mono fun e W' ⟨h3, h4⟩ => ?_
        rw [hnb] at h3 h4
        obtain ⟨⟨σ', σ2', g1, _⟩, hK, hF⟩ := h4
        exact ⟨h3, ⟨σ', σ2', _, g1, h2.ti.put hv, h2.srt.put tc_sym _, (fun s hs => by
          rcases mem_put_iff.1 hs with hs | rfl
          · exact h2.val s hs
          · exact hv), by rw [hlp]; omega⟩, hK, hF⟩
theorem two_put (X : List Sym) (A2 : Option Addr) (c2 : Nat) (h : Two D W T T' L L') (hX : RowRd W 3 Sym.cells A2 c2 X) (hl : (X.length : Int) ≤ 10000) :
    Calls Try.prog 23 #[.pointer (some ⟨T.b, 0, none⟩), .slice A2 X.length c2] W fun e W' => e = .returned (.int .i64 (putCode T.room L X)) ∧ Two D W' T T' (putList T.room L X) L' ∧ Fr (fun j => ¬ D j) W W' ∧ KB W W' := by
  obtain ⟨S, σ, S2, σ2, m, m', h1, h2, h3, h4, h5⟩ := h
  exact (st_put X A2 c2 h1 h2 hX hl).mono fun e W' ⟨he, ho⟩ => ⟨he, Two.out h2 h3 h4 h5 ho, ho.2.2, ho.2.1⟩
theorem two_fresh (c : UInt8) (h : Two D W T T' L L') :
    Calls Try.prog 25 #[.pointer (some ⟨T.b, 0, none⟩), .int .u8 (c.toNat : Int)] W fun e W' => e = .returned (.tuple #[.agg #[.int .i64 (freshS T.room L c).kind, .string (freshS T.room L c).text, .int .i64 (freshS T.room L c).n], .int .i64 (freshE T.room L c)]) ∧ Two D W' T T' (freshL T.room L c) L' ∧ Fr (fun j => ¬ D j) W W' ∧ KB W W' := by
  obtain ⟨S, σ, S2, σ2, m, m', h1, h2, h3, h4, h5⟩ := h
  exact (st_fresh c h1 h2).mono fun e W' ⟨he, ho⟩ => ⟨he, Two.out h2 h3 h4 h5 ho, ho.2.2, ho.2.1⟩
theorem two_clone (h : One D W T L) : Calls Try.prog 35 #[.pointer (some ⟨T.b, 0, none⟩)] W fun e W' => ∃ T' : TB, e = .returned (.pointer (some ⟨T'.b, 0, none⟩)) ∧ T'.room = T.room ∧ Two D W' T T' L L ∧ Fr (fun j => ¬ D j) W W' ∧ KB W W' := by
  obtain ⟨S, σ, S2, σ2, m, h1, h2⟩ := h
  refine (tabclone_is T L m h1 h2.blk h2.bs h2.bp).mono ?_
  rintro e W' ⟨T', he, hr, hB, ⟨σ', σ2', hT⟩, hK, hF, hbs, hbp⟩
  have hl1 := h1.syms.lt h2.bs
  have hl2 := h1.pages.lt h2.bp
  have n1 : T.bs ≠ T'.bs := by omega
  have n2 : T.bp ≠ T'.bp := by omega
  exact ⟨T', he, hr, ⟨_, σ', _, σ2', m, m, hT, ⟨h2.blk.kb hK, by rw [upd_ne _ _ n1]; exact h2.bs, by rw [upd_ne _ _ n2]; exact h2.bp, h2.ti, h2.srt, h2.val, h2.len, h2.r1, h2.r2⟩, ⟨hB, upd_same _ _ _, upd_same _ _ _, h2.ti, h2.srt, h2.val, by rw [hr]; exact h2.len, by rw [hr]; exact h2.r1, by rw [hr]; exact h2.r2⟩, n1, n2⟩, hF, hK⟩
end
set_option maxRecDepth 100000 in
set_option maxHeartbeats 4000000 in
theorem most_is (A : Option Addr) (cap : Nat) (l : List Sym) (w : World) (hr : RowRd w 3 Sym.cells A cap l) (hll : (l.length : Int) ≤ 1000000) :
    Calls Try.prog 36 #[.slice A l.length cap] w fun e w' => e = .returned (.int .i64 (maxL l 81)) ∧ w = w' := by
  have HRD := Lib.hid hr
  clear hr
  go_enter Try.func36, Try.ntmps36
  go_wp2_with fail
  go_loop [3, 4] (fun n s => ∃ i : Nat, s = .int .i64 i ∧ n = .int .i64 (maxL (l.take i) 81) ∧ i ≤ l.length) (fun n s => l.length - (intOf s).toNat)
  case atStart => exact ⟨0, rfl, rfl, Nat.zero_le _⟩
  case round =>
    obtain ⟨i, rfl, rfl, hi⟩ := hrel
    obtain ⟨m, hm⟩ : ∃ m, m = maxL (l.take i) 81 := ⟨_, rfl⟩
    rw [← hm]
    have HM := Lib.hid hm
    clear hm
    by_cases hlt : i < l.length
    · obtain ⟨y, hy⟩ : ∃ y, y = l[i] := ⟨_, rfl⟩
      obtain ⟨g, off, rfl, hg, q0, q1, q2⟩ := sym_at HRD.out hlt
      rw [← hy] at q0 q1 q2
      have hst : maxL (l.take (i + 1)) 81 = if y.kind = 1 ∧ y.text = letB 81 then max m y.n else m := by
        rw [List.take_add_one, List.getElem?_eq_getElem hlt, ← hy]
        simp only [Option.toList_some]
        rw [maxL_snoc, ← HM.out]
      have HST := Lib.hid hst
      have te : (y.text.toList == [81]) = decide (y.text = letB 81) := by
        rw [Bool.eq_iff_iff, beq_iff_eq, decide_eq_true_iff, show ([81] : List UInt8) = (letB 81).toList from by kernel_rfl]
        exact ⟨fun h => toList_inj h, fun h => by rw [h]⟩
      have b1 : (0 : Int) ≤ (i : Int) := by omega
      have b2 : (i : Int) < (l.length : Int) := by omega
      clear hst hy
      by_cases k1 : y.kind = 1
      · have t1 : (y.kind == 1) = true := by simp [k1]
        by_cases k2 : y.text = letB 81
        · rw [decide_eq_true k2] at te
          have HS2 := Lib.hid (show maxL (l.take (i + 1)) 81 = max m y.n by rw [HST.out, if_pos ⟨k1, k2⟩])
          clear k1 k2
          go_wp2_with fail
          go_round
          case rel => exact ⟨i + 1, by go_num, by rw [HS2.out], by omega⟩
          case measure => simp [intOf] <;> omega
        · rw [decide_eq_false k2] at te
          have HS2 := Lib.hid (show maxL (l.take (i + 1)) 81 = m by rw [HST.out, if_neg (fun h => k2 h.2)])
          clear k1 k2
          go_wp2_with fail
          go_round
          case rel => exact ⟨i + 1, by go_num, by rw [HS2.out], by omega⟩
          case measure => simp [intOf] <;> omega
      · have t1 : (y.kind == 1) = false := by simp [k1]
        have HS2 := Lib.hid (show maxL (l.take (i + 1)) 81 = m by rw [HST.out, if_neg (fun h => k1 h.1)])
        clear k1
        go_wp2_with fail
        go_round
        case rel => exact ⟨i + 1, by go_num, by rw [HS2.out], by omega⟩
        case measure => simp [intOf] <;> omega
    · have hie : i = l.length := by omega
      subst hie
      have HE := Lib.hid (show m = maxL l 81 by rw [HM.out, List.take_length])
      go_wp2_with fail
      go_ret
      exact ⟨by rw [HE.out] <;> rfl, rfl⟩
end Go.Proofs.Ytlkffnmmphehdaa

namespace Go.Proofs.Ytlkffnmmphehdaa
open Go.RowKit
/-- What digits say. -/
def val (l : List UInt8) : Nat := l.foldl (fun n c => 10 * n + (c.toNat - 48)) 0
theorem val_snoc (l : List UInt8) (c : UInt8) : val (l ++ [c]) = 10 * val l + (c.toNat - 48) := by simp [val]
theorem fold_lt : ∀ (l : List UInt8) (a : Nat), (∀ c ∈ l, digitB c = true) → l.foldl (fun n c => 10 * n + (c.toNat - 48)) a < (a + 1) * 10 ^ l.length
  | [], a, _ => by simp
  | c :: l, a, h => by
    have h2 := h c (by simp)
    simp only [digitB, Bool.and_eq_true, decide_eq_true_eq] at h2
    have h1 := fold_lt l (10 * a + (c.toNat - 48)) (fun x hx => h x (by simp [hx]))
    rw [List.foldl_cons, List.length_cons, Nat.pow_succ]
    refine Nat.lt_of_lt_of_le h1 ?_
    have h3 : 10 * a + (c.toNat - 48) + 1 ≤ (a + 1) * 10 := by omega
    calc (10 * a + (c.toNat - 48) + 1) * 10 ^ l.length ≤ ((a + 1) * 10) * 10 ^ l.length := Nat.mul_le_mul_right _ h3
      _ = (a + 1) * (10 ^ l.length * 10) := by rw [Nat.mul_assoc, Nat.mul_comm 10]
theorem val_lt (l : List UInt8) (h : ∀ c ∈ l, digitB c = true) : val l < 10 ^ l.length := by
  have := fold_lt l 0 h
  simpa [val] using this
/-- Digits without a nought ahead, one to ten. -/
def goodNum (t : ByteArray) : Bool := decide (1 ≤ t.size) && decide (t.size ≤ 10) && !(headB (fun c => c.toNat == 48) t && decide (1 < t.size)) && t.data.toList.all digitB
def tval (t : ByteArray) : Nat := val t.data.toList
theorem allDig_iff {t : ByteArray} : t.data.toList.all digitB = true ↔ ∀ k, (h : k < t.size) → digitB t[k] = true := by
  rw [List.all_eq_true]
  have hs : t.data.toList.length = t.size := Array.length_toList
  constructor
  · intro h k hk
    have e : t[k] = t.data.toList[k]'(by omega) := by rw [Array.getElem_toList]; rfl
    rw [e]; exact h _ (List.getElem_mem _)
  · intro h x hx
    obtain ⟨k, hk, rfl⟩ := List.getElem_of_mem hx
    have := h k (by omega)
    rw [Array.getElem_toList]; exact this
theorem good_yes {t : ByteArray} (h1 : 0 < t.size) (h2 : t.size ≤ 10) (h3 : ¬ (t[0].toNat = 48 ∧ 1 < t.size)) (h4 : ∀ k, (h : k < t.size) → digitB t[k] = true) : goodNum t = true := by
  unfold goodNum
  rw [allDig_iff.2 h4, headB_eq h1, decide_eq_true (show 1 ≤ t.size from h1), decide_eq_true h2]
  simp only [Bool.true_and, Bool.and_true, Bool.not_eq_true', Bool.and_eq_false_iff, decide_eq_false_iff_not, beq_eq_false_iff_ne]
  by_cases e : t[0].toNat = 48
  · exact .inr (fun h => h3 ⟨e, h⟩)
  · exact .inl e
theorem good_no {t : ByteArray} (h : t.size < 1 ∨ 10 < t.size ∨ (∃ h : 0 < t.size, t[0].toNat = 48 ∧ 1 < t.size) ∨ ∃ k, ∃ h : k < t.size, digitB t[k] = false) : goodNum t = false := by
  cases e : goodNum t
  · rfl
  · unfold goodNum at e
    simp only [Bool.and_eq_true, decide_eq_true_eq, Bool.not_eq_true'] at e
    obtain ⟨⟨⟨h1, h2⟩, h3⟩, h4⟩ := e
    have h5 := allDig_iff.1 h4
    rcases h with h | h | ⟨h0, h6, h7⟩ | ⟨k, hk, h6⟩
    · omega
    · omega
    · rw [headB_eq h0, decide_eq_true h7] at h3
      simp [h6] at h3
    · rw [h5 k hk] at h6; cases h6
theorem take_byte (t : ByteArray) (k : Nat) (h : k < t.size) : t.data.toList.take (k + 1) = t.data.toList.take k ++ [t[k]] := by
  have hs : t.data.toList.length = t.size := Array.length_toList
  rw [List.take_succ_eq_append_getElem (by omega), Array.getElem_toList]; rfl
theorem val_take_lt {t : ByteArray} {k : Nat} (hk : k ≤ t.size) (h : ∀ j, (hj : j < t.size) → j < k → digitB t[j] = true) : val (t.data.toList.take k) < 10 ^ k := by
  have hs : t.data.toList.length = t.size := Array.length_toList
  have := val_lt (t.data.toList.take k) (fun c hc => by
    obtain ⟨j, hj, rfl⟩ := List.getElem_of_mem hc
    simp only [List.length_take] at hj
    have h2 := h j (by omega) (by omega)
    rw [List.getElem_take, Array.getElem_toList]; exact h2)
  rwa [List.length_take, Nat.min_eq_left (by omega)] at this
theorem pow_le_ten {k : Nat} (h : k ≤ 10) : 10 ^ k ≤ 10000000000 := by
  have := Nat.pow_le_pow_right (show 0 < 10 by omega) h
  exact this
/-- What 'number' answers. -/
def numRes (t : ByteArray) (most : Int) : Value := .tuple #[.int .i64 ((if goodNum t = true then tval t else 0 : Nat) : Int), .bool (goodNum t && decide ((tval t : Int) ≤ most))]
theorem numRes_no {t : ByteArray} {most : Int} (h : goodNum t = false) : numRes t most = .tuple #[.int .i64 0, .bool false] := by unfold numRes; rw [h]; rfl
theorem numRes_yes {t : ByteArray} {most : Int} (h : goodNum t = true) : numRes t most = .tuple #[.int .i64 (tval t : Int), .bool (decide ((tval t : Int) ≤ most))] := by unfold numRes; rw [h]; rfl
theorem ret_num {a b : Int} {c d : Bool} (h : a = b) (h2 : c = d) : Ending.returned (.tuple #[.int .i64 a, .bool c]) = .returned (.tuple #[.int .i64 b, .bool d]) := by rw [h, h2]

set_option maxRecDepth 100000 in
set_option maxHeartbeats 4000000 in
theorem number_is (t : ByteArray) (most : Int) (w : World) : Calls Try.prog 40 #[.string t, .int .i64 most] w fun e w' => e = .returned (numRes t most) ∧ w = w' := by
  by_cases h1 : t.size < 1
  · have t1 : decide ((t.size : Int) < 1) = true := by simp; omega
    have HG := Lib.hid (good_no (t := t) (.inl h1))
    clear h1
    go_enter Try.func40, Try.ntmps40
    go_wp2
    go_ret2
    exact ⟨by rw [numRes_no HG.out] <;> rfl, rfl⟩
  have t1 : decide ((t.size : Int) < 1) = false := by simp; omega
  by_cases h2 : 10 < t.size
  · have t2 : decide ((10 : Int) < (t.size : Int)) = true := by simp; omega
    have HG := Lib.hid (good_no (t := t) (.inr (.inl h2)))
    clear h1 h2
    go_enter Try.func40, Try.ntmps40
    go_wp2
    go_ret2
    exact ⟨by rw [numRes_no HG.out] <;> rfl, rfl⟩
  have t2 : decide ((10 : Int) < (t.size : Int)) = false := by simp; omega
  have h0 : 0 < t.size := by omega
  have h2 : t.size ≤ 10 := by omega
  clear h1
  have hgo : ∀ (a1 a2 : Bool), ((t[0].toNat : Int) == 48) = a1 → decide ((1 : Int) < (t.size : Int)) = a2 → (a1 && a2) = false → Calls Try.prog 40 #[.string t, .int .i64 most] w fun e w' => e = .returned (numRes t most) ∧ w = w' := by
    intro a1 a2 t3 t4 ha
    have h3 : ¬ (t[0].toNat = 48 ∧ 1 < t.size) := by
      rintro ⟨h5, h6⟩
      have e1 : a1 = true := by rw [← t3]; simp; omega
      have e2 : a2 = true := by rw [← t4]; simp; omega
      rw [e1, e2] at ha; cases ha
    have H3 := Lib.hid h3
    clear h3
    go_enter Try.func40, Try.ntmps40
    cases a1 <;> cases a2 <;> (first | (exfalso; exact Bool.noConfusion ha) | skip)
    all_goals clear ha
    all_goals go_wp2
    all_goals clear t1 t2 t3 t4
    all_goals
      go_loop [6, 7] (fun n s => ∃ i : Nat, s = .int .i64 i ∧ n = .int .i64 (val (t.data.toList.take i)) ∧ i ≤ t.size ∧ ∀ k, (h : k < t.size) → k < i → digitB t[k] = true) (fun _ s => t.size - (intOf s).toNat)
      case atStart => exact ⟨0, rfl, rfl, Nat.zero_le _, fun k h hk => by omega⟩
      case round =>
        obtain ⟨i, rfl, rfl, hi, hall⟩ := hrel
        have hvl := val_take_lt hi hall
        have hpw := pow_le_ten (Nat.le_trans hi h2)
        have HALL := Lib.hid hall
        clear hall
        obtain ⟨m, hm⟩ : ∃ m, m = val (t.data.toList.take i) := ⟨_, rfl⟩
        rw [← hm] at hvl ⊢
        have HM := Lib.hid hm
        have hmb : m < 10000000000 := by omega
        clear hm hvl hpw
        by_cases hlt : i < t.size
        · have HS := Lib.hid (take_byte t i hlt)
          cases hd : digitB t[i]
          · have HG := Lib.hid (good_no (t := t) (.inr (.inr (.inr ⟨i, hlt, hd⟩))))
            go_wp2_with (go_at_call 44; refine (digit_is _ _).mono ?_; rintro e w' ⟨rfl, rfl⟩)
            go_ret2
            exact ⟨by rw [numRes_no HG.out] <;> rfl, rfl⟩
          · have hd2 := hd
            simp only [digitB, Bool.and_eq_true, decide_eq_true_eq] at hd2
            obtain ⟨hd3, hd4⟩ := hd2
            have HD := Lib.hid hd
            have hmm : (m : Int) < 10000000000 := by omega
            have hm0 : (0 : Int) ≤ (m : Int) := by omega
            have v1 : IntKind.u8.wrap ((t[i].toNat : Int) - 48) = (t[i].toNat : Int) - 48 := by simp [IntKind.wrap, IntKind.signed, IntKind.bits]; omega
            have v2 : IntKind.i64.wrap ((t[i].toNat : Int) - 48) = (t[i].toNat : Int) - 48 := IntWalk.i64_in _ (by omega)
            have v3 : IntKind.i64.wrap (10 * (m : Int)) = 10 * (m : Int) := IntWalk.i64_in _ (by omega)
            have v4 : IntKind.i64.wrap (10 * (m : Int) + ((t[i].toNat : Int) - 48)) = 10 * (m : Int) + ((t[i].toNat : Int) - 48) := IntWalk.i64_in _ (by omega)
            have hd5 : (48 : Int) ≤ (t[i].toNat : Int) := by omega
            have hd6 : (t[i].toNat : Int) ≤ 57 := by omega
            go_wp2_with (go_at_call 44; refine (digit_is _ _).mono ?_; rintro e w' ⟨rfl, rfl⟩)
            go_round
            case rel => exact ⟨i + 1, by go_num, by
                rw [HS.out, val_snoc, ← HM.out]
                have : ((10 * m + (t[i].toNat - 48) : Nat) : Int) = 10 * (m : Int) + ((t[i].toNat : Int) - 48) := by omega
                rw [this] <;> rfl, by omega, fun k h hk => by
                   rcases Nat.lt_or_ge k i with h3 | h3
                   · exact HALL.out k h h3
                   · obtain rfl : k = i := by omega
                     exact HD.out⟩
            case measure => simp [intOf] <;> omega
        · have hie : i = t.size := by omega
          subst hie
          have hs : t.data.toList.length = t.size := Array.length_toList
          have HG := Lib.hid (good_yes h0 h2 H3.out (fun k h => HALL.out k h h))
          have HV := Lib.hid (show tval t = m by rw [HM.out, ← hs, List.take_length]; rfl)
          go_wp2
          all_goals go_ret2
          all_goals exact ⟨by rw [numRes_yes HG.out, HV.out] <;> rfl, rfl⟩
  by_cases h5 : t[0].toNat = 48
  · by_cases h6 : 1 < t.size
    · have t3 : ((t[0].toNat : Int) == 48) = true := by simp; omega
      have t4 : decide ((1 : Int) < (t.size : Int)) = true := by simp; omega
      have HG := Lib.hid (good_no (t := t) (.inr (.inr (.inl ⟨h0, h5, h6⟩))))
      clear h5 h6 hgo
      go_enter Try.func40, Try.ntmps40
      go_wp2
      go_ret2
      exact ⟨by rw [numRes_no HG.out] <;> rfl, rfl⟩
    · exact hgo true false (by simp; omega) (by simp; omega) rfl
  · by_cases h6 : 1 < t.size
    · exact hgo false true (by simp; omega) (by simp; omega) rfl
    · exact hgo false false (by simp; omega) (by simp; omega) rfl
end Go.Proofs.Ytlkffnmmphehdaa

namespace Go.Proofs.Ytlkffnmmphehdaa
open Go.RowKit
/-- The right symbol whose text it is. -/
def parseB (t : ByteArray) : Option Sym :=
  if isWord t = true then some ⟨3, t, 0⟩
  else if headB greatB t = true then
    if goodNum (t.extract 1 t.size) = true ∧ tval (t.extract 1 t.size) ≤ 1048576 ∧ tval (t.extract 1 t.size) ≠ 0 then some ⟨1, t.extract 0 1, tval (t.extract 1 t.size)⟩ else none
  else if headB (fun c => c.toNat == 45) t = true then
    if goodNum (t.extract 1 t.size) = true ∧ tval (t.extract 1 t.size) ≤ 2147483647 ∧ tval (t.extract 1 t.size) ≠ 0 then some ⟨2, ⟨#[]⟩, -(tval (t.extract 1 t.size) : Int)⟩ else none
  else if goodNum t = true ∧ tval t ≤ 2147483647 then some ⟨2, ⟨#[]⟩, tval t⟩ else none
/-- A symbol, or that there is none, as functions answer it. -/
def symRes : Option Sym → Value
  | some s => .tuple #[.agg #[.int .i64 s.kind, .string s.text, .int .i64 s.n], .bool true]
  | none => .tuple #[.agg #[.int .i64 0, .string ⟨#[]⟩, .int .i64 0], .bool false]
theorem toList_ne {t : ByteArray} (h : 0 < t.size) : ¬ t.toList = [] := by
  intro e
  have h2 : t = ⟨#[]⟩ := toList_inj (by rw [e]; kernel_rfl)
  rw [h2] at h
  exact absurd h (by decide)

set_option maxRecDepth 100000 in
set_option maxHeartbeats 8000000 in
theorem parse_is (t : ByteArray) (hts : (t.size : Int) ≤ 1000000000) (w : World) : Calls Try.prog 15 #[.string t] w fun e w' => e = .returned (symRes (parseB t)) ∧ Below w.heap.size w w' := by
  by_cases hz : 0 < t.size
  · have hne := toList_ne hz
    have te : (t.toList == []) = false := by simp [hne]
    have te2 : (!t.toList.isEmpty) = true := by simp [hne]
    have hl1 : (1 : Int) ≤ (t.size : Int) := by omega
    have hP : parseB t = if isWord t = true then some ⟨3, t, 0⟩ else if greatB t[0] = true then
        if goodNum (t.extract 1 t.size) = true ∧ tval (t.extract 1 t.size) ≤ 1048576 ∧ tval (t.extract 1 t.size) ≠ 0 then some ⟨1, t.extract 0 1, tval (t.extract 1 t.size)⟩ else none
      else if (t[0].toNat == 45) = true then
        if goodNum (t.extract 1 t.size) = true ∧ tval (t.extract 1 t.size) ≤ 2147483647 ∧ tval (t.extract 1 t.size) ≠ 0 then some ⟨2, ⟨#[]⟩, -(tval (t.extract 1 t.size) : Int)⟩ else none
      else if goodNum t = true ∧ tval t ≤ 2147483647 then some ⟨2, ⟨#[]⟩, tval t⟩ else none := by
      unfold parseB; rw [headB_eq hz, headB_eq hz]
    have HP := Lib.hid hP
    clear hP
    cases hw : isWord t
    · cases hg : greatB t[0]
      · by_cases hm : t[0].toNat = 45
        · have tm : ((t[0].toNat : Int) == 45) = true := by simp; omega
          have HP2 : Hid (parseB t = if goodNum (t.extract 1 t.size) = true ∧ tval (t.extract 1 t.size) ≤ 2147483647 ∧ tval (t.extract 1 t.size) ≠ 0 then some ⟨2, ⟨#[]⟩, -(tval (t.extract 1 t.size) : Int)⟩ else none) := Lib.hid (by rw [HP.out, hw, hg]; simp [hm])
          clear hm HP
          obtain ⟨r, hr⟩ : ∃ r, r = t.extract 1 t.size := ⟨_, rfl⟩
          rw [← hr] at HP2
          have HR := Lib.hid hr
          clear hr
          cases hgd : goodNum r
          · have HP3 : Hid (parseB t = none) := Lib.hid (by rw [HP2.out, hgd]; simp)
            have HG := Lib.hid (numRes_no (most := 2147483647) hgd)
            clear hgd HP2
            go_enter Try.func15, Try.ntmps15
            go_wp2_with (first | (go_at_call 17; refine (word_is _ _).mono ?_; rintro e w' ⟨rfl, rfl⟩) | (go_at_call 37; refine (great_is _ _).mono ?_; rintro e w' ⟨rfl, rfl⟩))
            rw [← HR.out]
            refine (number_is r 2147483647 _).mono ?_
            rintro e w1 ⟨rfl, rfl⟩
            rw [HG.out]
            go_wp2_with fail
            exact bodyPost_ret (v := .tuple #[.agg #[.int .i64 0, .string ⟨#[]⟩, .int .i64 0], .bool false]) (by simp [results, Try.results15, go_sem]) rfl ⟨by rw [HP3.out] <;> rfl, by (repeat (first | exact Below.refl _ _ | (refine Below.drew ?_) | (refine Below.alloc ?_ (by simp <;> omega) _) | (refine Below.setCell ?_ (by simp <;> omega) _)))⟩
          · have HG := Lib.hid (numRes_yes (most := 2147483647) hgd)
            obtain ⟨v, hv⟩ : ∃ v, v = tval r := ⟨_, rfl⟩
            rw [← hv] at HG HP2
            by_cases hle : v ≤ 2147483647
            · by_cases h00 : v = 0
              · have HP3 : Hid (parseB t = none) := Lib.hid (by rw [HP2.out, hgd]; simp [h00])
                have d2 : decide ((v : Int) ≤ 2147483647) = true := by simp; omega
                have d3 : ((v : Int) == 0) = true := by simp; omega
                clear hgd HP2 hv hle h00
                go_enter Try.func15, Try.ntmps15
                go_wp2_with (first | (go_at_call 17; refine (word_is _ _).mono ?_; rintro e w' ⟨rfl, rfl⟩) | (go_at_call 37; refine (great_is _ _).mono ?_; rintro e w' ⟨rfl, rfl⟩))
                rw [← HR.out]
                refine (number_is r 2147483647 _).mono ?_
                rintro e w1 ⟨rfl, rfl⟩
                rw [HG.out]
                go_wp2_with fail
                exact bodyPost_ret (v := .tuple #[.agg #[.int .i64 0, .string ⟨#[]⟩, .int .i64 0], .bool false]) (by simp [results, Try.results15, go_sem]) rfl ⟨by rw [HP3.out] <;> rfl, by (repeat (first | exact Below.refl _ _ | (refine Below.drew ?_) | (refine Below.alloc ?_ (by simp <;> omega) _) | (refine Below.setCell ?_ (by simp <;> omega) _)))⟩
              · have HP3 : Hid (parseB t = some ⟨2, ⟨#[]⟩, -(v : Int)⟩) := Lib.hid (by rw [HP2.out, hgd]; simp [hle, h00])
                have d3 : ((v : Int) == 0) = false := by simp; omega
                have d2 : decide ((v : Int) ≤ 2147483647) = true := by simp; omega
                have v5 : IntKind.i64.wrap (-(v : Int)) = -(v : Int) := IntWalk.i64_in _ (by omega)
                clear hgd HP2 hv h00
                go_enter Try.func15, Try.ntmps15
                go_wp2_with (first | (go_at_call 17; refine (word_is _ _).mono ?_; rintro e w' ⟨rfl, rfl⟩) | (go_at_call 37; refine (great_is _ _).mono ?_; rintro e w' ⟨rfl, rfl⟩))
                rw [← HR.out]
                refine (number_is r 2147483647 _).mono ?_
                rintro e w1 ⟨rfl, rfl⟩
                rw [HG.out]
                go_wp2_with fail
                exact bodyPost_ret (v := .tuple #[.agg #[.int .i64 2, .string ⟨#[]⟩, .int .i64 (-(v : Int))], .bool true]) (by simp [results, Try.results15, go_sem]) rfl ⟨by rw [HP3.out] <;> rfl, by (repeat (first | exact Below.refl _ _ | (refine Below.drew ?_) | (refine Below.alloc ?_ (by simp <;> omega) _) | (refine Below.setCell ?_ (by simp <;> omega) _)))⟩
            · have HP3 : Hid (parseB t = none) := Lib.hid (by rw [HP2.out, hgd]; simp [hle])
              have d2 : decide ((v : Int) ≤ 2147483647) = false := by simp; omega
              clear hgd HP2 hv hle
              go_enter Try.func15, Try.ntmps15
              go_wp2_with (first | (go_at_call 17; refine (word_is _ _).mono ?_; rintro e w' ⟨rfl, rfl⟩) | (go_at_call 37; refine (great_is _ _).mono ?_; rintro e w' ⟨rfl, rfl⟩))
              rw [← HR.out]
              refine (number_is r 2147483647 _).mono ?_
              rintro e w1 ⟨rfl, rfl⟩
              rw [HG.out]
              go_wp2_with fail
              exact bodyPost_ret (v := .tuple #[.agg #[.int .i64 0, .string ⟨#[]⟩, .int .i64 0], .bool false]) (by simp [results, Try.results15, go_sem]) rfl ⟨by rw [HP3.out] <;> rfl, by (repeat (first | exact Below.refl _ _ | (refine Below.drew ?_) | (refine Below.alloc ?_ (by simp <;> omega) _) | (refine Below.setCell ?_ (by simp <;> omega) _)))⟩
        · have tm : ((t[0].toNat : Int) == 45) = false := by simp; omega
          have HP2 : Hid (parseB t = if goodNum t = true ∧ tval t ≤ 2147483647 then some ⟨2, ⟨#[]⟩, tval t⟩ else none) := Lib.hid (by rw [HP.out, hw, hg]; simp [hm])
          clear hm HP
          cases hgd : goodNum t
          · have HP3 : Hid (parseB t = none) := Lib.hid (by rw [HP2.out, hgd]; simp)
            have HG := Lib.hid (numRes_no (most := 2147483647) hgd)
            clear hgd HP2
            go_enter Try.func15, Try.ntmps15
            go_wp2_with (first | (go_at_call 17; refine (word_is _ _).mono ?_; rintro e w' ⟨rfl, rfl⟩) | (go_at_call 37; refine (great_is _ _).mono ?_; rintro e w' ⟨rfl, rfl⟩))
            refine (number_is t 2147483647 _).mono ?_
            rintro e w1 ⟨rfl, rfl⟩
            rw [HG.out]
            go_wp2_with fail
            exact bodyPost_ret (v := .tuple #[.agg #[.int .i64 0, .string ⟨#[]⟩, .int .i64 0], .bool false]) (by simp [results, Try.results15, go_sem]) rfl ⟨by rw [HP3.out] <;> rfl, by (repeat (first | exact Below.refl _ _ | (refine Below.drew ?_) | (refine Below.alloc ?_ (by simp <;> omega) _) | (refine Below.setCell ?_ (by simp <;> omega) _)))⟩
          · have HG := Lib.hid (numRes_yes (most := 2147483647) hgd)
            obtain ⟨v, hv⟩ : ∃ v, v = tval t := ⟨_, rfl⟩
            rw [← hv] at HG HP2
            by_cases hle : v ≤ 2147483647
            · have HP3 : Hid (parseB t = some ⟨2, ⟨#[]⟩, v⟩) := Lib.hid (by rw [HP2.out, hgd]; simp [hle])
              have d2 : decide ((v : Int) ≤ 2147483647) = true := by simp; omega
              have v5 : IntKind.i64.wrap (-(v : Int)) = -(v : Int) := IntWalk.i64_in _ (by omega)
              clear hgd HP2 hv
              go_enter Try.func15, Try.ntmps15
              go_wp2_with (first | (go_at_call 17; refine (word_is _ _).mono ?_; rintro e w' ⟨rfl, rfl⟩) | (go_at_call 37; refine (great_is _ _).mono ?_; rintro e w' ⟨rfl, rfl⟩))
              refine (number_is t 2147483647 _).mono ?_
              rintro e w1 ⟨rfl, rfl⟩
              rw [HG.out]
              go_wp2_with fail
              exact bodyPost_ret (v := .tuple #[.agg #[.int .i64 2, .string ⟨#[]⟩, .int .i64 (v : Int)], .bool true]) (by simp [results, Try.results15, go_sem]) rfl ⟨by rw [HP3.out] <;> rfl, by (repeat (first | exact Below.refl _ _ | (refine Below.drew ?_) | (refine Below.alloc ?_ (by simp <;> omega) _) | (refine Below.setCell ?_ (by simp <;> omega) _)))⟩
            · have HP3 : Hid (parseB t = none) := Lib.hid (by rw [HP2.out, hgd]; simp [hle])
              have d2 : decide ((v : Int) ≤ 2147483647) = false := by simp; omega
              clear hgd HP2 hv hle
              go_enter Try.func15, Try.ntmps15
              go_wp2_with (first | (go_at_call 17; refine (word_is _ _).mono ?_; rintro e w' ⟨rfl, rfl⟩) | (go_at_call 37; refine (great_is _ _).mono ?_; rintro e w' ⟨rfl, rfl⟩))
              refine (number_is t 2147483647 _).mono ?_
              rintro e w1 ⟨rfl, rfl⟩
              rw [HG.out]
              go_wp2_with fail
              exact bodyPost_ret (v := .tuple #[.agg #[.int .i64 0, .string ⟨#[]⟩, .int .i64 0], .bool false]) (by simp [results, Try.results15, go_sem]) rfl ⟨by rw [HP3.out] <;> rfl, by (repeat (first | exact Below.refl _ _ | (refine Below.drew ?_) | (refine Below.alloc ?_ (by simp <;> omega) _) | (refine Below.setCell ?_ (by simp <;> omega) _)))⟩
      · have HP2 : Hid (parseB t = if goodNum (t.extract 1 t.size) = true ∧ tval (t.extract 1 t.size) ≤ 1048576 ∧ tval (t.extract 1 t.size) ≠ 0 then some ⟨1, t.extract 0 1, tval (t.extract 1 t.size)⟩ else none) := Lib.hid (by rw [HP.out, hw, hg]; simp)
        clear HP
        obtain ⟨r, hr⟩ : ∃ r, r = t.extract 1 t.size := ⟨_, rfl⟩
        rw [← hr] at HP2
        have HR := Lib.hid hr
        clear hr
        cases hgd : goodNum r
        · have HP3 : Hid (parseB t = none) := Lib.hid (by rw [HP2.out, hgd]; simp)
          have HG := Lib.hid (numRes_no (most := 1048576) hgd)
          clear hgd HP2
          go_enter Try.func15, Try.ntmps15
          go_wp2_with (first | (go_at_call 17; refine (word_is _ _).mono ?_; rintro e w' ⟨rfl, rfl⟩) | (go_at_call 37; refine (great_is _ _).mono ?_; rintro e w' ⟨rfl, rfl⟩))
          rw [← HR.out]
          refine (number_is r 1048576 _).mono ?_
          rintro e w1 ⟨rfl, rfl⟩
          rw [HG.out]
          go_wp2_with fail
          exact bodyPost_ret (v := .tuple #[.agg #[.int .i64 0, .string ⟨#[]⟩, .int .i64 0], .bool false]) (by simp [results, Try.results15, go_sem]) rfl ⟨by rw [HP3.out] <;> rfl, by (repeat (first | exact Below.refl _ _ | (refine Below.drew ?_) | (refine Below.alloc ?_ (by simp <;> omega) _) | (refine Below.setCell ?_ (by simp <;> omega) _)))⟩
        · have HG := Lib.hid (numRes_yes (most := 1048576) hgd)
          obtain ⟨v, hv⟩ : ∃ v, v = tval r := ⟨_, rfl⟩
          rw [← hv] at HG HP2
          by_cases hle : v ≤ 1048576
          · by_cases h00 : v = 0
            · have HP3 : Hid (parseB t = none) := Lib.hid (by rw [HP2.out, hgd]; simp [h00])
              have d2 : decide ((v : Int) ≤ 1048576) = true := by simp; omega
              have d3 : ((v : Int) == 0) = true := by simp; omega
              clear hgd HP2 hv hle h00
              go_enter Try.func15, Try.ntmps15
              go_wp2_with (first | (go_at_call 17; refine (word_is _ _).mono ?_; rintro e w' ⟨rfl, rfl⟩) | (go_at_call 37; refine (great_is _ _).mono ?_; rintro e w' ⟨rfl, rfl⟩))
              rw [← HR.out]
              refine (number_is r 1048576 _).mono ?_
              rintro e w1 ⟨rfl, rfl⟩
              rw [HG.out]
              go_wp2_with fail
              exact bodyPost_ret (v := .tuple #[.agg #[.int .i64 0, .string ⟨#[]⟩, .int .i64 0], .bool false]) (by simp [results, Try.results15, go_sem]) rfl ⟨by rw [HP3.out] <;> rfl, by (repeat (first | exact Below.refl _ _ | (refine Below.drew ?_) | (refine Below.alloc ?_ (by simp <;> omega) _) | (refine Below.setCell ?_ (by simp <;> omega) _)))⟩
            · have HP3 : Hid (parseB t = some ⟨1, t.extract 0 1, v⟩) := Lib.hid (by rw [HP2.out, hgd]; simp [hle, h00])
              have d3 : ((v : Int) == 0) = false := by simp; omega
              have d2 : decide ((v : Int) ≤ 1048576) = true := by simp; omega
              have v5 : IntKind.i64.wrap (-(v : Int)) = -(v : Int) := IntWalk.i64_in _ (by omega)
              clear hgd HP2 hv h00
              go_enter Try.func15, Try.ntmps15
              go_wp2_with (first | (go_at_call 17; refine (word_is _ _).mono ?_; rintro e w' ⟨rfl, rfl⟩) | (go_at_call 37; refine (great_is _ _).mono ?_; rintro e w' ⟨rfl, rfl⟩))
              rw [← HR.out]
              refine (number_is r 1048576 _).mono ?_
              rintro e w1 ⟨rfl, rfl⟩
              rw [HG.out]
              go_wp2_with fail
              exact bodyPost_ret (v := .tuple #[.agg #[.int .i64 1, .string (t.extract 0 1), .int .i64 (v : Int)], .bool true]) (by simp [results, Try.results15, go_sem]) rfl ⟨by rw [HP3.out] <;> rfl, by (repeat (first | exact Below.refl _ _ | (refine Below.drew ?_) | (refine Below.alloc ?_ (by simp <;> omega) _) | (refine Below.setCell ?_ (by simp <;> omega) _)))⟩
          · have HP3 : Hid (parseB t = none) := Lib.hid (by rw [HP2.out, hgd]; simp [hle])
            have d2 : decide ((v : Int) ≤ 1048576) = false := by simp; omega
            clear hgd HP2 hv hle
            go_enter Try.func15, Try.ntmps15
            go_wp2_with (first | (go_at_call 17; refine (word_is _ _).mono ?_; rintro e w' ⟨rfl, rfl⟩) | (go_at_call 37; refine (great_is _ _).mono ?_; rintro e w' ⟨rfl, rfl⟩))
            rw [← HR.out]
            refine (number_is r 1048576 _).mono ?_
            rintro e w1 ⟨rfl, rfl⟩
            rw [HG.out]
            go_wp2_with fail
            exact bodyPost_ret (v := .tuple #[.agg #[.int .i64 0, .string ⟨#[]⟩, .int .i64 0], .bool false]) (by simp [results, Try.results15, go_sem]) rfl ⟨by rw [HP3.out] <;> rfl, by (repeat (first | exact Below.refl _ _ | (refine Below.drew ?_) | (refine Below.alloc ?_ (by simp <;> omega) _) | (refine Below.setCell ?_ (by simp <;> omega) _)))⟩
    · have HP2 : Hid (parseB t = some ⟨3, t, 0⟩) := Lib.hid (by rw [HP.out, hw]; simp)
      clear HP
      go_enter Try.func15, Try.ntmps15
      go_wp2_with (go_at_call 17; refine (word_is _ _).mono ?_; rintro e w' ⟨rfl, rfl⟩)
      exact bodyPost_ret (v := .tuple #[.agg #[.int .i64 3, .string t, .int .i64 0], .bool true]) (by simp [results, Try.results15, go_sem]) rfl ⟨by rw [HP2.out] <;> rfl, by (repeat (first | exact Below.refl _ _ | (refine Below.drew ?_) | (refine Below.alloc ?_ (by simp <;> omega) _) | (refine Below.setCell ?_ (by simp <;> omega) _)))⟩
  · have h0 : t.size = 0 := by omega
    have e : t = ⟨#[]⟩ := by apply ByteArray.ext; exact Array.eq_empty_of_size_eq_zero h0
    subst e
    have HP2 := Lib.hid (show parseB ⟨#[]⟩ = none by rfl)
    clear h0 hz
    go_enter Try.func15, Try.ntmps15
    go_wp2_with fail
    exact bodyPost_ret (v := .tuple #[.agg #[.int .i64 0, .string ⟨#[]⟩, .int .i64 0], .bool false]) (by simp [results, Try.results15, go_sem]) rfl ⟨by rw [HP2.out] <;> rfl, by (repeat (first | exact Below.refl _ _ | (refine Below.drew ?_) | (refine Below.alloc ?_ (by simp <;> omega) _) | (refine Below.setCell ?_ (by simp <;> omega) _)))⟩
end Go.Proofs.Ytlkffnmmphehdaa

namespace Go.Proofs.Ytlkffnmmphehdaa
open Go.RowKit
def symS (n : Int) : Sym := ⟨1, letB 83, n⟩
theorem next0 : nextB [] 83 = 1 := by rfl
theorem put0 : put cmpSym [] (symS 1) = [symS 1] := by rfl
theorem tput0 : tputM [] (symS 1) = [⟨83, 2⟩] := by rfl
theorem next1 : nextB [⟨83, 2⟩] 83 = 2 := by rfl
theorem texts1 : textB ⟨1, letB 83, 1⟩ = ⟨#[83, 49]⟩ := by kernel_rfl
theorem texts2 : textB ⟨1, letB 83, 2⟩ = ⟨#[83, 50]⟩ := by kernel_rfl
theorem parse0 : parseB ⟨#[45, 48]⟩ = none := by kernel_rfl
theorem great83 : greatB 83 = true := by rfl
theorem sym_cells (w : World) (k : Int) (t : ByteArray) (n : Int) : Blk (w.alloc (.cells #[.int .i64 k, .string t, .int .i64 n] 23)) w.heap.size 23 #[.int .i64 k, .string t, .int .i64 n] := Blk.new _ _ _
set_option maxRecDepth 100000 in
set_option maxHeartbeats 4000000 in
theorem wakes4_is (w : World) : Calls Try.prog 10 #[] w fun e w' => e = .returned (.bool true) ∧ Below w.heap.size w w' := by
  go_enter Try.func10, Try.ntmps10
  go_wp2_with fail
  refine (tabnew_is 9 (by omega) (by omega) (Tabs.start w)).mono ?_
  rintro e w1 ⟨T, rfl, hroom, hB1, ⟨σ1, σ2, hT1⟩, hb1, _, _⟩
  have HT1 := Lib.hid hT1
  have HB1 := Lib.hid hB1
  have HR := Lib.hid hroom
  have HF1 := Lib.hid hb1
  have hz1 := hb1.size
  clear hT1 hB1 hb1 hroom
  go_wp2_with fail
  refine (fresh_new T [] [] 83 HT1.out HB1.out (upd_same _ _ _) (upd_same _ _ _) great83 (by rw [HR.out]; decide) (by rw [next0]; decide) (by rw [next0]; decide) (by decide) (by decide)).mono ?_
  rintro e w2 ⟨rfl, ⟨σ3, σ4, hT2, _⟩, hK2, hF2⟩
  rw [next0] at hT2 ⊢
  rw [show put cmpSym [] ⟨1, letB 83, 1⟩ = [symS 1] from put0, show tputM [] ⟨1, letB 83, 1⟩ = [⟨83, 2⟩] from tput0] at hT2
  have hz2 := hF2.size
  have HT2 := Lib.hid hT2
  have HB2 := Lib.hid (HB1.out.kb hK2)
  have HF2 := Lib.hid (HF1.out.trans (hF2.below hz1 (fun k hk hd => hd hk)))
  clear hT2 hK2 hF2
  go_wp2_with fail
  obtain ⟨w3, hw3⟩ : ∃ w3, w3 = w2.alloc (.cells #[.int .i64 1, .string (letB 83), .int .i64 1] 23) := ⟨_, rfl⟩
  have hA : Blk w3 w2.heap.size 23 #[.int .i64 1, .string (letB 83), .int .i64 1] := by rw [hw3]; exact sym_cells _ _ _ _
  have hb3 : Below w2.heap.size w2 w3 := by rw [hw3]; exact (Below.refl _ _).alloc (Nat.le_refl _) _
  rw [← hw3]
  clear hw3
  have hal := hA.lt
  have hz3 := hb3.size
  have HF3 := Lib.hid (HF2.out.trans (hb3.mono (by omega)))
  refine (fresh_new T [symS 1] [⟨83, 2⟩] 83 (HT2.out.protect hb3) (HB2.out.below hb3) (by rw [upd_upd] <;> exact upd_same _ _ _) (by rw [upd_upd] <;> exact upd_same _ _ _) great83 (by rw [HR.out]; decide) (by rw [next1]; decide) (by rw [next1]; decide) (by decide) (by decide)).mono ?_
  rintro e w4 ⟨rfl, _, hK4, hF4⟩
  rw [next1]
  have hz4 := hF4.size
  have hA4 := hA.fr hF4 (fun h => h (.inr ⟨Nat.le_refl _, hal⟩))
  have HF4 := Lib.hid (HF3.out.trans (hF4.below (by omega) (fun k hk hd => hd (.inl hk))))
  have HA4 := Lib.hid hA4
  clear hA hb3 hK4 hF4 hA4
  go_wp2_with fail
  obtain ⟨w5, hw5⟩ : ∃ w5, w5 = w4.alloc (.cells #[.int .i64 1, .string (letB 83), .int .i64 2] 23) := ⟨_, rfl⟩
  have hC : Blk w5 w4.heap.size 23 #[.int .i64 1, .string (letB 83), .int .i64 2] := by rw [hw5]; exact sym_cells _ _ _ _
  have hb5 : Below w4.heap.size w4 w5 := by rw [hw5]; exact (Below.refl _ _).alloc (Nat.le_refl _) _
  rw [← hw5]
  clear hw5
  have hz5 := hb5.size
  have HF5 := Lib.hid (HF4.out.trans (hb5.mono (by omega)))
  have HA5 := Lib.hid (HA4.out.new_ hb5)
  refine (parse_is ⟨#[45, 48]⟩ (by decide) _).mono ?_
  rintro e w6 ⟨rfl, hb6⟩
  rw [parse0]
  have hz6 := hb6.size
  have hA6 := HA5.out.new_ hb6
  have hC6 := hC.new_ hb6
  have HF6 := Lib.hid (HF5.out.trans (hb6.mono (by omega)))
  have HA6 := Lib.hid hA6
  have HC6 := Lib.hid hC6
  have a0 : w6.cell? ⟨w2.heap.size, 0, none⟩ = some (.int .i64 1) := (hA6.cell 0).trans rfl
  have a1 : w6.cell? ⟨w2.heap.size, 1, none⟩ = some (.string (letB 83)) := (hA6.cell 1).trans rfl
  have a2 : w6.cell? ⟨w2.heap.size, 2, none⟩ = some (.int .i64 1) := (hA6.cell 2).trans rfl
  have hal6 := hA6.lt
  have hcl6 := hC6.lt
  clear hC hb5 hb6 hA6 hC6
  simp only [symRes]
  go_wp2_with fail
  refine (text_is ⟨1, letB 83, 1⟩ _).mono ?_
  rintro e w7 ⟨rfl, hb7⟩
  rw [texts1]
  have hC7 := (HC6.out.alloc (Obj.cells #[Value.int IntKind.i64 0, Value.string ⟨#[]⟩, Value.int IntKind.i64 0] 23)).new_ hb7
  have HF7 := Lib.hid ((HF6.out.alloc HF6.out.size (Obj.cells #[Value.int IntKind.i64 0, Value.string ⟨#[]⟩, Value.int IntKind.i64 0] 23)).trans (hb7.mono (by have := HF6.out.size; simp; omega)))
  have c0 : w7.cell? ⟨w4.heap.size, 0, none⟩ = some (.int .i64 1) := (hC7.cell 0).trans rfl
  have c1 : w7.cell? ⟨w4.heap.size, 1, none⟩ = some (.string (letB 83)) := (hC7.cell 1).trans rfl
  have c2 : w7.cell? ⟨w4.heap.size, 2, none⟩ = some (.int .i64 2) := (hC7.cell 2).trans rfl
  have hcl7 := hC7.lt
  clear hb7 hC7 a0 a1 a2
  go_wp2_with fail
  refine (text_is ⟨1, letB 83, 2⟩ _).mono ?_
  rintro e w8 ⟨rfl, hb8⟩
  rw [texts2]
  have HF8 := Lib.hid (HF7.out.trans (hb8.mono HF7.out.size))
  clear hb8 c0 c1 c2
  go_wp2_with fail
  go_ret
  exact ⟨rfl, HF8.out⟩
end Go.Proofs.Ytlkffnmmphehdaa

namespace Go.Proofs.Ytlkffnmmphehdaa
open Go.RowKit Go.ChangeShapes Go.WideShapes Go.Deep

/-- Cells that stand for an α: how many; which, where what they point to lies in blocks of D; nothing else of memory is asked. -/
structure RepT (α : Type) where
  size : Nat
  rep : (Nat → Prop) → World → α → List Value → Prop
  len : ∀ {D : Nat → Prop} {w : World} {a : α} {cs : List Value}, rep D w a cs → cs.length = size
  keep : ∀ {D D' : Nat → Prop} {w w' : World} {a : α} {cs : List Value}, w.heap.size ≤ w'.heap.size → (∀ k, D k → k < w.heap.size → D' k ∧ w'.heap[k]? = w.heap[k]?) → rep D w a cs → rep D' w' a cs
/-- The slice '.slice A l.length c' holds the list l. -/
def RowR {α : Type} (r : RepT α) (D : Nat → Prop) (w : World) (A : Option Addr) (c : Nat) (l : List α) : Prop :=
  l.length ≤ c ∧ c ≤ maxLen ∧
    (0 < l.length → ∃ b off, A = some ⟨b, off, none⟩ ∧ D b ∧ b < w.heap.size ∧ ∀ k, (h : k < l.length) → ∃ cs, r.rep D w l[k] cs ∧ ∀ j u, cs[j]? = some u → w.cell? ⟨b, off + k * r.size + j, none⟩ = some u)
section
variable {α : Type} {r : RepT α} {D D' : Nat → Prop} {w w' : World} {A : Option Addr} {c : Nat} {l : List α}
theorem RowR.keep (h : RowR r D w A c l) (hs : w.heap.size ≤ w'.heap.size) (hk : ∀ k, D k → k < w.heap.size → D' k ∧ w'.heap[k]? = w.heap[k]?) : RowR r D' w' A c l := by
  refine ⟨h.1, h.2.1, fun h0 => ?_⟩
  obtain ⟨b, off, h1, h2, h3, h4⟩ := h.2.2 h0
  refine ⟨b, off, h1, (hk b h2 h3).1, by omega, fun k hk' => ?_⟩
  obtain ⟨cs, h5, h6⟩ := h4 k hk'
  exact ⟨cs, r.keep hs hk h5, fun j u hu => (World.cell?_of_block (hk b h2 h3).2).trans (h6 j u hu)⟩
theorem RowR.nil (r : RepT α) (D : Nat → Prop) (w : World) : RowR r D w none 0 [] := ⟨Nat.le_refl _, Nat.zero_le _, fun h => absurd h (by simp)⟩
theorem RowR.cap (h : RowR r D w A c l) : (l.length : Int) ≤ 9223372036854775807 := by have := h.1; have := h.2.1; unfold maxLen at this; omega
theorem RowR.at_ (h : RowR r D w A c l) {k : Nat} (hk : k < l.length) : ∃ b off cs, A = some ⟨b, off, none⟩ ∧ D b ∧ b < w.heap.size ∧ r.rep D w l[k] cs ∧ ∀ j u, cs[j]? = some u → w.cell? ⟨b, off + k * r.size + j, none⟩ = some u := by
  obtain ⟨b, off, h1, h2, h3, h4⟩ := h.2.2 (by omega)
  obtain ⟨cs, h5, h6⟩ := h4 k hk
  exact ⟨b, off, cs, h1, h2, h3, h5, h6⟩
theorem RowR.weaken (h : RowR r D w A c l) (hD : ∀ k, D k → D' k) : RowR r D' w A c l := h.keep (Nat.le_refl _) (fun k hk _ => ⟨hD k hk, rfl⟩)
theorem RowR.new_ (h : RowR r D w A c l) (hb : Below w.heap.size w w') : RowR r D w' A c l := h.keep hb.size (fun k hk hl => ⟨hk, hb.block k hl⟩)
theorem RowR.fr {M : Nat → Prop} (h : RowR r D w A c l) (hb : Fr M w w') (hm : ∀ k, D k → ¬ M k) : RowR r D w' A c l := h.keep hb.size (fun k hk hl => ⟨hk, hb.block k hl (hm k hk)⟩)
theorem RowR.prefix_ (h : RowR r D w A c l) (n : Nat) : RowR r D w A c (l.take n) := by
  refine ⟨by simp; have := h.1; omega, h.2.1, fun h0 => ?_⟩
  obtain ⟨b, off, h1, h2, h3, h4⟩ := h.2.2 (by simp at h0; omega)
  exact ⟨b, off, h1, h2, h3, fun k hk => by rw [List.getElem_take]; exact h4 k (by simp at hk; omega)⟩
end
/-- Cells alone. -/
def RepT.flat {α : Type} (size : Nat) (cells : α → List Value) (h : ∀ a, (cells a).length = size) : RepT α :=
  ⟨size, fun _ _ a cs => cs = cells a, by rintro _ _ _ _ rfl; exact h _, by rintro _ _ _ _ _ _ _ _ h; exact h⟩
theorem RowR.rd {α : Type} {size : Nat} {cells : α → List Value} {hs : ∀ a, (cells a).length = size} {D : Nat → Prop} {w : World} {A : Option Addr} {c : Nat} {l : List α} (h : RowR (RepT.flat size cells hs) D w A c l) : RowRd w size cells A c l := by
  refine ⟨h.1, h.2.1, fun h0 => ?_⟩
  obtain ⟨b, off, h1, h2, h3, h4⟩ := h.2.2 h0
  refine ⟨b, off, h1, h3, fun k hk j u hu => ?_⟩
  obtain ⟨cs, h5, h6⟩ := h4 k hk
  have h5' : cs = cells l[k] := h5
  exact h6 j u (by rw [h5']; exact hu)
theorem RowR.ain {α : Type} {r : RepT α} {D : Nat → Prop} {w : World} {A : Option Addr} {c : Nat} {l : List α} (h : RowR r D w A c l) (h0 : 0 < l.length) : AIn A D := by
  obtain ⟨b, off, rfl, h2, _⟩ := h.2.2 h0
  intro a ha; cases ha; exact h2
theorem RowR.of_rd {α : Type} {size : Nat} {cells : α → List Value} {hs : ∀ a, (cells a).length = size} {D : Nat → Prop} {w : World} {A : Option Addr} {c : Nat} {l : List α} (h : RowRd w size cells A c l) (hA : AIn A D) : RowR (RepT.flat size cells hs) D w A c l := by
  refine ⟨h.1, h.2.1, fun h0 => ?_⟩
  obtain ⟨b, off, h1, h2, h3⟩ := h.2.2 h0
  exact ⟨b, off, h1, hA _ h1, h2, fun k hk => ⟨_, rfl, h3 k hk⟩⟩
/-- A slice of such. -/
def RepT.list {α : Type} (r : RepT α) : RepT (List α) :=
  ⟨1, fun D w l cs => ∃ A c, cs = [.slice A l.length c] ∧ RowR r D w A c l, by rintro _ _ _ _ ⟨_, _, rfl, _⟩; rfl, by
    rintro _ _ _ _ _ _ hs hk ⟨A, c, h1, h2⟩; exact ⟨A, c, h1, h2.keep hs hk⟩⟩

/-! ### arguments opened -/
/-- What reads as a value of type t stands for an α. -/
def Opens {α : Type} (P : Program) (t : TypeId) (r : RepT α) : Prop :=
  P.cellsOf t = r.size ∧ ∀ (H : Type) (enc : TypeId × Value → H) (w : World) (base : Nat) (spare : Nat → Bool) (held : Bool) (n : Nat) (cs : List Value) (x : DataW H × List MemPlace),
    DataW.trod enc P w base spare held n t cs = some x → ∃ a : α, r.rep (· < w.heap.size) w a cs
theorem opens_of_reads {α : Type} {P : Program} {t : TypeId} {size : Nat} {cells : α → List Value} (hs : ∀ a, (cells a).length = size) (h : Reads P t size cells) : Opens P t (RepT.flat size cells hs) :=
  ⟨h.1, fun H enc w base spare held n cs x hx => h.2 H enc w base spare held n cs x hx⟩
theorem row_of_trod {H : Type} {enc : TypeId × Value → H} {P : Program} {w : World} {base : Nat} {spare : Nat → Bool} {held : Bool} {α : Type} {r : RepT α} {t e : TypeId} {fuel : Nat} {cs : List Value} {x : DataW H × List MemPlace}
    (ht : P.underlying t = some (.slice e)) (h0 : 0 < r.size) (hr : P.cellsOf e = r.size) (hE : ∀ n cs x, DataW.trod enc P w base spare held n e cs = some x → ∃ a : α, r.rep (· < w.heap.size) w a cs)
    (hf : DataW.trod enc P w base spare held fuel t cs = some x) : ∃ A c, ∃ l : List α, cs = [.slice A l.length c] ∧ RowR r (· < w.heap.size) w A c l := by
  rcases open_slice ht hf with ⟨h1, _⟩ | ⟨a, len, cap, m, n, Dd, Pl, h1, _, hl, hm, hmm, _, hx⟩
  · exact ⟨none, 0, [], h1, RowR.nil _ _ _⟩
  · have hlm : len ≤ m := by rw [hmm]; split <;> omega
    obtain ⟨l, hll, hq⟩ := list_of (α := α) (Q := fun i x => ∃ cs', r.rep (· < w.heap.size) w x cs' ∧ ∀ j u, cs'[j]? = some u → w.cell? ((a.add (i * r.size)).add j) = some u) len (fun i hi => by
      obtain ⟨cs', c1, c2⟩ := hx i (by omega)
      obtain ⟨x, hrep⟩ := hE n cs' _ c2
      obtain ⟨_, hlen, hcell⟩ := World.cells?_some c1
      rw [hr] at hcell hlen
      exact ⟨x, cs', hrep, fun j u hu => (hcell j (by rw [← hlen]; exact (List.getElem?_eq_some_iff.1 hu).1)).trans hu⟩)
    subst hll
    refine ⟨some a, cap, l, h1, hl, hm, fun hpos => ?_⟩
    obtain ⟨cs', c1, c2⟩ := hx 0 (by omega)
    obtain ⟨_, hlen, hcell⟩ := World.cells?_some c1
    rw [hr] at hlen hcell
    have hspot : a.spot = none := by
      have := hcell 0 h0
      rw [List.getElem?_eq_getElem (by omega)] at this
      have e2 : (a.add (0 * r.size)).add 0 = a := by simp [Addr.add]
      rw [e2] at this
      exact World.cell?_spot this
    obtain ⟨b, off, spot⟩ := a
    simp only at hspot
    subst hspot
    have hbl : b < w.heap.size := by
      have := hcell 0 h0
      rw [List.getElem?_eq_getElem (by omega)] at this
      have e2 : ((⟨b, off, none⟩ : Addr).add (0 * r.size)).add 0 = ⟨b, off, none⟩ := by simp [Addr.add]
      rw [e2] at this
      exact World.block_lt_of_cell? w _ this
    refine ⟨b, off, rfl, hbl, hbl, fun k hk => ?_⟩
    obtain ⟨cs2, g1, g2⟩ := hq k hk
    refine ⟨cs2, g1, fun j u hu => ?_⟩
    have := g2 j u hu
    rwa [add_plain, add_plain] at this
theorem opens_slice {α : Type} {P : Program} {r : RepT α} {t e : TypeId} (ht : P.underlying t = some (.slice e)) (hc : P.cellsOf t = 1) (h0 : 0 < r.size) (hr : Opens P e r) : Opens P t r.list :=
  ⟨hc, fun H enc w base spare held n cs x h => by
    obtain ⟨A, c, l, h1, h2⟩ := row_of_trod ht h0 hr.1 (fun n cs x h => hr.2 H enc w base spare held n cs x h) h
    exact ⟨l, A, c, h1, h2⟩⟩
/-- A struct's field. -/
theorem trod_field {H : Type} {enc : TypeId × Value → H} {P : Program} {w : World} {base : Nat} {spare : Nat → Bool} {held : Bool} {t : TypeId} {fs : Array Field} {n : Nat} {cs : List Value} {x : DataW H × List MemPlace}
    (ht : P.underlying t = some (.struct fs)) (h : DataW.trod enc P w base spare held n t cs = some x) (i : Nat) {f : Field} (hf : fs[i]? = some f) (ty off sz : Nat) (e1 : f.type = ty) (e2 : f.offset = off) (e3 : P.cellsOf ty = sz) :
    ∃ m y, DataW.trod enc P w base spare held m ty ((cs.drop off).take sz) = some y := by
  obtain ⟨xs, n2, _, _, _, hlen, hx⟩ := DataW.trod_struct ht h
  have h1 := hx i f hf
  subst e1; subst e2; subst e3
  have hi : i < xs.length := by
    have := (Array.getElem?_eq_some_iff.1 hf).1
    omega
  rw [List.getElem?_eq_getElem hi] at h1
  exact ⟨n2, _, h1⟩
theorem trod_len {H : Type} {enc : TypeId × Value → H} {P : Program} {w : World} {base : Nat} {spare : Nat → Bool} {held : Bool} {t : TypeId} {fs : Array Field} {n : Nat} {cs : List Value} {x : DataW H × List MemPlace}
    (ht : P.underlying t = some (.struct fs)) (h : DataW.trod enc P w base spare held n t cs = some x) : cs.length = P.cellsOf t := by
  obtain ⟨_, _, _, _, hl, _⟩ := DataW.trod_struct ht h
  exact hl
/-- An argument that is a slice. -/
theorem open_rowR {H : Type} {enc : TypeId × Value → H} {P : Program} {w : World} {rc : Reach} {b0 base : Nat} {spare : Nat → Bool} {held : Bool} {α : Type} {r : RepT α} {t e : TypeId} {v : Value} {d : DataW H} {ps : List MemPlace}
    (ht : P.underlying t = some (.slice e)) (h0 : 0 < r.size) (hr : Opens P e r) (hval : Value.okWide P w rc b0 t v) (h : DataW.Trod enc P w base spare held t v d ps) :
    ∃ A c, ∃ l : List α, v = .slice A l.length c ∧ RowR r (· < w.heap.size) w A c l := by
  obtain ⟨A, len, cap, rfl⟩ := okWide_slice ht hval
  obtain ⟨fuel, hf⟩ := h
  have hcs : (Value.slice A len cap).cells.toList = [.slice A len cap] := by simp [Value.cells]
  rw [hcs] at hf
  obtain ⟨A', c', l, h1, h2⟩ := row_of_trod ht h0 hr.1 (fun n cs x h => hr.2 H enc w base spare held n cs x h) hf
  simp only [List.cons.injEq, and_true] at h1
  exact ⟨A', c', l, h1, h2⟩
end Go.Proofs.Ytlkffnmmphehdaa

namespace Go.Proofs.Ytlkffnmmphehdaa
open Go.RowKit Go.ChangeShapes Go.WideShapes Go.Deep
theorem reads_Sym : Reads Try.prog 23 3 Sym.cells :=
  ⟨by kernel_rfl, fun H enc w base spare held n cs x h => by
    obtain ⟨y0, y1, y2, n', _, hl, h0, h1, h2⟩ := trod_struct3 Try.underlying23 h
    have hl3 : cs.length = 3 := hl.trans (by kernel_rfl)
    have c3 : Try.prog.cellsOf 3 = 1 := by kernel_rfl
    have c9 : Try.prog.cellsOf 9 = 1 := by kernel_rfl
    simp only [c3, c9] at h0 h1 h2
    match cs, hl3 with
    | [v0, v1, v2], _ =>
      simp at h0 h1 h2
      obtain ⟨a, e0, _⟩ := DataW.trod_int Try.underlying3 h0
      obtain ⟨b, e1, _⟩ := DataW.trod_string Try.underlying9 h1
      obtain ⟨c, e2, _⟩ := DataW.trod_int Try.underlying3 h2
      simp at e0 e1 e2
      subst e0; subst e1; subst e2
      exact ⟨⟨a, b, c⟩, rfl⟩⟩
end Go.Proofs.Ytlkffnmmphehdaa

namespace Go.Proofs.Ytlkffnmmphehdaa
open Go.RowKit Go.ChangeShapes Go.WideShapes Go.Deep
def repInt : RepT Int := RepT.flat 1 (fun n : Int => [Value.int .i64 n]) (fun _ => rfl)
def repStr : RepT ByteArray := RepT.flat 1 (fun s : ByteArray => [Value.string s]) (fun _ => rfl)
def repBool : RepT Bool := RepT.flat 1 (fun b : Bool => [Value.bool b]) (fun _ => rfl)
def repSym : RepT Sym := RepT.flat 3 Sym.cells Sym.cells_length
theorem opens_Sym : Opens Try.prog 23 repSym := opens_of_reads Sym.cells_length reads_Sym
theorem u8_of {n : Int} (h : (Lit.int .u8 n).wf = true) : ∃ c : UInt8, n = (c.toNat : Int) := by
  have h2 : 0 ≤ n ∧ n < 256 := by
    simp [Lit.wf] at h
    have e1 : IntKind.u8.min = 0 := by rfl
    have e2 : IntKind.u8.max = 255 := by rfl
    omega
  exact ⟨UInt8.ofNat n.toNat, by simp; omega⟩

theorem at_Sym {D : Nat → Prop} {w : World} {A : Option Addr} {c k : Nat} {l : List Sym} (h : RowR repSym D w A c l) (hk : k < l.length) : ∃ g off, A = some ⟨g, off, none⟩ ∧ D g ∧ g < w.heap.size ∧ w.cell? ⟨g, off + k * 3, none⟩ = some (.int .i64 l[k].kind) ∧ w.cell? ⟨g, off + k * 3 + 1, none⟩ = some (.string l[k].text) ∧ w.cell? ⟨g, off + k * 3 + 2, none⟩ = some (.int .i64 l[k].n) := by
  obtain ⟨g, off, cs, hA, hD, hg, hr, hc⟩ := h.at_ hk
  have hr2 : cs = Sym.cells l[k] := hr
  subst hr2
  refine ⟨g, off, hA, hD, hg, by simpa [repSym, RepT.flat] using hc 0 _ rfl, by simpa [repSym, RepT.flat] using hc 1 _ rfl, by simpa [repSym, RepT.flat] using hc 2 _ rfl⟩

structure Act4 where
  do_ : Int
  letter : UInt8
  s : Sym
  l : List Sym
def repAct4 : RepT Act4 :=
  { size := 6, rep := fun D w x cs => ∃ A1 c1, cs = [.int .i64 x.do_, .int .u8 (x.letter.toNat : Int), .int .i64 x.s.kind, .string x.s.text, .int .i64 x.s.n, .slice A1 x.l.length c1] ∧ RowR repSym D w A1 c1 x.l,
    len := by rintro _ _ _ _ ⟨_, _, rfl, _⟩; rfl,
    keep := by
      rintro _ _ _ _ _ _ hs hk ⟨A1, c1, h0, h1⟩
      exact ⟨A1, c1, h0, h1.keep hs hk⟩ }
theorem at_Act4 {D : Nat → Prop} {w : World} {A : Option Addr} {c k : Nat} {l : List Act4} (h : RowR repAct4 D w A c l) (hk : k < l.length) : ∃ g off A1 c1, A = some ⟨g, off, none⟩ ∧ D g ∧ g < w.heap.size ∧ w.cell? ⟨g, off + k * 6, none⟩ = some (.int .i64 l[k].do_) ∧ w.cell? ⟨g, off + k * 6 + 1, none⟩ = some (.int .u8 (l[k].letter.toNat : Int)) ∧ w.cell? ⟨g, off + k * 6 + 2, none⟩ = some (.int .i64 l[k].s.kind) ∧ w.cell? ⟨g, off + k * 6 + 3, none⟩ = some (.string l[k].s.text) ∧ w.cell? ⟨g, off + k * 6 + 4, none⟩ = some (.int .i64 l[k].s.n) ∧ w.cell? ⟨g, off + k * 6 + 5, none⟩ = some (.slice A1 l[k].l.length c1) ∧ RowR repSym D w A1 c1 l[k].l := by
  obtain ⟨g, off, cs, hA, hD, hg, ⟨A1, c1, rfl, hrs⟩, hc⟩ := h.at_ hk
  exact ⟨g, off, A1, c1, hA, hD, hg, by simpa [repAct4] using hc 0 _ rfl, by simpa [repAct4] using hc 1 _ rfl, by simpa [repAct4] using hc 2 _ rfl, by simpa [repAct4] using hc 3 _ rfl, by simpa [repAct4] using hc 4 _ rfl, by simpa [repAct4] using hc 5 _ rfl, hrs⟩
theorem opens_Act4 : Opens Try.prog 43 repAct4 :=
  ⟨by kernel_rfl, fun H enc w base spare held n cs x h => by
    have hl2 : cs.length = 6 := (trod_len Try.underlying43 h).trans (by kernel_rfl)
    obtain ⟨m0, y0, h0⟩ := trod_field Try.underlying43 h 0 rfl 3 0 1 rfl rfl (by kernel_rfl)
    obtain ⟨m1, y1, h1⟩ := trod_field Try.underlying43 h 1 rfl 5 1 1 rfl rfl (by kernel_rfl)
    obtain ⟨m2, y2, h2⟩ := trod_field Try.underlying43 h 2 rfl 23 2 3 rfl rfl (by kernel_rfl)
    obtain ⟨m3, y3, h3⟩ := trod_field Try.underlying43 h 3 rfl 39 5 1 rfl rfl (by kernel_rfl)
    match cs, hl2 with
    | [v0, v1, v2, v3, v4, v5], _ =>
      simp at h0 h1 h2 h3
      obtain ⟨a0, e0, _⟩ := DataW.trod_int Try.underlying3 h0
      simp at e0
      obtain ⟨b1, e1, _, hw1⟩ := DataW.trod_int Try.underlying5 h1
      obtain ⟨a1, rfl⟩ := u8_of hw1
      simp at e1
      obtain ⟨a2, e2⟩ := opens_Sym.2 H enc w base spare held _ _ _ h2
      have e2 : _ = Sym.cells a2 := e2
      simp [Sym.cells] at e2
      obtain ⟨a3, A3, c3, e3, r3⟩ := (opens_slice Try.underlying39 (by kernel_rfl) (by decide) opens_Sym).2 H enc w base spare held _ _ _ h3
      simp at e3
      subst e0
      subst e1
      obtain ⟨rfl, rfl, rfl⟩ := e2
      subst e3
      exact ⟨⟨a0, a1, a2, a3⟩, A3, c3, rfl, r3⟩⟩
end Go.Proofs.Ytlkffnmmphehdaa
