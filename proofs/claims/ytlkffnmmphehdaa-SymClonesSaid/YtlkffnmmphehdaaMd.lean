/-
  Texts put together: Tab, BookPut, BookPut2, SymWord, SymDigits, SymValid, TabNew.
-/
import Derived.Test.YtlkffnmmphehdaaMc
import Derived.Test.YtlkffnmmphehdaaMb
import Derived.Deep.Cut
import Derived.Test.YtlkffnmmphehdaaMa
import Derived.Lib.SlBytesRow

namespace Go.Proofs.Ytlkffnmmphehdaa
open Go.RowKit
/-- Blocks of no set's type lie as they lay. -/
def KB (w w' : World) : Prop := ∀ (g : Nat) (t : TypeId) (cs : Array Value), t ≠ 83 → t ≠ 23 → t ≠ 98 → t ≠ 87 → Blk w g t cs → Blk w' g t cs
theorem KB.refl (w : World) : KB w w := fun _ _ _ _ _ _ _ h => h
theorem KB.trans {a b c : World} (h : KB a b) (k : KB b c) : KB a c := fun g t cs h1 h2 h3 h4 h5 => k g t cs h1 h2 h3 h4 (h g t cs h1 h2 h3 h4 h5)
theorem KB.of_below {w w' : World} (h : Below w.heap.size w w') : KB w w' := fun _ _ _ _ _ _ _ hb => hb.new_ h
theorem blk_far {α : Type} {tSet tE size : Nat} {cells : α → List Value} {w : World} {b : Nat} {sn : Bool} {A : Option Addr} {c : Nat} {l : List α} {g : Nat} {t : TypeId} {cs : Array Value}
    (hS : SetAt tSet tE size cells w b sn A c l) (hB : Blk w g t cs) (h1 : t ≠ tSet) (h2 : t ≠ tE) : ¬ SetMod b sn A g := by
  rintro (rfl | ⟨_, a, ha, rfl⟩)
  · exact hB.ne_ hS.blk h1 rfl
  · have := own_blk_ne hS.row hB (Ne.symm h2)
    subst ha
    exact this (by simp [Value.ownBlock])
theorem KB.of_sym {w w' : World} {b : Nat} {sn : Bool} {A : Option Addr} {c : Nat} {l : List Sym} (hS : SymSet w b sn A c l) (hF : Fr (SetMod b sn A) w w') : KB w w' := fun _ _ _ h1 h2 _ _ hB => hB.fr hF (blk_far hS hB h1 h2)
theorem KB.of_page {w w' : World} {b : Nat} {sn : Bool} {A : Option Addr} {c : Nat} {l : List Page} (hS : PageSet w b sn A c l) (hF : Fr (SetMod b sn A) w w') : KB w w' := fun _ _ _ _ _ h3 h4 hB => hB.fr hF (blk_far hS hB h3 h4)
/-- A set of another family. -/
theorem SetAt.other {α β : Type} {tSet tE size tSet2 tE2 size2 : Nat} {cells : α → List Value} {cells2 : β → List Value} {w w' : World} {b b2 : Nat} {sn sn2 : Bool} {A A2 : Option Addr} {c c2 : Nat} {l : List α} {l2 : List β}
    (h : SetAt tSet tE size cells w b sn A c l) (h2 : SetAt tSet2 tE2 size2 cells2 w b2 sn2 A2 c2 l2) (n1 : tSet2 ≠ tSet) (n2 : tSet2 ≠ tE) (n3 : tE2 ≠ tSet) (n4 : tE2 ≠ tE) (hF : Fr (SetMod b sn A) w w') : SetAt tSet2 tE2 size2 cells2 w' b2 sn2 A2 c2 l2 := by
  refine h2.fr hF (blk_far h h2.blk n1 n2) ?_
  intro a ha
  rcases ownsRow_form h2.row with ⟨hv, _⟩ | ⟨g, cap, hv, _, _, hr, _⟩
  · injection hv with hv; rw [ha] at hv; cases hv
  · injection hv with hv
    rw [ha] at hv
    injection hv with hv
    subst hv
    obtain ⟨cur, hcur, _⟩ := hr
    exact blk_far h (show Blk w g tE2 cur from hcur) n3 n4
theorem Sets.other {α β : Type} {tSet tE size tSet2 tE2 size2 : Nat} {cells : α → List Value} {cells2 : β → List Value} {cmp2 : β → β → Int} {D : Nat → Prop} {w w' : World} {b : Nat} {sn : Bool} {A : Option Addr} {c : Nat} {l : List α} {S2 : Nat → Option (List β)} {σ2 : Nat → St}
    (H2 : Sets tSet2 tE2 size2 cells2 cmp2 D w S2 σ2) (h : SetAt tSet tE size cells w b sn A c l) (n1 : tSet2 ≠ tSet) (n2 : tSet2 ≠ tE) (n3 : tE2 ≠ tSet) (n4 : tE2 ≠ tE) (hF : Fr (SetMod b sn A) w w') : Sets tSet2 tE2 size2 cells2 cmp2 D w' S2 σ2 :=
  ⟨fun b' l' hb => h.other (H2.at_ b' l' hb) n1 n2 n3 n4 hF, H2.srt, H2.out, H2.apart, fun k hk => Nat.lt_of_lt_of_le (H2.low k hk) hF.size⟩
/-- Both families. -/
structure Tabs (D : Nat → Prop) (w : World) (S : Nat → Option (List Sym)) (σ : Nat → St) (S2 : Nat → Option (List Page)) (σ2 : Nat → St) : Prop where
  syms : SymSets D w S σ
  pages : PageSets D w S2 σ2
section
variable {D : Nat → Prop} {w w' : World} {S : Nat → Option (List Sym)} {σ : Nat → St} {S2 : Nat → Option (List Page)} {σ2 : Nat → St}
theorem Tabs.below (h : Tabs D w S σ S2 σ2) (hb : Below w.heap.size w w') : Tabs D w' S σ S2 σ2 := ⟨h.syms.below hb, h.pages.below hb⟩
theorem Tabs.protect (h : Tabs D w S σ S2 σ2) (hb : Below w.heap.size w w') : Tabs (fun k => D k ∨ (w.heap.size ≤ k ∧ k < w'.heap.size)) w' S σ S2 σ2 := ⟨h.syms.protect hb, h.pages.protect hb⟩
theorem Tabs.start (w : World) : Tabs (· < w.heap.size) w (fun _ => none) (fun _ => ⟨false, none, 0⟩) (fun _ => none) (fun _ => ⟨false, none, 0⟩) := ⟨Sets.start _ _ _ _ _ w, Sets.start _ _ _ _ _ w⟩
/-- Block k is no set's. -/
def Off {α : Type} (k : Nat) (S : Nat → Option (List α)) (σ : Nat → St) : Prop := ∀ b l, S b = some l → b ≠ k ∧ AIn (σ b).A (· ≠ k)
theorem Off.new_ {α : Type} {tSet tE size : Nat} {cells : α → List Value} {cmp : α → α → Int} {S : Nat → Option (List α)} (h : Sets tSet tE size cells cmp D w S σ) {k : Nat} (hk : w.heap.size ≤ k) : Off k S σ :=
  fun b l hb => ⟨by have := h.lt hb; omega, fun a ha => by have := (h.at_ b l hb).row_lt a ha; omega⟩
theorem Off.moved {α : Type} {S : Nat → Option (List α)} {k b : Nat} {l l' : List α} {st : St} (h : Off k S σ) (hb : S b = some l) (hM : Moved w (σ b).sn (σ b).A st.sn st.A) (hk : k < w.heap.size) : Off k (upd S b (some l')) (upd σ b st) := by
  intro b' m hm
  by_cases e : b' = b
  · subst e
    refine ⟨(h b' l hb).1, ?_⟩
    rw [upd_same]
    rcases hM with ⟨_, hA⟩ | ⟨_, g, hg, hA⟩
    · rw [hA]; exact (h b' l hb).2
    · rw [hA]; intro a ha; cases ha; dsimp only; omega
  · rw [upd_ne _ _ e] at hm ⊢
    exact h b' m hm
/-- A set of symbols changed: what stands behind it. -/
def SymStep (D : Nat → Prop) (w : World) (S : Nat → Option (List Sym)) (σ : Nat → St) (S2 : Nat → Option (List Page)) (σ2 : Nat → St) (b : Nat) (l : List Sym) (w' : World) : Prop :=
  (∃ σ', Tabs D w' (upd S b (some l)) σ' S2 σ2 ∧ ∀ k, k < w.heap.size → Off k S σ → Off k (upd S b (some l)) σ') ∧ KB w w' ∧ Fr (fun k => ¬ D k) w w' ∧ Fr (SetMod b (σ b).sn (σ b).A) w w'
def PageStep (D : Nat → Prop) (w : World) (S : Nat → Option (List Sym)) (σ : Nat → St) (S2 : Nat → Option (List Page)) (σ2 : Nat → St) (b : Nat) (m : List Page) (w' : World) : Prop :=
  (∃ σ2', Tabs D w' S σ (upd S2 b (some m)) σ2' ∧ ∀ k, k < w.heap.size → Off k S2 σ2 → Off k (upd S2 b (some m)) σ2') ∧ KB w w' ∧ Fr (fun k => ¬ D k) w w' ∧ Fr (SetMod b (σ2 b).sn (σ2 b).A) w w'
theorem Tabs.sym {b : Nat} {l l' : List Sym} {st : St} (h : Tabs D w S σ S2 σ2) (hb : S b = some l) (h1 : SymSet w' b st.sn st.A st.c l') (hs : Srt cmpSym l') (hF : Fr (SetMod b (σ b).sn (σ b).A) w w') (hM : Moved w (σ b).sn (σ b).A st.sn st.A) : SymStep D w S σ S2 σ2 b l' w' :=
  ⟨⟨upd σ b st, ⟨h.syms.moved (by decide) hb h1 hs hF hM, h.pages.other (h.syms.at_ b l hb) (by decide) (by decide) (by decide) (by decide) hF⟩, fun _ hk ho => ho.moved hb hM hk⟩, KB.of_sym (h.syms.at_ b l hb) hF, h.syms.mod hb hF, hF⟩
theorem Tabs.page {b : Nat} {m m' : List Page} {st : St} (h : Tabs D w S σ S2 σ2) (hb : S2 b = some m) (h1 : PageSet w' b st.sn st.A st.c m') (hs : Srt cmpPage m') (hF : Fr (SetMod b (σ2 b).sn (σ2 b).A) w w') (hM : Moved w (σ2 b).sn (σ2 b).A st.sn st.A) : PageStep D w S σ S2 σ2 b m' w' :=
  ⟨⟨upd σ2 b st, ⟨h.syms.other (h.pages.at_ b m hb) (by decide) (by decide) (by decide) (by decide) hF, h.pages.moved (by decide) hb h1 hs hF hM⟩, fun _ hk ho => ho.moved hb hM hk⟩, KB.of_page (h.pages.at_ b m hb) hF, h.pages.mod hb hF, hF⟩
theorem tPut_Sym {b : Nat} {l : List Sym} (x : Sym) (h : Tabs D w S σ S2 σ2) (hb : S b = some l) (hl : (l.length : Int) ≤ 100000000) :
    Calls Try.prog 50 #[.pointer (some ⟨b, 0, none⟩), .agg #[.int .i64 x.kind, .string x.text, .int .i64 x.n]] w fun e w' => e = .returned (.bool (!has cmpSym l x)) ∧ SymStep D w S σ S2 σ2 b (put cmpSym l x) w' := by
  refine (put_Sym b _ _ _ l x w (h.syms.at_ b l hb) (h.syms.srt b l hb) hl).mono ?_
  rintro e w' ⟨he, sn', A', c', h1, hF, hM⟩
  exact ⟨he, h.sym (st := ⟨sn', A', c'⟩) hb h1 ((h.syms.srt b l hb).put tc_sym x) hF hM⟩
theorem tPut_Page {b : Nat} {m : List Page} (x : Page) (h : Tabs D w S σ S2 σ2) (hb : S2 b = some m) (hl : (m.length : Int) ≤ 100000000) :
    Calls Try.prog 72 #[.pointer (some ⟨b, 0, none⟩), .agg #[.int .u8 x.kk, .int .i64 x.v]] w fun e w' => e = .returned (.bool (!has cmpPage m x)) ∧ PageStep D w S σ S2 σ2 b (put cmpPage m x) w' := by
  refine (put_Page b _ _ _ m x w (h.pages.at_ b m hb) (h.pages.srt b m hb) hl).mono ?_
  rintro e w' ⟨he, sn', A', c', h1, hF, hM⟩
  exact ⟨he, h.page (st := ⟨sn', A', c'⟩) hb h1 ((h.pages.srt b m hb).put tc_page x) hF hM⟩
theorem tDrop_Page {b : Nat} {m : List Page} (x : Page) (h : Tabs D w S σ S2 σ2) (hb : S2 b = some m) (hl : (m.length : Int) ≤ 100000000) :
    Calls Try.prog 73 #[.pointer (some ⟨b, 0, none⟩), .agg #[.int .u8 x.kk, .int .i64 x.v]] w fun e w' => e = .returned (.bool (has cmpPage m x)) ∧ PageStep D w S σ S2 σ2 b (drop cmpPage m x) w' := by
  refine (drop_Page b _ _ _ m x w (h.pages.at_ b m hb) (h.pages.srt b m hb) hl).mono ?_
  rintro e w' ⟨he, sn', A', c', h1, hF, hM⟩
  exact ⟨he, h.page (st := ⟨sn', A', c'⟩) hb h1 ((h.pages.srt b m hb).drop x) hF hM⟩
theorem Tabs.weaken {D' : Nat → Prop} (h : Tabs D w S σ S2 σ2) (hD : ∀ k, D' k → D k) : Tabs D' w S σ S2 σ2 := ⟨h.syms.weaken hD, h.pages.weaken hD⟩
theorem Sets.off {α : Type} {tSet tE size : Nat} {cells : α → List Value} {cmp : α → α → Int} {S : Nat → Option (List α)} (h : Sets tSet tE size cells cmp D w S σ) {k : Nat} (ho : Off k S σ) (hF : Fr (· = k) w w') : Sets tSet tE size cells cmp D w' S σ :=
  ⟨fun b l hb => (h.at_ b l hb).fr hF (ho b l hb).1 (ho b l hb).2, h.srt, h.out, h.apart, fun k hk => Nat.lt_of_lt_of_le (h.low k hk) hF.size⟩
/-- A block that is no set's is written. -/
theorem Tabs.off {k : Nat} (h : Tabs D w S σ S2 σ2) (ho : Off k S σ) (ho2 : Off k S2 σ2) (hF : Fr (· = k) w w') : Tabs D w' S σ S2 σ2 := ⟨h.syms.off ho hF, h.pages.off ho2 hF⟩
end
end Go.Proofs.Ytlkffnmmphehdaa

namespace Go.Proofs.Ytlkffnmmphehdaa
open Go.RowKit
/-- Behind a map's Put. -/
def MapPut (D : Nat → Prop) (w : World) (S : Nat → Option (List Sym)) (σ : Nat → St) (S2 : Nat → Option (List Page)) (σ2 : Nat → St) (bp : Nat) (m : List Page) (w' : World) : Prop :=
  (∃ σ2', Tabs D w' S σ (upd S2 bp (some m)) σ2' ∧ ∀ k, k < w.heap.size → Off k S2 σ2 → Off k (upd S2 bp (some m)) σ2') ∧ KB w w' ∧ Fr (fun k => ¬ D k) w w'
set_option maxRecDepth 100000 in
set_option maxHeartbeats 4000000 in
theorem mapput_no {D : Nat → Prop} {w : World} {S : Nat → Option (List Sym)} {σ : Nat → St} {S2 : Nat → Option (List Page)} {σ2 : Nat → St} (bm bp : Nat) (m : List Page) (c : UInt8) (v : Int) (hT : Tabs D w S σ S2 σ2) (hb : S2 bp = some m) (hM : Blk w bm 89 #[.pointer (some ⟨bp, 0, none⟩)]) (hl : (m.length : Int) ≤ 1000000) (hh : has cmpPage m ⟨c, 0⟩ = false) :
    Calls Try.prog 68 #[.pointer (some ⟨bm, 0, none⟩), .int .u8 (c.toNat : Int), .int .i64 v] w fun e w' => e = .returned (.bool true) ∧ MapPut D w S σ S2 σ2 bp (mput m ⟨c, v⟩) w' := by
  have hS := hT.pages.at_ bp m hb
  have hs := hT.pages.srt bp m hb
  obtain ⟨sn, hsn⟩ : ∃ sn, sn = (σ2 bp).sn := ⟨_, rfl⟩
  obtain ⟨A, hA⟩ : ∃ A, A = (σ2 bp).A := ⟨_, rfl⟩
  obtain ⟨cc, hcc⟩ : ∃ cc, cc = (σ2 bp).c := ⟨_, rfl⟩
  rw [← hsn, ← hA, ← hcc] at hS
  clear hsn hA hcc
  have s0 := (hM.cell 0).trans rfl
  have hml := hM.lt
  have HS := Lib.hid hS
  have HO := Lib.hid hs
  have HM := Lib.hid hM
  have HH := Lib.hid hh
  have HT := Lib.hid hT
  have HBB := Lib.hid hb
  clear hS hs hM hh hT hb
  go_enter Try.func68, Try.ntmps68
  go_upto_region 3 with (fail)
  go_cut [8] from 11 (fun b wc => b = .bool false ∧ Below w.heap.size w wc)
  case first =>
    refine wp_region_Pl (fun w9 => Below w.heap.size w w9) [0, 1, 2, 3, 4, 7, 8, 9, 12] [3] (.fork [(0, 0), (1, 0), (2, 0), (3, 1), (4, 0)] 5 (.fork [] 6 (.fin [(7, 0), (8, 0), (9, 0), (10, 2), (11, 2), (12, 0)]) 10 (.fin [(6, 2), (7, 0), (8, 0), (9, 0), (11, 2), (12, 0)])) 10 (.fin [(5, 2), (6, 2), (7, 0), (8, 0), (9, 0), (11, 2), (12, 0)])) (by kernel_rfl) (by kernel_rfl) (by kernel_rfl) (fun KK hKK => ?_)
    simp only [wpPl, beside, List.filterMap_cons, List.filterMap_nil, List.getElem?_toArray, List.getElem?_cons_zero, List.getElem?_cons_succ, Option.map_some]
    repeat (first | (refine wpY_w ?_ (Or.inl ⟨by rfl, fun w9 => ?_⟩) ?_; rotate_left 1; go_simp; with_reducible rfl; simp only [Act.put, List.setIfInBounds_toArray, List.set_cons_zero, List.set_cons_succ]) | (refine wpY_l ?_ ((Below.refl _ _).drew) (Or.inl ⟨by rfl, fun w9 hw9 => ?_⟩) ?_; rotate_left 1; obtain ⟨hc9, hf9⟩ := bcell hw9; go_simp; with_reducible rfl; simp only [Act.put, List.setIfInBounds_toArray, List.set_cons_zero, List.set_cons_succ]) | (refine wpY_w undef (Or.inr ⟨by rfl, rfl⟩) ?_; simp only [Act.put, List.setIfInBounds_toArray, List.set_cons_zero, List.set_cons_succ]) | (refine wpY_l undef ((Below.refl _ _).drew) (Or.inr ⟨by rfl, rfl⟩) ?_; simp only [Act.put, List.setIfInBounds_toArray, List.set_cons_zero, List.set_cons_succ]))
    refine wpY_nil ⟨?_, ?_⟩
    · refine wpOp_cs rfl (fun K9 hK9 => ?_)
      go_simp
      refine (at_is c _).mono ?_
      rintro e wa ⟨rfl, hba⟩
      have HBa := Lib.hid (((Below.refl w.heap.size w).drew).trans (hba.mono (by first | omega | simp)))
      clear hba
      have hza := HBa.out.size
      refine hK9 _ _ (fun _ => HBa.out) ?_
      clear hK9 K9
      try simp only [Act.put, List.setIfInBounds_toArray, List.set_cons_zero, List.set_cons_succ]
      try simp only [beside, List.filterMap_nil]
      refine wpY_nil ⟨?_, ?_⟩
      · refine wpOp_cs rfl (fun K9 hK9 => ?_)
        go_simp
        refine (get_no_Page bp cc sn A m ⟨c, 0⟩ _ (HS.out.new_ (HBa.out)) HO.out (by omega) HH.out).mono ?_
        rintro e wg ⟨rfl, hbg⟩
        have HBg := Lib.hid ((HBa.out).trans (hbg.mono (by have := HBa.out.size; first | omega | (simp; done) | (simp; omega))))
        clear hbg
        have hzg := HBg.out.size
        refine hK9 _ _ (fun _ => HBg.out) ?_
        clear hK9 K9
        try simp only [Act.put, List.setIfInBounds_toArray, List.set_cons_zero, List.set_cons_succ]
        try simp only [beside, List.filterMap_nil]
        repeat (first | (refine wpY_w ?_ (Or.inl ⟨by rfl, fun w9 => ?_⟩) ?_; rotate_left 1; go_simp; with_reducible rfl; simp only [Act.put, List.setIfInBounds_toArray, List.set_cons_zero, List.set_cons_succ]) | (refine wpY_l ?_ (HBg.out) (Or.inl ⟨by rfl, fun w9 hw9 => ?_⟩) ?_; rotate_left 1; obtain ⟨hc9, hf9⟩ := bcell hw9; go_simp; with_reducible rfl; simp only [Act.put, List.setIfInBounds_toArray, List.set_cons_zero, List.set_cons_succ]) | (refine wpY_w undef (Or.inr ⟨by rfl, rfl⟩) ?_; simp only [Act.put, List.setIfInBounds_toArray, List.set_cons_zero, List.set_cons_succ]) | (refine wpY_l undef (HBg.out) (Or.inr ⟨by rfl, rfl⟩) ?_; simp only [Act.put, List.setIfInBounds_toArray, List.set_cons_zero, List.set_cons_succ]))
        refine wpY_es (fun K9 hK9 => ?_)
        go_simp
        have hB9 := (HBg.out).alloc (by have := HBg.out.size; first | omega | (simp; done) | (simp; omega)) (.cells #[.int .u8 0, .int .i64 0] 87)
        have HB9 := Lib.hid hB9
        have hk9 : Blk (wg.alloc (.cells #[.int .u8 0, .int .i64 0] 87)) wg.heap.size 87 #[.int .u8 0, .int .i64 0] := Blk.new wg 87 #[.int .u8 0, .int .i64 0]
        have HK9 := Lib.hid hk9
        clear hB9 hk9
        have hz9 := HB9.out.size
        refine hK9 _ _ (HB9.out) ?_
        clear hK9 K9
        try simp only [Act.put, List.setIfInBounds_toArray, List.set_cons_zero, List.set_cons_succ]
        refine wpY_es (fun K9 hK9 => ?_)
        have u0 := ((HK9.out).cell 0).trans rfl
        have u1 := ((HK9.out).cell 1).trans rfl
        have f0 := (HK9.out).frozen 0
        have f1 := (HK9.out).frozen 1
        have hgl := (HK9.out).lt
        go_simp
        refine hK9 _ _ (by (repeat (first | exact Below.refl _ _ | exact HBa.out | exact HBg.out | exact HB9.out | (refine Below.drew ?_) | (refine Below.alloc ?_ (by first | omega | (simp; done) | (simp; omega)) _) | (refine Below.setCell ?_ (by first | omega | (simp; done) | (simp; omega)) _)))) ?_
        clear hK9 K9
        try simp only [Act.put, List.setIfInBounds_toArray, List.set_cons_zero, List.set_cons_succ]
        repeat (first | (refine wpY_w ?_ (Or.inl ⟨by rfl, fun w9 => ?_⟩) ?_; rotate_left 1; go_simp; with_reducible rfl; simp only [Act.put, List.setIfInBounds_toArray, List.set_cons_zero, List.set_cons_succ]) | (refine wpY_l ?_ (by (repeat (first | exact Below.refl _ _ | exact HBa.out | exact HBg.out | exact HB9.out | (refine Below.drew ?_) | (refine Below.alloc ?_ (by first | omega | (simp; done) | (simp; omega)) _) | (refine Below.setCell ?_ (by first | omega | (simp; done) | (simp; omega)) _)))) (Or.inl ⟨by rfl, fun w9 hw9 => ?_⟩) ?_; rotate_left 1; obtain ⟨hc9, hf9⟩ := bcell hw9; go_simp; with_reducible rfl; simp only [Act.put, List.setIfInBounds_toArray, List.set_cons_zero, List.set_cons_succ]) | (refine wpY_w undef (Or.inr ⟨by rfl, rfl⟩) ?_; simp only [Act.put, List.setIfInBounds_toArray, List.set_cons_zero, List.set_cons_succ]) | (refine wpY_l undef (by (repeat (first | exact Below.refl _ _ | exact HBa.out | exact HBg.out | exact HB9.out | (refine Below.drew ?_) | (refine Below.alloc ?_ (by first | omega | (simp; done) | (simp; omega)) _) | (refine Below.setCell ?_ (by first | omega | (simp; done) | (simp; omega)) _)))) (Or.inr ⟨by rfl, rfl⟩) ?_; simp only [Act.put, List.setIfInBounds_toArray, List.set_cons_zero, List.set_cons_succ]))
        refine wpY_nil ?_
        simp only [OnlyN_normal]
        refine hKK _ _ ?_
        clear hKK KK
        go_wp2_with fail
        go_meet
        case rel => exact ⟨rfl, by (repeat (first | exact Below.refl _ _ | exact HBa.out | exact HBg.out | exact HB9.out | (refine Below.drew ?_) | (refine Below.alloc ?_ (by first | omega | (simp; done) | (simp; omega)) _) | (refine Below.setCell ?_ (by first | omega | (simp; done) | (simp; omega)) _)))⟩
      · refine wpOp_cs rfl (fun K9 hK9 => ?_)
        go_simp
        have hB9 := (HBa.out).alloc (by have := HBa.out.size; first | omega | (simp; done) | (simp; omega)) (.cells #[.int .u8 0, .int .i64 0] 87)
        have HB9 := Lib.hid hB9
        have hk9 : Blk (wa.alloc (.cells #[.int .u8 0, .int .i64 0] 87)) wa.heap.size 87 #[.int .u8 0, .int .i64 0] := Blk.new wa 87 #[.int .u8 0, .int .i64 0]
        have HK9 := Lib.hid hk9
        clear hB9 hk9
        have hz9 := HB9.out.size
        refine hK9 _ _ (fun _ => HB9.out) ?_
        clear hK9 K9
        try simp only [Act.put, List.setIfInBounds_toArray, List.set_cons_zero, List.set_cons_succ]
        try simp only [beside, List.filterMap_nil]
        refine wpY_es (fun K9 hK9 => ?_)
        go_simp
        refine (get_no_Page bp cc sn A m ⟨c, 0⟩ _ (HS.out.new_ (HB9.out)) HO.out (by omega) HH.out).mono ?_
        rintro e wg ⟨rfl, hbg⟩
        have hkg := (HK9.out).new_ hbg
        have HKg := Lib.hid hkg
        clear hkg
        have HBg := Lib.hid ((HB9.out).trans (hbg.mono (by have := HB9.out.size; first | omega | (simp at this ⊢; done) | (simp at this ⊢; omega))))
        clear hbg
        have hzg := HBg.out.size
        refine hK9 _ _ (HBg.out) ?_
        clear hK9 K9
        try simp only [Act.put, List.setIfInBounds_toArray, List.set_cons_zero, List.set_cons_succ]
        repeat (first | (refine wpY_w ?_ (Or.inl ⟨by rfl, fun w9 => ?_⟩) ?_; rotate_left 1; go_simp; with_reducible rfl; simp only [Act.put, List.setIfInBounds_toArray, List.set_cons_zero, List.set_cons_succ]) | (refine wpY_l ?_ (HBg.out) (Or.inl ⟨by rfl, fun w9 hw9 => ?_⟩) ?_; rotate_left 1; obtain ⟨hc9, hf9⟩ := bcell hw9; go_simp; with_reducible rfl; simp only [Act.put, List.setIfInBounds_toArray, List.set_cons_zero, List.set_cons_succ]) | (refine wpY_w undef (Or.inr ⟨by rfl, rfl⟩) ?_; simp only [Act.put, List.setIfInBounds_toArray, List.set_cons_zero, List.set_cons_succ]) | (refine wpY_l undef (HBg.out) (Or.inr ⟨by rfl, rfl⟩) ?_; simp only [Act.put, List.setIfInBounds_toArray, List.set_cons_zero, List.set_cons_succ]))
        refine wpY_es (fun K9 hK9 => ?_)
        have u0 := ((HKg.out).cell 0).trans rfl
        have u1 := ((HKg.out).cell 1).trans rfl
        have f0 := (HKg.out).frozen 0
        have f1 := (HKg.out).frozen 1
        have hgl := (HKg.out).lt
        go_simp
        refine hK9 _ _ (by (repeat (first | exact Below.refl _ _ | exact HBa.out | exact HB9.out | exact HBg.out | (refine Below.drew ?_) | (refine Below.alloc ?_ (by first | omega | (simp; done) | (simp; omega)) _) | (refine Below.setCell ?_ (by first | omega | (simp; done) | (simp; omega)) _)))) ?_
        clear hK9 K9
        try simp only [Act.put, List.setIfInBounds_toArray, List.set_cons_zero, List.set_cons_succ]
        repeat (first | (refine wpY_w ?_ (Or.inl ⟨by rfl, fun w9 => ?_⟩) ?_; rotate_left 1; go_simp; with_reducible rfl; simp only [Act.put, List.setIfInBounds_toArray, List.set_cons_zero, List.set_cons_succ]) | (refine wpY_l ?_ (by (repeat (first | exact Below.refl _ _ | exact HBa.out | exact HB9.out | exact HBg.out | (refine Below.drew ?_) | (refine Below.alloc ?_ (by first | omega | (simp; done) | (simp; omega)) _) | (refine Below.setCell ?_ (by first | omega | (simp; done) | (simp; omega)) _)))) (Or.inl ⟨by rfl, fun w9 hw9 => ?_⟩) ?_; rotate_left 1; obtain ⟨hc9, hf9⟩ := bcell hw9; go_simp; with_reducible rfl; simp only [Act.put, List.setIfInBounds_toArray, List.set_cons_zero, List.set_cons_succ]) | (refine wpY_w undef (Or.inr ⟨by rfl, rfl⟩) ?_; simp only [Act.put, List.setIfInBounds_toArray, List.set_cons_zero, List.set_cons_succ]) | (refine wpY_l undef (by (repeat (first | exact Below.refl _ _ | exact HBa.out | exact HB9.out | exact HBg.out | (refine Below.drew ?_) | (refine Below.alloc ?_ (by first | omega | (simp; done) | (simp; omega)) _) | (refine Below.setCell ?_ (by first | omega | (simp; done) | (simp; omega)) _)))) (Or.inr ⟨by rfl, rfl⟩) ?_; simp only [Act.put, List.setIfInBounds_toArray, List.set_cons_zero, List.set_cons_succ]))
        refine wpY_nil ?_
        simp only [OnlyN_normal]
        refine hKK _ _ ?_
        clear hKK KK
        go_wp2_with fail
        go_meet
        case rel => exact ⟨rfl, by (repeat (first | exact Below.refl _ _ | exact HBa.out | exact HB9.out | exact HBg.out | (refine Below.drew ?_) | (refine Below.alloc ?_ (by first | omega | (simp; done) | (simp; omega)) _) | (refine Below.setCell ?_ (by first | omega | (simp; done) | (simp; omega)) _)))⟩
    · refine wpOp_cs rfl (fun K9 hK9 => ?_)
      go_simp
      have hB9 := ((Below.refl w.heap.size w).drew).alloc (by first | omega | simp) (.cells #[.int .u8 0, .int .i64 0] 87)
      have HB9 := Lib.hid hB9
      have hk9 : Blk (w.drew.alloc (.cells #[.int .u8 0, .int .i64 0] 87)) w.heap.size 87 #[.int .u8 0, .int .i64 0] := Blk.new w.drew 87 #[.int .u8 0, .int .i64 0]
      have HK9 := Lib.hid hk9
      clear hB9 hk9
      have hz9 := HB9.out.size
      refine hK9 _ _ (fun _ => HB9.out) ?_
      clear hK9 K9
      try simp only [Act.put, List.setIfInBounds_toArray, List.set_cons_zero, List.set_cons_succ]
      try simp only [beside, List.filterMap_nil]
      refine wpY_es (fun K9 hK9 => ?_)
      go_simp
      refine (at_is c _).mono ?_
      rintro e wa ⟨rfl, hba⟩
      have hka := (HK9.out).new_ hba
      have HKa := Lib.hid hka
      clear hka
      have HBa := Lib.hid ((HB9.out).trans (hba.mono (by have := HB9.out.size; first | omega | (simp at this ⊢; done) | (simp at this ⊢; omega))))
      clear hba
      have hza := HBa.out.size
      refine hK9 _ _ (HBa.out) ?_
      clear hK9 K9
      try simp only [Act.put, List.setIfInBounds_toArray, List.set_cons_zero, List.set_cons_succ]
      refine wpY_es (fun K9 hK9 => ?_)
      go_simp
      refine (get_no_Page bp cc sn A m ⟨c, 0⟩ _ (HS.out.new_ (HBa.out)) HO.out (by omega) HH.out).mono ?_
      rintro e wg ⟨rfl, hbg⟩
      have hkg := (HKa.out).new_ hbg
      have HKg := Lib.hid hkg
      clear hkg
      have HBg := Lib.hid ((HBa.out).trans (hbg.mono (by have := HBa.out.size; first | omega | (simp; done) | (simp; omega))))
      clear hbg
      have hzg := HBg.out.size
      refine hK9 _ _ (HBg.out) ?_
      clear hK9 K9
      try simp only [Act.put, List.setIfInBounds_toArray, List.set_cons_zero, List.set_cons_succ]
      repeat (first | (refine wpY_w ?_ (Or.inl ⟨by rfl, fun w9 => ?_⟩) ?_; rotate_left 1; go_simp; with_reducible rfl; simp only [Act.put, List.setIfInBounds_toArray, List.set_cons_zero, List.set_cons_succ]) | (refine wpY_l ?_ (HBg.out) (Or.inl ⟨by rfl, fun w9 hw9 => ?_⟩) ?_; rotate_left 1; obtain ⟨hc9, hf9⟩ := bcell hw9; go_simp; with_reducible rfl; simp only [Act.put, List.setIfInBounds_toArray, List.set_cons_zero, List.set_cons_succ]) | (refine wpY_w undef (Or.inr ⟨by rfl, rfl⟩) ?_; simp only [Act.put, List.setIfInBounds_toArray, List.set_cons_zero, List.set_cons_succ]) | (refine wpY_l undef (HBg.out) (Or.inr ⟨by rfl, rfl⟩) ?_; simp only [Act.put, List.setIfInBounds_toArray, List.set_cons_zero, List.set_cons_succ]))
      refine wpY_es (fun K9 hK9 => ?_)
      have u0 := ((HKg.out).cell 0).trans rfl
      have u1 := ((HKg.out).cell 1).trans rfl
      have f0 := (HKg.out).frozen 0
      have f1 := (HKg.out).frozen 1
      have hgl := (HKg.out).lt
      go_simp
      refine hK9 _ _ (by (repeat (first | exact Below.refl _ _ | exact HB9.out | exact HBa.out | exact HBg.out | (refine Below.drew ?_) | (refine Below.alloc ?_ (by first | omega | (simp; done) | (simp; omega)) _) | (refine Below.setCell ?_ (by first | omega | (simp; done) | (simp; omega)) _)))) ?_
      clear hK9 K9
      try simp only [Act.put, List.setIfInBounds_toArray, List.set_cons_zero, List.set_cons_succ]
      repeat (first | (refine wpY_w ?_ (Or.inl ⟨by rfl, fun w9 => ?_⟩) ?_; rotate_left 1; go_simp; with_reducible rfl; simp only [Act.put, List.setIfInBounds_toArray, List.set_cons_zero, List.set_cons_succ]) | (refine wpY_l ?_ (by (repeat (first | exact Below.refl _ _ | exact HB9.out | exact HBa.out | exact HBg.out | (refine Below.drew ?_) | (refine Below.alloc ?_ (by first | omega | (simp; done) | (simp; omega)) _) | (refine Below.setCell ?_ (by first | omega | (simp; done) | (simp; omega)) _)))) (Or.inl ⟨by rfl, fun w9 hw9 => ?_⟩) ?_; rotate_left 1; obtain ⟨hc9, hf9⟩ := bcell hw9; go_simp; with_reducible rfl; simp only [Act.put, List.setIfInBounds_toArray, List.set_cons_zero, List.set_cons_succ]) | (refine wpY_w undef (Or.inr ⟨by rfl, rfl⟩) ?_; simp only [Act.put, List.setIfInBounds_toArray, List.set_cons_zero, List.set_cons_succ]) | (refine wpY_l undef (by (repeat (first | exact Below.refl _ _ | exact HB9.out | exact HBa.out | exact HBg.out | (refine Below.drew ?_) | (refine Below.alloc ?_ (by first | omega | (simp; done) | (simp; omega)) _) | (refine Below.setCell ?_ (by first | omega | (simp; done) | (simp; omega)) _)))) (Or.inr ⟨by rfl, rfl⟩) ?_; simp only [Act.put, List.setIfInBounds_toArray, List.set_cons_zero, List.set_cons_succ]))
      refine wpY_nil ?_
      simp only [OnlyN_normal]
      refine hKK _ _ ?_
      clear hKK KK
      go_wp2_with fail
      go_meet
      case rel => exact ⟨rfl, by (repeat (first | exact Below.refl _ _ | exact HB9.out | exact HBa.out | exact HBg.out | (refine Below.drew ?_) | (refine Below.alloc ?_ (by first | omega | (simp; done) | (simp; omega)) _) | (refine Below.setCell ?_ (by first | omega | (simp; done) | (simp; omega)) _)))⟩
  case rest =>
    obtain ⟨rfl, hB⟩ := hcut
    have r0 := ((HM.out.new_ hB).cell 0).trans rfl
    have hT2 := HT.out.below hB
    have HB := Lib.hid hB
    have HT2 := Lib.hid hT2
    clear hB hT2 s0
    go_wp2_with fail
    refine (tPut_Page ⟨c, v⟩ HT2.out HBB.out (by omega)).mono ?_
    rintro e w5 ⟨rfl, hch⟩
    have HP := Lib.hid hch
    clear hch
    go_wp2_with fail
    go_ret
    have hd : drop cmpPage m ⟨c, v⟩ = m := drop_self (by
      have h1 := HH.out
      rw [has_false] at h1 ⊢
      intro y hy e
      exact h1 y hy (cmpPage_eq.2 (cmpPage_eq.1 e)))
    have hf : has cmpPage m ⟨c, v⟩ = false := by
      have h1 := HH.out
      rw [has_false] at h1 ⊢
      intro y hy e
      exact h1 y hy (cmpPage_eq.2 (cmpPage_eq.1 e))
    obtain ⟨⟨σ5, h1, h6⟩, h2, h3, _⟩ := HP.out
    refine ⟨by rw [hf] <;> rfl, ?_, (KB.of_below HB.out).trans h2, (Fr.of_new HB.out).trans h3⟩
    unfold mput
    rw [hd]
    exact ⟨σ5, h1, fun k hk ho => h6 k (Nat.lt_of_lt_of_le hk HB.out.size) ho⟩
end Go.Proofs.Ytlkffnmmphehdaa

namespace Go.Proofs.Ytlkffnmmphehdaa
open Go.RowKit

theorem drop_key {m : List Page} {x y : Page} (h : x.key = y.key) : drop cmpPage m x = drop cmpPage m y := by
  unfold drop
  apply List.filter_congr
  intro z _
  have e : cmpPage z x = cmpPage z y := by unfold cmpPage Page.kk; rw [h]
  rw [e]
set_option maxRecDepth 100000 in
set_option maxHeartbeats 4000000 in
theorem mapput_is {D : Nat → Prop} {w : World} {S : Nat → Option (List Sym)} {σ : Nat → St} {S2 : Nat → Option (List Page)} {σ2 : Nat → St} (bm bp : Nat) (m : List Page) (c : UInt8) (v : Int) (y : Page) (hT : Tabs D w S σ S2 σ2) (hb : S2 bp = some m) (hM : Blk w bm 89 #[.pointer (some ⟨bp, 0, none⟩)]) (hl : (m.length : Int) ≤ 1000000) (hh : has cmpPage m ⟨c, 0⟩ = true) (hy : m[rank cmpPage m ⟨c, 0⟩]? = some y) (hyc : y.key = c) :
    Calls Try.prog 68 #[.pointer (some ⟨bm, 0, none⟩), .int .u8 (c.toNat : Int), .int .i64 v] w fun e w' => e = .returned (.bool false) ∧ MapPut D w S σ S2 σ2 bp (mput m ⟨c, v⟩) w' := by
  have hS := hT.pages.at_ bp m hb
  have hs := hT.pages.srt bp m hb
  have hA0 := hS.row_lt
  have hbp := hS.lt
  obtain ⟨sn, hsn⟩ : ∃ sn, sn = (σ2 bp).sn := ⟨_, rfl⟩
  obtain ⟨A, hA⟩ : ∃ A, A = (σ2 bp).A := ⟨_, rfl⟩
  obtain ⟨cc, hcc⟩ : ∃ cc, cc = (σ2 bp).c := ⟨_, rfl⟩
  rw [← hsn, ← hA, ← hcc] at hS
  clear hsn hA hcc
  have s0 := (hM.cell 0).trans rfl
  have hml := hM.lt
  have HS := Lib.hid hS
  have HO := Lib.hid hs
  have HM := Lib.hid hM
  have HH := Lib.hid hh
  have HT := Lib.hid hT
  have HBB := Lib.hid hb
  have HY := Lib.hid hy
  have HYC := Lib.hid hyc
  have HA0 := Lib.hid hA0
  clear hS hs hM hh hT hb hy hyc hA0
  go_enter Try.func68, Try.ntmps68
  go_upto_region 3 with (fail)
  go_cut [7, 8] from 11 (fun p b wc => b = .bool true ∧ Below w.heap.size w wc ∧ ∃ g, p = .pointer (some ⟨g, 0, none⟩) ∧ w.heap.size ≤ g ∧ g < wc.heap.size ∧ wc.cell? ⟨g, 0, none⟩ = some (.int .u8 y.kk) ∧ wc.cell? ⟨g, 1, none⟩ = some (.int .i64 y.v))
  case first =>
    refine wp_region_Pl (fun w9 => Below w.heap.size w w9) [0, 1, 2, 3, 4, 7, 8, 9, 12] [3] (.fork [(0, 0), (1, 0), (2, 0), (3, 1), (4, 0)] 5 (.fork [] 6 (.fin [(7, 0), (8, 0), (9, 0), (10, 2), (11, 2), (12, 0)]) 10 (.fin [(6, 2), (7, 0), (8, 0), (9, 0), (11, 2), (12, 0)])) 10 (.fin [(5, 2), (6, 2), (7, 0), (8, 0), (9, 0), (11, 2), (12, 0)])) (by kernel_rfl) (by kernel_rfl) (by kernel_rfl) (fun KK hKK => ?_)
    simp only [wpPl, beside, List.filterMap_cons, List.filterMap_nil, List.getElem?_toArray, List.getElem?_cons_zero, List.getElem?_cons_succ, Option.map_some]
    repeat (first | (refine wpY_w ?_ (Or.inl ⟨by rfl, fun w9 => ?_⟩) ?_; rotate_left 1; go_simp; with_reducible rfl; simp only [Act.put, List.setIfInBounds_toArray, List.set_cons_zero, List.set_cons_succ]) | (refine wpY_l ?_ ((Below.refl _ _).drew) (Or.inl ⟨by rfl, fun w9 hw9 => ?_⟩) ?_; rotate_left 1; obtain ⟨hc9, hf9⟩ := bcell hw9; go_simp; with_reducible rfl; simp only [Act.put, List.setIfInBounds_toArray, List.set_cons_zero, List.set_cons_succ]) | (refine wpY_w undef (Or.inr ⟨by rfl, rfl⟩) ?_; simp only [Act.put, List.setIfInBounds_toArray, List.set_cons_zero, List.set_cons_succ]) | (refine wpY_l undef ((Below.refl _ _).drew) (Or.inr ⟨by rfl, rfl⟩) ?_; simp only [Act.put, List.setIfInBounds_toArray, List.set_cons_zero, List.set_cons_succ]))
    refine wpY_nil ⟨?_, ?_⟩
    · refine wpOp_cs rfl (fun K9 hK9 => ?_)
      go_simp
      refine (at_is c _).mono ?_
      rintro e wa ⟨rfl, hba⟩
      have HBa := Lib.hid (((Below.refl w.heap.size w).drew).trans (hba.mono (by first | omega | simp)))
      clear hba
      have hza := HBa.out.size
      refine hK9 _ _ (fun _ => HBa.out) ?_
      clear hK9 K9
      try simp only [Act.put, List.setIfInBounds_toArray, List.set_cons_zero, List.set_cons_succ]
      try simp only [beside, List.filterMap_nil]
      refine wpY_nil ⟨?_, ?_⟩
      · refine wpOp_cs rfl (fun K9 hK9 => ?_)
        go_simp
        refine (get_is_Page bp cc sn A m ⟨c, 0⟩ y _ (HS.out.new_ (HBa.out)) HO.out (by omega) HH.out HY.out).mono ?_
        rintro e wg ⟨rfl, hbg⟩
        have HBg := Lib.hid ((HBa.out).trans (hbg.mono (by have := HBa.out.size; first | omega | (simp; done) | (simp; omega))))
        clear hbg
        have hzg := HBg.out.size
        refine hK9 _ _ (fun _ => HBg.out) ?_
        clear hK9 K9
        try simp only [Act.put, List.setIfInBounds_toArray, List.set_cons_zero, List.set_cons_succ]
        try simp only [beside, List.filterMap_nil]
        repeat (first | (refine wpY_w ?_ (Or.inl ⟨by rfl, fun w9 => ?_⟩) ?_; rotate_left 1; go_simp; with_reducible rfl; simp only [Act.put, List.setIfInBounds_toArray, List.set_cons_zero, List.set_cons_succ]) | (refine wpY_l ?_ (HBg.out) (Or.inl ⟨by rfl, fun w9 hw9 => ?_⟩) ?_; rotate_left 1; obtain ⟨hc9, hf9⟩ := bcell hw9; go_simp; with_reducible rfl; simp only [Act.put, List.setIfInBounds_toArray, List.set_cons_zero, List.set_cons_succ]) | (refine wpY_w undef (Or.inr ⟨by rfl, rfl⟩) ?_; simp only [Act.put, List.setIfInBounds_toArray, List.set_cons_zero, List.set_cons_succ]) | (refine wpY_l undef (HBg.out) (Or.inr ⟨by rfl, rfl⟩) ?_; simp only [Act.put, List.setIfInBounds_toArray, List.set_cons_zero, List.set_cons_succ]))
        refine wpY_es (fun K9 hK9 => ?_)
        go_simp
        have hB9 := (HBg.out).alloc (by have := HBg.out.size; first | omega | (simp; done) | (simp; omega)) (.cells #[.int .u8 0, .int .i64 0] 87)
        have HB9 := Lib.hid hB9
        have hk9 : Blk (wg.alloc (.cells #[.int .u8 0, .int .i64 0] 87)) wg.heap.size 87 #[.int .u8 0, .int .i64 0] := Blk.new wg 87 #[.int .u8 0, .int .i64 0]
        have HK9 := Lib.hid hk9
        clear hB9 hk9
        have hz9 := HB9.out.size
        refine hK9 _ _ (HB9.out) ?_
        clear hK9 K9
        try simp only [Act.put, List.setIfInBounds_toArray, List.set_cons_zero, List.set_cons_succ]
        refine wpY_es (fun K9 hK9 => ?_)
        have u0 := ((HK9.out).cell 0).trans rfl
        have u1 := ((HK9.out).cell 1).trans rfl
        have f0 := (HK9.out).frozen 0
        have f1 := (HK9.out).frozen 1
        have hgl := (HK9.out).lt
        go_simp
        refine hK9 _ _ (by (repeat (first | exact Below.refl _ _ | exact HBa.out | exact HBg.out | exact HB9.out | (refine Below.drew ?_) | (refine Below.alloc ?_ (by first | omega | (simp; done) | (simp; omega)) _) | (refine Below.setCell ?_ (by first | omega | (simp; done) | (simp; omega)) _)))) ?_
        clear hK9 K9
        try simp only [Act.put, List.setIfInBounds_toArray, List.set_cons_zero, List.set_cons_succ]
        repeat (first | (refine wpY_w ?_ (Or.inl ⟨by rfl, fun w9 => ?_⟩) ?_; rotate_left 1; go_simp; with_reducible rfl; simp only [Act.put, List.setIfInBounds_toArray, List.set_cons_zero, List.set_cons_succ]) | (refine wpY_l ?_ (by (repeat (first | exact Below.refl _ _ | exact HBa.out | exact HBg.out | exact HB9.out | (refine Below.drew ?_) | (refine Below.alloc ?_ (by first | omega | (simp; done) | (simp; omega)) _) | (refine Below.setCell ?_ (by first | omega | (simp; done) | (simp; omega)) _)))) (Or.inl ⟨by rfl, fun w9 hw9 => ?_⟩) ?_; rotate_left 1; obtain ⟨hc9, hf9⟩ := bcell hw9; go_simp; with_reducible rfl; simp only [Act.put, List.setIfInBounds_toArray, List.set_cons_zero, List.set_cons_succ]) | (refine wpY_w undef (Or.inr ⟨by rfl, rfl⟩) ?_; simp only [Act.put, List.setIfInBounds_toArray, List.set_cons_zero, List.set_cons_succ]) | (refine wpY_l undef (by (repeat (first | exact Below.refl _ _ | exact HBa.out | exact HBg.out | exact HB9.out | (refine Below.drew ?_) | (refine Below.alloc ?_ (by first | omega | (simp; done) | (simp; omega)) _) | (refine Below.setCell ?_ (by first | omega | (simp; done) | (simp; omega)) _)))) (Or.inr ⟨by rfl, rfl⟩) ?_; simp only [Act.put, List.setIfInBounds_toArray, List.set_cons_zero, List.set_cons_succ]))
        refine wpY_nil ?_
        simp only [OnlyN_normal]
        refine hKK _ _ ?_
        clear hKK KK
        go_wp2_with fail
        go_meet
        case rel => exact ⟨rfl, by (repeat (first | exact Below.refl _ _ | exact HBa.out | exact HBg.out | exact HB9.out | (refine Below.drew ?_) | (refine Below.alloc ?_ (by first | omega | (simp; done) | (simp; omega)) _) | (refine Below.setCell ?_ (by first | omega | (simp; done) | (simp; omega)) _))), _, rfl, by first | exact hzg | exact hza | omega | simp, by first | (simp; done) | (simp; omega), by first | (simp; done) | (go_simp; done) | (go_simp; rfl), by first | (simp; done) | (go_simp; done) | (go_simp; rfl)⟩
      · refine wpOp_cs rfl (fun K9 hK9 => ?_)
        go_simp
        have hB9 := (HBa.out).alloc (by have := HBa.out.size; first | omega | (simp; done) | (simp; omega)) (.cells #[.int .u8 0, .int .i64 0] 87)
        have HB9 := Lib.hid hB9
        have hk9 : Blk (wa.alloc (.cells #[.int .u8 0, .int .i64 0] 87)) wa.heap.size 87 #[.int .u8 0, .int .i64 0] := Blk.new wa 87 #[.int .u8 0, .int .i64 0]
        have HK9 := Lib.hid hk9
        clear hB9 hk9
        have hz9 := HB9.out.size
        refine hK9 _ _ (fun _ => HB9.out) ?_
        clear hK9 K9
        try simp only [Act.put, List.setIfInBounds_toArray, List.set_cons_zero, List.set_cons_succ]
        try simp only [beside, List.filterMap_nil]
        refine wpY_es (fun K9 hK9 => ?_)
        go_simp
        refine (get_is_Page bp cc sn A m ⟨c, 0⟩ y _ (HS.out.new_ (HB9.out)) HO.out (by omega) HH.out HY.out).mono ?_
        rintro e wg ⟨rfl, hbg⟩
        have hkg := (HK9.out).new_ hbg
        have HKg := Lib.hid hkg
        clear hkg
        have HBg := Lib.hid ((HB9.out).trans (hbg.mono (by have := HB9.out.size; first | omega | (simp at this ⊢; done) | (simp at this ⊢; omega))))
        clear hbg
        have hzg := HBg.out.size
        refine hK9 _ _ (HBg.out) ?_
        clear hK9 K9
        try simp only [Act.put, List.setIfInBounds_toArray, List.set_cons_zero, List.set_cons_succ]
        repeat (first | (refine wpY_w ?_ (Or.inl ⟨by rfl, fun w9 => ?_⟩) ?_; rotate_left 1; go_simp; with_reducible rfl; simp only [Act.put, List.setIfInBounds_toArray, List.set_cons_zero, List.set_cons_succ]) | (refine wpY_l ?_ (HBg.out) (Or.inl ⟨by rfl, fun w9 hw9 => ?_⟩) ?_; rotate_left 1; obtain ⟨hc9, hf9⟩ := bcell hw9; go_simp; with_reducible rfl; simp only [Act.put, List.setIfInBounds_toArray, List.set_cons_zero, List.set_cons_succ]) | (refine wpY_w undef (Or.inr ⟨by rfl, rfl⟩) ?_; simp only [Act.put, List.setIfInBounds_toArray, List.set_cons_zero, List.set_cons_succ]) | (refine wpY_l undef (HBg.out) (Or.inr ⟨by rfl, rfl⟩) ?_; simp only [Act.put, List.setIfInBounds_toArray, List.set_cons_zero, List.set_cons_succ]))
        refine wpY_es (fun K9 hK9 => ?_)
        have u0 := ((HKg.out).cell 0).trans rfl
        have u1 := ((HKg.out).cell 1).trans rfl
        have f0 := (HKg.out).frozen 0
        have f1 := (HKg.out).frozen 1
        have hgl := (HKg.out).lt
        go_simp
        refine hK9 _ _ (by (repeat (first | exact Below.refl _ _ | exact HBa.out | exact HB9.out | exact HBg.out | (refine Below.drew ?_) | (refine Below.alloc ?_ (by first | omega | (simp; done) | (simp; omega)) _) | (refine Below.setCell ?_ (by first | omega | (simp; done) | (simp; omega)) _)))) ?_
        clear hK9 K9
        try simp only [Act.put, List.setIfInBounds_toArray, List.set_cons_zero, List.set_cons_succ]
        repeat (first | (refine wpY_w ?_ (Or.inl ⟨by rfl, fun w9 => ?_⟩) ?_; rotate_left 1; go_simp; with_reducible rfl; simp only [Act.put, List.setIfInBounds_toArray, List.set_cons_zero, List.set_cons_succ]) | (refine wpY_l ?_ (by (repeat (first | exact Below.refl _ _ | exact HBa.out | exact HB9.out | exact HBg.out | (refine Below.drew ?_) | (refine Below.alloc ?_ (by first | omega | (simp; done) | (simp; omega)) _) | (refine Below.setCell ?_ (by first | omega | (simp; done) | (simp; omega)) _)))) (Or.inl ⟨by rfl, fun w9 hw9 => ?_⟩) ?_; rotate_left 1; obtain ⟨hc9, hf9⟩ := bcell hw9; go_simp; with_reducible rfl; simp only [Act.put, List.setIfInBounds_toArray, List.set_cons_zero, List.set_cons_succ]) | (refine wpY_w undef (Or.inr ⟨by rfl, rfl⟩) ?_; simp only [Act.put, List.setIfInBounds_toArray, List.set_cons_zero, List.set_cons_succ]) | (refine wpY_l undef (by (repeat (first | exact Below.refl _ _ | exact HBa.out | exact HB9.out | exact HBg.out | (refine Below.drew ?_) | (refine Below.alloc ?_ (by first | omega | (simp; done) | (simp; omega)) _) | (refine Below.setCell ?_ (by first | omega | (simp; done) | (simp; omega)) _)))) (Or.inr ⟨by rfl, rfl⟩) ?_; simp only [Act.put, List.setIfInBounds_toArray, List.set_cons_zero, List.set_cons_succ]))
        refine wpY_nil ?_
        simp only [OnlyN_normal]
        refine hKK _ _ ?_
        clear hKK KK
        go_wp2_with fail
        go_meet
        case rel => exact ⟨rfl, by (repeat (first | exact Below.refl _ _ | exact HBa.out | exact HB9.out | exact HBg.out | (refine Below.drew ?_) | (refine Below.alloc ?_ (by first | omega | (simp; done) | (simp; omega)) _) | (refine Below.setCell ?_ (by first | omega | (simp; done) | (simp; omega)) _))), _, rfl, by first | exact hzg | exact hza | omega | simp, by first | (simp; done) | (simp; omega), by first | (simp; done) | (go_simp; done) | (go_simp; rfl), by first | (simp; done) | (go_simp; done) | (go_simp; rfl)⟩
    · refine wpOp_cs rfl (fun K9 hK9 => ?_)
      go_simp
      have hB9 := ((Below.refl w.heap.size w).drew).alloc (by first | omega | simp) (.cells #[.int .u8 0, .int .i64 0] 87)
      have HB9 := Lib.hid hB9
      have hk9 : Blk (w.drew.alloc (.cells #[.int .u8 0, .int .i64 0] 87)) w.heap.size 87 #[.int .u8 0, .int .i64 0] := Blk.new w.drew 87 #[.int .u8 0, .int .i64 0]
      have HK9 := Lib.hid hk9
      clear hB9 hk9
      have hz9 := HB9.out.size
      refine hK9 _ _ (fun _ => HB9.out) ?_
      clear hK9 K9
      try simp only [Act.put, List.setIfInBounds_toArray, List.set_cons_zero, List.set_cons_succ]
      try simp only [beside, List.filterMap_nil]
      refine wpY_es (fun K9 hK9 => ?_)
      go_simp
      refine (at_is c _).mono ?_
      rintro e wa ⟨rfl, hba⟩
      have hka := (HK9.out).new_ hba
      have HKa := Lib.hid hka
      clear hka
      have HBa := Lib.hid ((HB9.out).trans (hba.mono (by have := HB9.out.size; first | omega | (simp at this ⊢; done) | (simp at this ⊢; omega))))
      clear hba
      have hza := HBa.out.size
      refine hK9 _ _ (HBa.out) ?_
      clear hK9 K9
      try simp only [Act.put, List.setIfInBounds_toArray, List.set_cons_zero, List.set_cons_succ]
      refine wpY_es (fun K9 hK9 => ?_)
      go_simp
      refine (get_is_Page bp cc sn A m ⟨c, 0⟩ y _ (HS.out.new_ (HBa.out)) HO.out (by omega) HH.out HY.out).mono ?_
      rintro e wg ⟨rfl, hbg⟩
      have hkg := (HKa.out).new_ hbg
      have HKg := Lib.hid hkg
      clear hkg
      have HBg := Lib.hid ((HBa.out).trans (hbg.mono (by have := HBa.out.size; first | omega | (simp; done) | (simp; omega))))
      clear hbg
      have hzg := HBg.out.size
      refine hK9 _ _ (HBg.out) ?_
      clear hK9 K9
      try simp only [Act.put, List.setIfInBounds_toArray, List.set_cons_zero, List.set_cons_succ]
      repeat (first | (refine wpY_w ?_ (Or.inl ⟨by rfl, fun w9 => ?_⟩) ?_; rotate_left 1; go_simp; with_reducible rfl; simp only [Act.put, List.setIfInBounds_toArray, List.set_cons_zero, List.set_cons_succ]) | (refine wpY_l ?_ (HBg.out) (Or.inl ⟨by rfl, fun w9 hw9 => ?_⟩) ?_; rotate_left 1; obtain ⟨hc9, hf9⟩ := bcell hw9; go_simp; with_reducible rfl; simp only [Act.put, List.setIfInBounds_toArray, List.set_cons_zero, List.set_cons_succ]) | (refine wpY_w undef (Or.inr ⟨by rfl, rfl⟩) ?_; simp only [Act.put, List.setIfInBounds_toArray, List.set_cons_zero, List.set_cons_succ]) | (refine wpY_l undef (HBg.out) (Or.inr ⟨by rfl, rfl⟩) ?_; simp only [Act.put, List.setIfInBounds_toArray, List.set_cons_zero, List.set_cons_succ]))
      refine wpY_es (fun K9 hK9 => ?_)
      have u0 := ((HKg.out).cell 0).trans rfl
      have u1 := ((HKg.out).cell 1).trans rfl
      have f0 := (HKg.out).frozen 0
      have f1 := (HKg.out).frozen 1
      have hgl := (HKg.out).lt
      go_simp
      refine hK9 _ _ (by (repeat (first | exact Below.refl _ _ | exact HB9.out | exact HBa.out | exact HBg.out | (refine Below.drew ?_) | (refine Below.alloc ?_ (by first | omega | (simp; done) | (simp; omega)) _) | (refine Below.setCell ?_ (by first | omega | (simp; done) | (simp; omega)) _)))) ?_
      clear hK9 K9
      try simp only [Act.put, List.setIfInBounds_toArray, List.set_cons_zero, List.set_cons_succ]
      repeat (first | (refine wpY_w ?_ (Or.inl ⟨by rfl, fun w9 => ?_⟩) ?_; rotate_left 1; go_simp; with_reducible rfl; simp only [Act.put, List.setIfInBounds_toArray, List.set_cons_zero, List.set_cons_succ]) | (refine wpY_l ?_ (by (repeat (first | exact Below.refl _ _ | exact HB9.out | exact HBa.out | exact HBg.out | (refine Below.drew ?_) | (refine Below.alloc ?_ (by first | omega | (simp; done) | (simp; omega)) _) | (refine Below.setCell ?_ (by first | omega | (simp; done) | (simp; omega)) _)))) (Or.inl ⟨by rfl, fun w9 hw9 => ?_⟩) ?_; rotate_left 1; obtain ⟨hc9, hf9⟩ := bcell hw9; go_simp; with_reducible rfl; simp only [Act.put, List.setIfInBounds_toArray, List.set_cons_zero, List.set_cons_succ]) | (refine wpY_w undef (Or.inr ⟨by rfl, rfl⟩) ?_; simp only [Act.put, List.setIfInBounds_toArray, List.set_cons_zero, List.set_cons_succ]) | (refine wpY_l undef (by (repeat (first | exact Below.refl _ _ | exact HB9.out | exact HBa.out | exact HBg.out | (refine Below.drew ?_) | (refine Below.alloc ?_ (by first | omega | (simp; done) | (simp; omega)) _) | (refine Below.setCell ?_ (by first | omega | (simp; done) | (simp; omega)) _)))) (Or.inr ⟨by rfl, rfl⟩) ?_; simp only [Act.put, List.setIfInBounds_toArray, List.set_cons_zero, List.set_cons_succ]))
      refine wpY_nil ?_
      simp only [OnlyN_normal]
      refine hKK _ _ ?_
      clear hKK KK
      go_wp2_with fail
      go_meet
      case rel => exact ⟨rfl, by (repeat (first | exact Below.refl _ _ | exact HB9.out | exact HBa.out | exact HBg.out | (refine Below.drew ?_) | (refine Below.alloc ?_ (by first | omega | (simp; done) | (simp; omega)) _) | (refine Below.setCell ?_ (by first | omega | (simp; done) | (simp; omega)) _))), _, rfl, by first | exact hzg | exact hza | omega | simp, by first | (simp; done) | (simp; omega), by first | (simp; done) | (go_simp; done) | (go_simp; rfl), by first | (simp; done) | (go_simp; done) | (go_simp; rfl)⟩
  case rest =>
    obtain ⟨rfl, hB, g, rfl, hg, hgl, q0, q1⟩ := hcut
    have hMc := HM.out.new_ hB
    have r0 := (hMc.cell 0).trans rfl
    have hml2 := hMc.lt
    have hT2 := HT.out.below hB
    have HMc := Lib.hid hMc
    have HB := Lib.hid hB
    have HT2 := Lib.hid hT2
    clear hB hT2 s0 hMc
    go_wp2_with fail
    refine wp_region_E (fun w9 => Below wc.heap.size wc w9) [(0, 0), (1, 0), (2, 0), (3, 1), (4, 1), (5, 2)] (by kernel_rfl) (by kernel_rfl) (fun KK hKK => ?_)
    simp only [beside, List.filterMap_cons, List.filterMap_nil, List.getElem?_toArray, List.getElem?_cons_zero, List.getElem?_cons_succ, Option.map_some]
    repeat (first | (refine wpX_w ?_ (Or.inl ⟨by rfl, fun w9 => ?_⟩) ?_; rotate_left 1; go_simp; with_reducible rfl; simp only [Act.put, List.setIfInBounds_toArray, List.set_cons_zero, List.set_cons_succ]) | (refine wpX_l ?_ (((Below.refl _ _).drew)) (Or.inl ⟨by rfl, fun w9 hw9 => ?_⟩) ?_; rotate_left 1; obtain ⟨hc9, hf9⟩ := bcell hw9; go_simp; with_reducible rfl; simp only [Act.put, List.setIfInBounds_toArray, List.set_cons_zero, List.set_cons_succ]) | (refine wpX_w undef (Or.inr ⟨by rfl, rfl⟩) ?_; simp only [Act.put, List.setIfInBounds_toArray, List.set_cons_zero, List.set_cons_succ]) | (refine wpX_l undef (((Below.refl _ _).drew)) (Or.inr ⟨by rfl, rfl⟩) ?_; simp only [Act.put, List.setIfInBounds_toArray, List.set_cons_zero, List.set_cons_succ]))
    refine wpX_e (by kernel_rfl) (fun K9 hK9 => ?_)
    go_simp
    refine (tDrop_Page y (HT2.out.below ((Below.refl _ _).drew)) HBB.out (by omega)).mono ?_
    rintro e w5 ⟨rfl, hch⟩
    have HP := Lib.hid hch
    obtain ⟨_, _, _, hM5⟩ := hch
    have hng : ¬ SetMod bp (σ2 bp).sn (σ2 bp).A g := (by
      rintro (h | ⟨_, a, ha, h⟩)
      · omega
      · have := HA0.out a ha; omega)
    have p0 := (hM5.cell (p := ⟨g, 0, none⟩) hgl hng).trans q0
    have p1 := (hM5.cell (p := ⟨g, 1, none⟩) hgl hng).trans q1
    have hMd := HP.out.2.1 bm _ _ (by decide) (by decide) (by decide) (by decide) HMc.out.drew
    have t0 := (hMd.cell 0).trans rfl
    have hl5 := hM5.size
    have hgl5 : g < w5.heap.size := (by have := hl5; simp at this; omega)
    have hml5 : bm < w5.heap.size := hMd.lt
    obtain ⟨σ5, hT5, hO5⟩ := HP.out.1
    have HT5 := Lib.hid hT5
    have HO5 := Lib.hid hO5
    clear hM5 hng q0 q1 r0 hMd hT5 hl5 hO5
    refine hK9 _ _ ?_
    clear hK9 K9
    refine wpX_nil ?_
    simp only [OnlyN_normal]
    refine hKK _ _ ?_
    clear hKK KK
    go_wp2_with fail
    refine wp_region_E (fun w9 => Below w5.heap.size w5 w9) [(0, 0), (1, 0), (2, 0), (3, 1), (4, 0), (5, 1), (6, 0), (7, 0), (8, 2)] (by kernel_rfl) (by kernel_rfl) (fun KK hKK => ?_)
    simp only [beside, List.filterMap_cons, List.filterMap_nil, List.getElem?_toArray, List.getElem?_cons_zero, List.getElem?_cons_succ, Option.map_some]
    repeat (first | (refine wpX_w ?_ (Or.inl ⟨by rfl, fun w9 => ?_⟩) ?_; rotate_left 1; go_simp; with_reducible rfl; simp only [Act.put, List.setIfInBounds_toArray, List.set_cons_zero, List.set_cons_succ]) | (refine wpX_l ?_ (((Below.refl _ _).drew)) (Or.inl ⟨by rfl, fun w9 hw9 => ?_⟩) ?_; rotate_left 1; obtain ⟨hc9, hf9⟩ := bcell hw9; go_simp; with_reducible rfl; simp only [Act.put, List.setIfInBounds_toArray, List.set_cons_zero, List.set_cons_succ]) | (refine wpX_w undef (Or.inr ⟨by rfl, rfl⟩) ?_; simp only [Act.put, List.setIfInBounds_toArray, List.set_cons_zero, List.set_cons_succ]) | (refine wpX_l undef (((Below.refl _ _).drew)) (Or.inr ⟨by rfl, rfl⟩) ?_; simp only [Act.put, List.setIfInBounds_toArray, List.set_cons_zero, List.set_cons_succ]))
    refine wpX_e (by kernel_rfl) (fun K9 hK9 => ?_)
    go_simp
    refine (tPut_Page ⟨y.key, v⟩ (HT5.out.below ((Below.refl _ _).drew)) (upd_same _ _ _) (by have := length_drop_le (cmp := cmpPage) m y; omega)).mono ?_
    rintro e w6 ⟨rfl, hch⟩
    have HP2 := Lib.hid hch
    clear hch
    refine hK9 _ _ ?_
    clear hK9 K9
    refine wpX_nil ?_
    simp only [OnlyN_normal]
    refine hKK _ _ ?_
    clear hKK KK
    go_wp2_with fail
    go_ret
    obtain ⟨⟨σ6, h1, h6⟩, h2, h3, _⟩ := HP2.out
    obtain ⟨_, h4, h5, _⟩ := HP.out
    have hz5 := HB.out.size
    have hz6 := h5.size
    have h7 : ∀ k, k < w.heap.size → Off k S2 σ2 → Off k (upd (upd S2 bp (some (drop cmpPage m y))) bp (some (put cmpPage (drop cmpPage m y) ⟨y.key, v⟩))) σ6 := fun k hk ho => h6 k (by simp at hz6 ⊢; omega) (HO5.out k (by simp; omega) ho)
    refine ⟨rfl, ?_, ((KB.of_below HB.out).trans h4).trans h2, (((Fr.of_new HB.out).trans ((Fr.refl _ wc).drew.trans h5)).trans ((Fr.refl _ w5).drew.trans h3))⟩
    have e1 : drop cmpPage m y = drop cmpPage m ⟨c, v⟩ := drop_key HYC.out
    have e2 : (⟨y.key, v⟩ : Page) = ⟨c, v⟩ := by rw [HYC.out]
    rw [upd_upd, e1, e2] at h1 h7
    exact ⟨σ6, h1, h7⟩
theorem mapput {D : Nat → Prop} {w : World} {S : Nat → Option (List Sym)} {σ : Nat → St} {S2 : Nat → Option (List Page)} {σ2 : Nat → St} (bm bp : Nat) (m : List Page) (c : UInt8) (v : Int) (hT : Tabs D w S σ S2 σ2) (hb : S2 bp = some m) (hM : Blk w bm 89 #[.pointer (some ⟨bp, 0, none⟩)]) (hl : (m.length : Int) ≤ 1000000) :
    Calls Try.prog 68 #[.pointer (some ⟨bm, 0, none⟩), .int .u8 (c.toNat : Int), .int .i64 v] w fun e w' => (∃ r, e = .returned (.bool r)) ∧ MapPut D w S σ S2 σ2 bp (mput m ⟨c, v⟩) w' := by
  cases hh : has cmpPage m ⟨c, 0⟩
  · exact (mapput_no bm bp m c v hT hb hM hl hh).mono fun _ _ ⟨h1, h2⟩ => ⟨⟨_, h1⟩, h2⟩
  · obtain ⟨y, hy, hyc, _⟩ := found_page (hT.pages.srt bp m hb) hh
    exact (mapput_is bm bp m c v y hT hb hM hl hh hy hyc).mono fun _ _ ⟨h1, h2⟩ => ⟨⟨_, h1⟩, h2⟩
end Go.Proofs.Ytlkffnmmphehdaa

namespace Go.Proofs.Ytlkffnmmphehdaa
open Go.RowKit

def smallB (c : UInt8) : Bool := decide (97 ≤ c.toNat) && decide (c.toNat ≤ 122)
def greatB (c : UInt8) : Bool := decide (65 ≤ c.toNat) && decide (c.toNat ≤ 90)
def digitB (c : UInt8) : Bool := decide (48 ≤ c.toNat) && decide (c.toNat ≤ 57)
def partB (c : UInt8) : Bool := smallB c || digitB c || c.toNat == 45 || c.toNat == 95
/-- A word: 1 to 32 bytes, the first a small letter, all of them letters, digits or - or _. -/
def isWord (t : ByteArray) : Bool := decide (1 ≤ t.size) && decide (t.size ≤ 32) && t.data.toList.head?.any smallB && t.data.toList.all partB
theorem isWord_iff {t : ByteArray} : isWord t = true ↔ ∃ h : 0 < t.size, t.size ≤ 32 ∧ smallB t[0] = true ∧ ∀ k, (h : k < t.size) → partB t[k] = true := by
  unfold isWord
  rw [Bool.and_eq_true, Bool.and_eq_true, Bool.and_eq_true, decide_eq_true_iff, decide_eq_true_iff, List.all_eq_true]
  have hs : t.data.toList.length = t.size := Array.length_toList
  constructor
  · rintro ⟨⟨⟨h1, h2⟩, h3⟩, h4⟩
    refine ⟨h1, h2, ?_, fun k h => h4 _ ?_⟩
    · rw [List.head?_eq_getElem?, List.getElem?_eq_getElem (by omega)] at h3
      exact (by simpa only [Option.any_some, Array.getElem_toList] using h3 : smallB t.data[0] = true)
    · have : t[k] = t.data.toList[k]'(by omega) := by rw [Array.getElem_toList]; rfl
      rw [this]; exact List.getElem_mem _
  · rintro ⟨h1, h2, h3, h4⟩
    refine ⟨⟨⟨h1, h2⟩, ?_⟩, fun x hx => ?_⟩
    · rw [List.head?_eq_getElem?, List.getElem?_eq_getElem (by omega)]
      rw [Option.any_some, Array.getElem_toList]
      exact h3
    · obtain ⟨k, hk, rfl⟩ := List.getElem_of_mem hx
      have := h4 k (by omega)
      rw [Array.getElem_toList]
      exact this
theorem isWord_no {t : ByteArray} (h : ¬ ∃ h : 0 < t.size, t.size ≤ 32 ∧ smallB t[0] = true ∧ ∀ k, (h : k < t.size) → partB t[k] = true) : isWord t = false := by
  cases e : isWord t
  · rfl
  · exact absurd (isWord_iff.1 e) h

set_option maxHeartbeats 400000 in
theorem small_is (c : UInt8) (w : World) : Calls Try.prog 43 #[.int .u8 (c.toNat : Int)] w fun e w' => e = .returned (.bool (smallB c)) ∧ w = w' := by
  by_cases h1 : 97 ≤ c.toNat
  · have t1 : decide ((97 : Int) ≤ (c.toNat : Int)) = true := by simp; omega
    by_cases h2 : c.toNat ≤ 122
    · have t2 : decide ((c.toNat : Int) ≤ 122) = true := by simp; omega
      have HF : Hid (smallB c = true) := by simp [Hid, smallB, h1, h2]
      clear h1 h2
      go_enter Try.func43, Try.ntmps43
      go_wp2
      go_ret
      exact ⟨by rw [HF.out]; rfl, rfl⟩
    · have t2 : decide ((c.toNat : Int) ≤ 122) = false := by simp; omega
      have HF : Hid (smallB c = false) := by simp [Hid, smallB, h2]
      clear h1 h2
      go_enter Try.func43, Try.ntmps43
      go_wp2
      go_ret
      exact ⟨by rw [HF.out]; rfl, rfl⟩
  · have t1 : decide ((97 : Int) ≤ (c.toNat : Int)) = false := by simp; omega
    have HF : Hid (smallB c = false) := by simp [Hid, smallB, h1]
    clear h1
    go_enter Try.func43, Try.ntmps43
    go_wp2
    go_ret
    exact ⟨by rw [HF.out]; rfl, rfl⟩

set_option maxHeartbeats 400000 in
theorem great_is (c : UInt8) (w : World) : Calls Try.prog 37 #[.int .u8 (c.toNat : Int)] w fun e w' => e = .returned (.bool (greatB c)) ∧ w = w' := by
  by_cases h1 : 65 ≤ c.toNat
  · have t1 : decide ((65 : Int) ≤ (c.toNat : Int)) = true := by simp; omega
    by_cases h2 : c.toNat ≤ 90
    · have t2 : decide ((c.toNat : Int) ≤ 90) = true := by simp; omega
      have HF : Hid (greatB c = true) := by simp [Hid, greatB, h1, h2]
      clear h1 h2
      go_enter Try.func37, Try.ntmps37
      go_wp2
      go_ret
      exact ⟨by rw [HF.out]; rfl, rfl⟩
    · have t2 : decide ((c.toNat : Int) ≤ 90) = false := by simp; omega
      have HF : Hid (greatB c = false) := by simp [Hid, greatB, h2]
      clear h1 h2
      go_enter Try.func37, Try.ntmps37
      go_wp2
      go_ret
      exact ⟨by rw [HF.out]; rfl, rfl⟩
  · have t1 : decide ((65 : Int) ≤ (c.toNat : Int)) = false := by simp; omega
    have HF : Hid (greatB c = false) := by simp [Hid, greatB, h1]
    clear h1
    go_enter Try.func37, Try.ntmps37
    go_wp2
    go_ret
    exact ⟨by rw [HF.out]; rfl, rfl⟩

set_option maxHeartbeats 400000 in
theorem digit_is (c : UInt8) (w : World) : Calls Try.prog 44 #[.int .u8 (c.toNat : Int)] w fun e w' => e = .returned (.bool (digitB c)) ∧ w = w' := by
  by_cases h1 : 48 ≤ c.toNat
  · have t1 : decide ((48 : Int) ≤ (c.toNat : Int)) = true := by simp; omega
    by_cases h2 : c.toNat ≤ 57
    · have t2 : decide ((c.toNat : Int) ≤ 57) = true := by simp; omega
      have HF : Hid (digitB c = true) := by simp [Hid, digitB, h1, h2]
      clear h1 h2
      go_enter Try.func44, Try.ntmps44
      go_wp2
      go_ret
      exact ⟨by rw [HF.out]; rfl, rfl⟩
    · have t2 : decide ((c.toNat : Int) ≤ 57) = false := by simp; omega
      have HF : Hid (digitB c = false) := by simp [Hid, digitB, h2]
      clear h1 h2
      go_enter Try.func44, Try.ntmps44
      go_wp2
      go_ret
      exact ⟨by rw [HF.out]; rfl, rfl⟩
  · have t1 : decide ((48 : Int) ≤ (c.toNat : Int)) = false := by simp; omega
    have HF : Hid (digitB c = false) := by simp [Hid, digitB, h1]
    clear h1
    go_enter Try.func44, Try.ntmps44
    go_wp2
    go_ret
    exact ⟨by rw [HF.out]; rfl, rfl⟩

set_option maxHeartbeats 1000000 in
theorem part_is (c : UInt8) (w : World) : Calls Try.prog 45 #[.int .u8 (c.toNat : Int)] w fun e w' => e = .returned (.bool (partB c)) ∧ w = w' := by
  have HF : Hid (partB c = (((decide (97 ≤ c.toNat) && decide (c.toNat ≤ 122)) || (decide (48 ≤ c.toNat) && decide (c.toNat ≤ 57))) || decide (c.toNat = 45) || decide (c.toNat = 95))) := rfl
  have t1 : decide ((97 : Int) ≤ (c.toNat : Int)) = decide (97 ≤ c.toNat) := by apply decide_eq_decide.2; omega
  have t2 : decide ((c.toNat : Int) ≤ 122) = decide (c.toNat ≤ 122) := by apply decide_eq_decide.2; omega
  have t3 : decide ((48 : Int) ≤ (c.toNat : Int)) = decide (48 ≤ c.toNat) := by apply decide_eq_decide.2; omega
  have t4 : decide ((c.toNat : Int) ≤ 57) = decide (c.toNat ≤ 57) := by apply decide_eq_decide.2; omega
  have t5 : ((c.toNat : Int) == 45) = decide (c.toNat = 45) := by rw [Bool.eq_iff_iff]; simp; omega
  have t6 : ((c.toNat : Int) == 95) = decide (c.toNat = 95) := by rw [Bool.eq_iff_iff]; simp; omega
  cases h1 : decide (97 ≤ c.toNat) <;> cases h2 : decide (c.toNat ≤ 122) <;> cases h3 : decide (48 ≤ c.toNat) <;> cases h4 : decide (c.toNat ≤ 57) <;> cases h5 : decide (c.toNat = 45) <;> cases h6 : decide (c.toNat = 95)
  all_goals
    rw [h1] at t1; rw [h2] at t2; rw [h3] at t3; rw [h4] at t4; rw [h5] at t5; rw [h6] at t6
    have HF2 := HF.out
    rw [h1, h2, h3, h4, h5, h6] at HF2
    have HF3 := Lib.hid HF2
    clear h1 h2 h3 h4 h5 h6 HF HF2
    go_enter Try.func45, Try.ntmps45
    go_wp2
    go_ret
    exact ⟨by rw [HF3.out]; rfl, rfl⟩

set_option maxRecDepth 100000 in
set_option maxHeartbeats 2000000 in
theorem word_is (t : ByteArray) (w : World) : Calls Try.prog 17 #[.string t] w fun e w' => e = .returned (.bool (isWord t)) ∧ w = w' := by
  by_cases h1 : t.size < 1
  · have t1 : decide ((t.size : Int) < 1) = true := by simp; omega
    have HF := Lib.hid (isWord_no (t := t) (fun ⟨h, _⟩ => by omega))
    clear h1
    go_enter Try.func17, Try.ntmps17
    go_wp2
    go_ret
    exact ⟨by rw [HF.out]; rfl, rfl⟩
  have t1 : decide ((t.size : Int) < 1) = false := by simp; omega
  by_cases h2 : 32 < t.size
  · have t2 : decide ((32 : Int) < (t.size : Int)) = true := by simp; omega
    have HF := Lib.hid (isWord_no (t := t) (fun ⟨h, h3, _⟩ => by omega))
    clear h1 h2
    go_enter Try.func17, Try.ntmps17
    go_wp2
    go_ret
    exact ⟨by rw [HF.out]; rfl, rfl⟩
  have t2 : decide ((32 : Int) < (t.size : Int)) = false := by simp; omega
  have h0 : 0 < t.size := by omega
  have h32 : t.size ≤ 32 := by omega
  clear h1 h2
  cases h3 : smallB t[0]
  · have HF := Lib.hid (isWord_no (t := t) (fun ⟨h, _, h4, _⟩ => by rw [h3] at h4; cases h4))
    go_enter Try.func17, Try.ntmps17
    go_wp2_with (go_at_call 43; refine (small_is _ _).mono ?_; rintro e w' ⟨rfl, rfl⟩)
    go_ret
    exact ⟨by rw [HF.out]; rfl, rfl⟩
  go_enter Try.func17, Try.ntmps17
  go_wp2_with (go_at_call 43; refine (small_is _ _).mono ?_; rintro e w' ⟨rfl, rfl⟩)
  have H3 := Lib.hid h3
  clear h3 t1 t2
  go_loop [3] (fun s => ∃ i : Nat, s = .int .i64 i ∧ 1 ≤ i ∧ i ≤ t.size ∧ ∀ k, (h : k < t.size) → k < i → partB t[k] = true) (fun s => t.size - (intOf s).toNat)
  case atStart => exact ⟨1, rfl, Nat.le_refl _, h0, fun k h hk => by obtain rfl : k = 0 := by omega
                                                                     simp [partB, H3.out]⟩
  case round =>
    obtain ⟨i, rfl, hi1, hi, hall⟩ := hrel
    have HALL := Lib.hid hall
    clear hall
    by_cases hlt : i < t.size
    · have HP : Hid (partB t[i] = (smallB t[i] || digitB t[i] || decide (t[i].toNat = 45) || decide (t[i].toNat = 95))) := rfl
      have t5 : ((t[i].toNat : Int) != 45) = !decide (t[i].toNat = 45) := by rw [Bool.eq_iff_iff]; simp; omega
      have t6 : ((t[i].toNat : Int) != 95) = !decide (t[i].toNat = 95) := by rw [Bool.eq_iff_iff]; simp; omega
      cases hs : smallB t[i] <;> cases hd : digitB t[i] <;> cases h5 : decide (t[i].toNat = 45) <;> cases h6 : decide (t[i].toNat = 95)
      all_goals
        rw [h5] at t5; rw [h6] at t6
        simp only [Bool.not_true, Bool.not_false] at t5 t6
        have HF1 := HP.out
        rw [hs, hd, h5, h6] at HF1
        have HF2 := Lib.hid HF1
        clear h5 h6 HP HF1
        go_wp2_with (first | (go_at_call 43; refine (small_is _ _).mono ?_; rintro e w' ⟨rfl, rfl⟩) | (go_at_call 44; refine (digit_is _ _).mono ?_; rintro e w' ⟨rfl, rfl⟩))
        first
          | (go_ret
             refine ⟨?_, rfl⟩
             rw [isWord_no (t := t) (fun ⟨_, _, _, h⟩ => by have h2 := h i hlt; rw [HF2.out] at h2; exact absurd h2 (by decide))]; rfl)
          | (go_round
             case rel => exact ⟨i + 1, by go_num, by omega, by omega, fun k h hk => by
                 rcases Nat.lt_or_ge k i with h3 | h3
                 · exact HALL.out k h h3
                 · obtain rfl : k = i := by omega
                   rw [HF2.out]; rfl⟩
             case measure => simp [intOf] <;> omega)
    · have hie : i = t.size := by omega
      subst hie
      go_wp2
      go_ret
      exact ⟨by rw [isWord_iff.2 ⟨h0, h32, H3.out, fun k h => HALL.out k h h⟩]; rfl, rfl⟩

set_option maxRecDepth 100000 in
set_option maxHeartbeats 2000000 in
theorem rword_is (t : ByteArray) (w : World) : Calls Try.prog 18 #[.string t] w fun e w' => e = .returned (.bool (isWord t)) ∧ w = w' := by
  by_cases h1 : t.size < 1
  · have t1 : decide ((t.size : Int) < 1) = true := by simp; omega
    have HF := Lib.hid (isWord_no (t := t) (fun ⟨h, _⟩ => by omega))
    clear h1
    go_enter Try.func18, Try.ntmps18
    go_wp2
    go_ret
    exact ⟨by rw [HF.out]; rfl, rfl⟩
  have t1 : decide ((t.size : Int) < 1) = false := by simp; omega
  by_cases h2 : 32 < t.size
  · have t2 : decide ((32 : Int) < (t.size : Int)) = true := by simp; omega
    have HF := Lib.hid (isWord_no (t := t) (fun ⟨h, h3, _⟩ => by omega))
    clear h1 h2
    go_enter Try.func18, Try.ntmps18
    go_wp2
    go_ret
    exact ⟨by rw [HF.out]; rfl, rfl⟩
  have t2 : decide ((32 : Int) < (t.size : Int)) = false := by simp; omega
  have h0 : 0 < t.size := by omega
  have h32 : t.size ≤ 32 := by omega
  clear h1 h2
  by_cases h3 : t[0].toNat < 97
  · have t3 : decide ((t[0].toNat : Int) < 97) = true := by simp; omega
    have HF := Lib.hid (isWord_no (t := t) (fun ⟨h, _, h4, _⟩ => by simp [smallB] at h4; omega))
    clear h3
    go_enter Try.func18, Try.ntmps18
    go_wp2
    go_ret
    exact ⟨by rw [HF.out]; rfl, rfl⟩
  have t3 : decide ((t[0].toNat : Int) < 97) = false := by simp; omega
  by_cases h4 : 122 < t[0].toNat
  · have t4 : decide ((122 : Int) < (t[0].toNat : Int)) = true := by simp; omega
    have HF := Lib.hid (isWord_no (t := t) (fun ⟨h, _, h4, _⟩ => by simp [smallB] at h4; omega))
    clear h3 h4
    go_enter Try.func18, Try.ntmps18
    go_wp2
    go_ret
    exact ⟨by rw [HF.out]; rfl, rfl⟩
  have t4 : decide ((122 : Int) < (t[0].toNat : Int)) = false := by simp; omega
  have h5 : smallB t[0] = true := by simp [smallB]; omega
  have H5 := Lib.hid h5
  clear h3 h4 h5
  go_enter Try.func18, Try.ntmps18
  go_wp2
  clear t1 t2 t3 t4
  go_loop [3] (fun s => ∃ i : Nat, s = .int .i64 i ∧ i ≤ t.size ∧ ∀ k, (h : k < t.size) → k < i → partB t[k] = true) (fun s => t.size - (intOf s).toNat)
  case atStart => exact ⟨0, rfl, Nat.zero_le _, fun k h hk => by omega⟩
  case round =>
    obtain ⟨i, rfl, hi, hall⟩ := hrel
    have HALL := Lib.hid hall
    clear hall
    by_cases hlt : i < t.size
    · cases hp : partB t[i]
      · go_wp2_with (go_at_call 45; refine (part_is _ _).mono ?_; rintro e w' ⟨rfl, rfl⟩)
        go_ret
        refine ⟨?_, rfl⟩
        rw [isWord_no (t := t) (fun ⟨_, _, _, h⟩ => by have h2 := h i hlt; rw [hp] at h2; cases h2)]; rfl
      · have HP := Lib.hid hp
        go_wp2_with (go_at_call 45; refine (part_is _ _).mono ?_; rintro e w' ⟨rfl, rfl⟩)
        go_round
        case rel => exact ⟨i + 1, by go_num, by omega, fun k h hk => by
                 rcases Nat.lt_or_ge k i with h3 | h3
                 · exact HALL.out k h h3
                 · obtain rfl : k = i := by omega
                   exact HP.out⟩
        case measure => simp [intOf] <;> omega
    · have hie : i = t.size := by omega
      subst hie
      go_wp2
      go_ret
      exact ⟨by rw [isWord_iff.2 ⟨h0, h32, H5.out, fun k h => HALL.out k h h⟩]; rfl, rfl⟩
end Go.Proofs.Ytlkffnmmphehdaa

namespace Go.Proofs.Ytlkffnmmphehdaa
open Go.RowKit
/-- One byte. -/
def byte1 (n : Nat) : ByteArray := ⟨#[UInt8.ofNat (48 + n)]⟩
theorem conv1 (n : Nat) (h : n < 10) (W : World) (g : Nat) (hc : W.cell? ⟨g, 0, none⟩ = some (.int .u8 (48 + (n : Int)))) : (convert 58 9 (.slice (some ⟨g, 0, none⟩) 1 1)).run Try.prog W = .ok (.string (byte1 n)) W :=
  Lib.run_convert_whole (P := Try.prog) W 58 5 9 Try.underlying58 Try.underlying5 Try.underlying9 g 0 (byte1 n) (fun i hi => by
    have : i = 0 := by have : (byte1 n).size = 1 := rfl; omega
    subst this
    rw [Nat.add_zero, hc]
    have e : (byte1 n)[0].toNat = 48 + n := by show (UInt8.ofNat (48 + n)).toNat = 48 + n; simp; omega
    rw [e]
    simp) 1
def decB (n : Nat) : ByteArray := if n < 10 then byte1 n else decB (n / 10) ++ byte1 (n % 10)
theorem byte1_size (n : Nat) : (byte1 n).size = 1 := rfl
theorem decB_size (n : Nat) : (decB n).size ≤ n + 1 := by
  induction n using Nat.strongRecOn with
  | _ n ih =>
    rw [decB]
    split
    · rw [byte1_size]; omega
    · have h1 := ih (n / 10) (by omega)
      rw [ByteArray.size_append, byte1_size]; omega
set_option maxRecDepth 100000 in
set_option maxHeartbeats 4000000 in
theorem digits_step (n : Nat) (h : ¬ n < 10) (hn : n ≤ 4000000000) (ih : ∀ w, Calls Try.prog 38 #[.int .i64 ((n / 10 : Nat) : Int)] w fun e w' => e = .returned (.string (decB (n / 10))) ∧ Below w.heap.size w w') (w : World) : Calls Try.prog 38 #[.int .i64 n] w fun e w' => e = .returned (.string (decB n)) ∧ Below w.heap.size w w' := by
  have t1 : decide ((n : Int) < 10) = false := by simp; omega
  have b0 : (0 : Int) ≤ (n : Int) := by omega
  have b1 : (n : Int) ≤ 4000000000 := by omega
  have hc := conv1 (n % 10) (by omega)
  have e1 : ((n : Int) / 10) = ((n / 10 : Nat) : Int) := by omega
  have e2 : ((n : Int) % 10) = ((n % 10 : Nat) : Int) := by omega
  have m0 : (0 : Int) ≤ ((n % 10 : Nat) : Int) := by omega
  have m1 : ((n % 10 : Nat) : Int) ≤ 9 := by omega
  obtain ⟨m, hm⟩ : ∃ m, m = n % 10 := ⟨_, rfl⟩
  obtain ⟨q, hq⟩ : ∃ q, q = n / 10 := ⟨_, rfl⟩
  rw [← hm] at hc e2 m0 m1
  rw [← hq] at e1 ih
  have HD : Hid (decB n = decB q ++ byte1 m) := by rw [decB, if_neg h, hm, hq]; rfl
  have v1 : IntKind.i64.wrap (q : Int) = (q : Int) := IntWalk.i64_in _ (by omega)
  have v2 : ((n : Int)).tmod 10 = (m : Int) := by rw [Int.tmod_eq_emod_of_nonneg b0, e2]
  have v3 : IntKind.i64.wrap (48 + (m : Int)) = 48 + (m : Int) := IntWalk.i64_in _ (by omega)
  have v4 : IntKind.u8.wrap (48 + (m : Int)) = 48 + (m : Int) := by simp [IntKind.wrap, IntKind.signed, IntKind.bits]; omega
  have hz : ¬ 9223372036854775807 < (decB q).size + (byte1 m).size := by have := decB_size q; rw [byte1_size]; omega
  clear e2
  have IH := Lib.hid ih
  have HC := Lib.hid hc
  clear ih h hm hq hc
  go_enter Try.func38, Try.ntmps38
  go_wp2_with fail
  refine wp_region_Pl (fun _ => True) [0, 1, 3, 4, 5, 6, 9, 10] [] (.fork [(0, 0), (1, 0), (3, 0), (4, 0), (5, 0), (6, 0)] 2 (.fin [(7, 2), (8, 2), (9, 0), (10, 0)]) 7 (.fork [] 2 (.fin [(8, 2), (9, 0), (10, 0)]) 8 (.fin [(2, 2), (9, 0), (10, 0)]))) (by kernel_rfl) (by kernel_rfl) (by kernel_rfl) (fun KK hKK => ?_)
  simp only [wpPl, beside, List.filterMap_cons, List.filterMap_nil, List.getElem?_toArray, List.getElem?_cons_zero, List.getElem?_cons_succ, Option.map_some, List.any_nil]
  repeat (refine wpY_w ?_ (Or.inl ⟨by rfl, fun w9 => ?_⟩) ?_; rotate_left 1; go_simp; with_reducible rfl; simp only [Act.put, List.setIfInBounds_toArray, List.set_cons_zero, List.set_cons_succ])
  refine wpY_nil ⟨?_, ?_⟩
  · refine wpOp_c (fun _ => by simp) rfl (fun K9 hK9 => ?_)
    go_simp
    refine (IH.out _).mono ?_
    rintro e w1 ⟨rfl, hb1⟩
    refine hK9 _ _ ?_
    clear hK9 K9
    try simp only [Act.put, List.setIfInBounds_toArray, List.set_cons_zero, List.set_cons_succ]
    refine wpY_e (by rfl) (fun K9 hK9 => ?_)
    go_simp
    refine hK9 _ _ ?_
    clear hK9 K9
    try simp only [Act.put, List.setIfInBounds_toArray, List.set_cons_zero, List.set_cons_succ]
    refine wpY_e (by rfl) (fun K9 hK9 => ?_)
    have hc := HC.out (w1.alloc (.cells #[.int .u8 (48 + (m : Int))] 5)) w1.heap.size ((Blk.new _ _ _).cell 0)
    go_simp
    refine hK9 _ _ ?_
    clear hK9 K9 hc
    try simp only [Act.put, List.setIfInBounds_toArray, List.set_cons_zero, List.set_cons_succ]
    repeat (refine wpY_w ?_ (Or.inl ⟨by rfl, fun w9 => ?_⟩) ?_; rotate_left 1; go_simp; with_reducible rfl; simp only [Act.put, List.setIfInBounds_toArray, List.set_cons_zero, List.set_cons_succ])
    refine wpY_nil ?_
    simp only [OnlyN_normal]
    refine hKK _ _ ?_
    clear hKK KK
    go_wp2_with fail
    go_ret
    exact ⟨by rw [HD.out]; rfl, ((Below.refl _ _).drew.trans (hb1.mono (by simp))).alloc (by have := hb1.size; simpa using this) _⟩
  · refine wpOp_c (fun _ => by simp) rfl (fun K9 hK9 => ?_)
    go_simp
    refine hK9 _ _ ?_
    clear hK9 K9
    try simp only [Act.put, List.setIfInBounds_toArray, List.set_cons_zero, List.set_cons_succ]
    try simp only [beside]
    refine wpY_nil ⟨?_, ?_⟩
    · refine wpOp_c (fun _ => by simp) rfl (fun K9 hK9 => ?_)
      go_simp
      refine (IH.out _).mono ?_
      rintro e w1 ⟨rfl, hb1⟩
      refine hK9 _ _ ?_
      clear hK9 K9
      try simp only [Act.put, List.setIfInBounds_toArray, List.set_cons_zero, List.set_cons_succ]
      refine wpY_e (by rfl) (fun K9 hK9 => ?_)
      have hc := HC.out w1 w.heap.size ((hb1.cell (by simp)).trans ((Blk.new w.drew 5 #[.int .u8 (48 + (m : Int))]).cell 0))
      go_simp
      refine hK9 _ _ ?_
      clear hK9 K9 hc
      try simp only [Act.put, List.setIfInBounds_toArray, List.set_cons_zero, List.set_cons_succ]
      repeat (refine wpY_w ?_ (Or.inl ⟨by rfl, fun w9 => ?_⟩) ?_; rotate_left 1; go_simp; with_reducible rfl; simp only [Act.put, List.setIfInBounds_toArray, List.set_cons_zero, List.set_cons_succ])
      refine wpY_nil ?_
      simp only [OnlyN_normal]
      refine hKK _ _ ?_
      clear hKK KK
      go_wp2_with fail
      go_ret
      exact ⟨by rw [HD.out]; rfl, ((Below.refl _ _).drew.alloc (by simp) _).trans (hb1.mono (by simp))⟩
    · refine wpOp_c (fun _ => by simp) rfl (fun K9 hK9 => ?_)
      have hc := HC.out (w.alloc (.cells #[.int .u8 (48 + (m : Int))] 5)).drew w.heap.size (((Blk.new w 5 #[.int .u8 (48 + (m : Int))]).drew.cell 0).trans rfl)
      go_simp
      refine hK9 _ _ ?_
      clear hK9 K9 hc
      try simp only [Act.put, List.setIfInBounds_toArray, List.set_cons_zero, List.set_cons_succ]
      refine wpY_e (by rfl) (fun K9 hK9 => ?_)
      go_simp
      refine (IH.out _).mono ?_
      rintro e w1 ⟨rfl, hb1⟩
      refine hK9 _ _ ?_
      clear hK9 K9
      try simp only [Act.put, List.setIfInBounds_toArray, List.set_cons_zero, List.set_cons_succ]
      repeat (refine wpY_w ?_ (Or.inl ⟨by rfl, fun w9 => ?_⟩) ?_; rotate_left 1; go_simp; with_reducible rfl; simp only [Act.put, List.setIfInBounds_toArray, List.set_cons_zero, List.set_cons_succ])
      refine wpY_nil ?_
      simp only [OnlyN_normal]
      refine hKK _ _ ?_
      clear hKK KK
      go_wp2_with fail
      go_ret
      exact ⟨by rw [HD.out]; rfl, ((Below.refl _ _).drew.alloc (by simp) _).trans (hb1.mono (by simp))⟩

set_option maxRecDepth 100000 in
set_option maxHeartbeats 1000000 in
theorem digits_base (n : Nat) (h : n < 10) (w : World) : Calls Try.prog 38 #[.int .i64 n] w fun e w' => e = .returned (.string (decB n)) ∧ Below w.heap.size w w' := by
  have t1 : decide ((n : Int) < 10) = true := by simp; omega
  have b0 : (0 : Int) ≤ (n : Int) := by omega
  have b1 : (n : Int) ≤ 9 := by omega
  have hc := conv1 n h (w.alloc (.cells #[.int .u8 (48 + (n : Int))] 5)) w.heap.size ((Blk.new _ _ _).cell 0)
  have HD : Hid (decB n = byte1 n) := by rw [decB, if_pos h]; rfl
  clear h
  go_enter Try.func38, Try.ntmps38
  go_wp2_with fail
  go_ret
  exact ⟨by rw [HD.out]; rfl, (Below.refl _ _).alloc (Nat.le_refl _) _⟩

theorem digits_is (n : Nat) (hn : n ≤ 4000000000) (w : World) : Calls Try.prog 38 #[.int .i64 n] w fun e w' => e = .returned (.string (decB n)) ∧ Below w.heap.size w w' := by
  induction n using Nat.strongRecOn generalizing w with
  | _ n ih =>
    by_cases h : n < 10
    · exact digits_base n h w
    · exact digits_step n h hn (fun w => ih (n / 10) (by omega) (by omega) w) w

set_option maxRecDepth 100000 in
set_option maxHeartbeats 2000000 in
theorem rdigits_is (n : Nat) (hn : n ≤ 4000000000) (w : World) : Calls Try.prog 60 #[.int .i64 n] w fun e w' => e = .returned (.string (decB n)) ∧ Below w.heap.size w w' := by
  have hsz := decB_size n
  go_enter Try.func60, Try.ntmps60
  go_wp2_with fail
  go_loopw [0, 3] (fun a b wr => ∃ (q : Nat) (t : ByteArray), a = .int .i64 q ∧ b = .string t ∧ q ≤ n ∧ decB q ++ t = decB n ∧ Below w.heap.size w wr) (fun a b wr => (intOf a).toNat)
  case atStart => exact ⟨n, ⟨#[]⟩, rfl, rfl, Nat.le_refl _, ByteArray.append_empty, Below.refl _ _⟩
  case round =>
    obtain ⟨q, t, rfl, rfl, hq, he, hB⟩ := hrel
    have hts : t.size ≤ n + 1 := by have := congrArg ByteArray.size he; rw [ByteArray.size_append] at this; omega
    have HB := Lib.hid hB
    clear hB hsz
    by_cases h9 : 9 < q
    · obtain ⟨m, hm⟩ : ∃ m, m = q % 10 := ⟨_, rfl⟩
      obtain ⟨p, hp⟩ : ∃ p, p = q / 10 := ⟨_, rfl⟩
      have hpq : p < q := by omega
      have HE : Hid (decB p ++ (byte1 m ++ t) = decB n) := by
        have e := he
        rw [decB, if_neg (by omega), ← hm, ← hp, ByteArray.append_assoc] at e
        exact e
      have hc := conv1 m (by omega) (wr.alloc (.cells #[.int .u8 (48 + (m : Int))] 5)) wr.heap.size ((Blk.new _ _ _).cell 0)
      have t1 : decide ((9 : Int) < (q : Int)) = true := by simp; omega
      have v2 : ((q : Int)).tmod 10 = (m : Int) := by rw [Int.tmod_eq_emod_of_nonneg (by omega)]; omega
      have v5 : ((q : Int)) % 10 = (m : Int) := by omega
      have v6 : ((q : Int)) / 10 = (p : Int) := by omega
      have v7 : ((q : Int)).tdiv 10 = (p : Int) := by rw [Int.tdiv_eq_ediv_of_nonneg (by omega)]; omega
      have v3 : IntKind.i64.wrap (48 + (m : Int)) = 48 + (m : Int) := IntWalk.i64_in _ (by omega)
      have v4 : IntKind.u8.wrap (48 + (m : Int)) = 48 + (m : Int) := by simp [IntKind.wrap, IntKind.signed, IntKind.bits]; omega
      have hz : ¬ 9223372036854775807 < (byte1 m).size + t.size := by rw [byte1_size]; omega
      have hpn : p ≤ n := by omega
      have HPQ := Lib.hid hpq
      clear he hm hp h9 hpq
      go_wp2_with fail
      go_roundw
      case rel => exact ⟨p, byte1 m ++ t, by first | rfl | go_num, rfl, hpn, HE.out, HB.out.alloc HB.out.size _⟩
      case measure => have := HPQ.out; simp [intOf] <;> omega
    · have t1 : decide ((9 : Int) < (q : Int)) = false := by simp; omega
      have hc := conv1 q (by omega) (wr.alloc (.cells #[.int .u8 (48 + (q : Int))] 5)) wr.heap.size ((Blk.new _ _ _).cell 0)
      have HE : Hid (byte1 q ++ t = decB n) := by
        have e := he
        rw [decB, if_pos (by omega)] at e
        exact e
      have v3 : IntKind.i64.wrap (48 + (q : Int)) = 48 + (q : Int) := IntWalk.i64_in _ (by omega)
      have v4 : IntKind.u8.wrap (48 + (q : Int)) = 48 + (q : Int) := by simp [IntKind.wrap, IntKind.signed, IntKind.bits]; omega
      have hz : ¬ 9223372036854775807 < (byte1 q).size + t.size := by rw [byte1_size]; omega
      clear he h9
      go_wp2_with fail
      go_ret
      exact ⟨by rw [HE.out]; rfl, HB.out.alloc HB.out.size _⟩

/-- A number's text. -/
def numB (n : Int) : ByteArray := if n < 0 then ⟨#[45]⟩ ++ decB (-n).toNat else decB n.toNat
set_option maxRecDepth 100000 in
set_option maxHeartbeats 2000000 in
theorem rnumber_is (n : Int) (h1 : -4000000000 ≤ n) (h2 : n ≤ 4000000000) (w : World) : Calls Try.prog 39 #[.int .i64 n] w fun e w' => e = .returned (.string (numB n)) ∧ Below w.heap.size w w' := by
  by_cases h : n < 0
  · obtain ⟨k, rfl⟩ : ∃ k : Nat, n = -(k : Int) := ⟨(-n).toNat, by omega⟩
    have HN := Lib.hid (show numB (-(k : Int)) = ⟨#[45]⟩ ++ decB k by unfold numB; rw [if_pos h]; simp)
    have t1 : decide (-(k : Int) < 0) = true := by simpa using h
    have v1 : IntKind.i64.wrap (-(-(k : Int))) = (k : Int) := by rw [IntWalk.i64_in _ (by omega)]; omega
    have v2 : IntKind.i64.wrap (k : Int) = (k : Int) := IntWalk.i64_in _ (by omega)
    have hz : ¬ 9223372036854775807 < 1 + (decB k).size := by have := decB_size k; omega
    have hz2 : ¬ 9223372036854775807 < (⟨#[45]⟩ : ByteArray).size + (decB k).size := by have := decB_size k; have e : (⟨#[45]⟩ : ByteArray).size = 1 := rfl; omega
    go_enter Try.func39, Try.ntmps39
    go_wp2_with fail
    refine (rdigits_is k (by omega) _).mono ?_
    rintro e w1 ⟨rfl, hb1⟩
    have HB := Lib.hid hb1
    clear hb1
    go_wp2_with fail
    go_ret
    exact ⟨by rw [HN.out]; rfl, HB.out⟩
  · obtain ⟨k, rfl⟩ : ∃ k : Nat, n = (k : Int) := ⟨n.toNat, by omega⟩
    have HN := Lib.hid (show numB (k : Int) = decB k by unfold numB; rw [if_neg h]; simp)
    have t1 : decide ((k : Int) < 0) = false := by simp
    go_enter Try.func39, Try.ntmps39
    go_wp2_with fail
    refine (rdigits_is k (by omega) _).mono ?_
    rintro e w1 ⟨rfl, hb1⟩
    have HB := Lib.hid hb1
    clear hb1
    go_wp2_with fail
    go_ret
    exact ⟨by rw [HN.out]; rfl, HB.out⟩
end Go.Proofs.Ytlkffnmmphehdaa

namespace Go.Proofs.Ytlkffnmmphehdaa
open Go.RowKit
def headB (f : UInt8 → Bool) (t : ByteArray) : Bool := t.data.toList.head?.any f
theorem headB_eq {f : UInt8 → Bool} {t : ByteArray} (h : 0 < t.size) : headB f t = f t[0] := by
  have hs : t.data.toList.length = t.size := Array.length_toList
  unfold headB
  rw [List.head?_eq_getElem?, List.getElem?_eq_getElem (by omega), Option.any_some, Array.getElem_toList]
  rfl
/-- Is a symbol right? -/
def validB (s : Sym) : Bool :=
  if s.kind = 1 then decide (s.text.size = 1) && headB greatB s.text && decide (1 ≤ s.n) && decide (s.n ≤ 1048576)
  else if s.kind = 2 then decide (s.text.toList = []) && decide (-2147483647 ≤ s.n) && decide (s.n ≤ 2147483647)
  else if s.kind = 3 then decide (s.n = 0) && isWord s.text else false
theorem ret_bool {a b : Bool} (h : a = b) : Ending.returned (.bool a) = .returned (.bool b) := by rw [h]

theorem validB_id {t : ByteArray} {n : Int} (h : validB ⟨1, t, n⟩ = true) : t.size = 1 ∧ headB greatB t = true ∧ 1 ≤ n ∧ n ≤ 1048576 := by
  simp only [validB, if_true, Bool.and_eq_true, decide_eq_true_eq] at h
  exact ⟨h.1.1.1, h.1.1.2, h.1.2, h.2⟩
theorem validB_int {t : ByteArray} {n : Int} (h : validB ⟨2, t, n⟩ = true) : t.toList = [] ∧ -2147483647 ≤ n ∧ n ≤ 2147483647 := by
  simp [validB] at h
  exact ⟨h.1.1, h.1.2, h.2⟩
theorem validB_kind {k n : Int} {t : ByteArray} (h : validB ⟨k, t, n⟩ = true) : k = 1 ∨ k = 2 ∨ k = 3 := by
  unfold validB at h
  dsimp only at h
  split at h
  · exact .inl ‹_›
  · split at h
    · exact .inr (.inl ‹_›)
    · split at h
      · exact .inr (.inr ‹_›)
      · cases h
/-- A right symbol's text. -/
def textB (s : Sym) : ByteArray := if validB s = true then (if s.kind = 1 then s.text ++ numB s.n else if s.kind = 2 then numB s.n else s.text) else ⟨#[]⟩
theorem numB_nat (k : Nat) : numB (k : Int) = decB k := by unfold numB; rw [if_neg (by omega)]; simp
theorem numB_neg (k : Nat) (h : 0 < k) : numB (-(k : Int)) = ⟨#[45]⟩ ++ decB k := by unfold numB; rw [if_pos (by omega)]; simp
theorem textB_no {s : Sym} (h : validB s = false) : textB s = ⟨#[]⟩ := by unfold textB; rw [h]; simp
set_option maxRecDepth 100000 in
set_option maxHeartbeats 4000000 in
theorem valid_is (s : Sym) (w : World) : Calls Try.prog 11 #[.agg #[.int .i64 s.kind, .string s.text, .int .i64 s.n]] w fun e w' => e = .returned (.bool (validB s)) ∧ Below w.heap.size w w' := by
  obtain ⟨k, t, n⟩ := s
  dsimp only
  by_cases k1 : k = 1
  · subst k1
    by_cases a1 : t.size = 1
    · have h0 : 0 < t.size := by omega
      have t1 : ((t.size : Int) == 1) = true := by simp; omega
      have HV := Lib.hid (show validB ⟨1, t, n⟩ = (greatB t[0] && decide (1 ≤ n) && decide (n ≤ 1048576)) by simp [validB, a1, headB_eq h0])
      go_enter Try.func11, Try.ntmps11
      go_wp2_with (go_at_call 37; refine (great_is _ _).mono ?_; rintro e w' ⟨rfl, rfl⟩)
      all_goals
        go_ret
        refine ⟨?_, (Below.refl _ _).alloc (Nat.le_refl _) _⟩
        rw [HV.out]
        first | rfl | (refine ret_bool ?_; simp_all; done) | (refine ret_bool ?_; simp_all; omega) | (refine ret_bool ?_; simp_all [greatB]; done) | (refine ret_bool ?_; simp_all [greatB]; omega)
    · have t1 : ((t.size : Int) == 1) = false := by simp; omega
      have HV := Lib.hid (show validB ⟨1, t, n⟩ = false by simp [validB, a1])
      go_enter Try.func11, Try.ntmps11
      go_wp2_with fail
      all_goals
        go_ret
        refine ⟨?_, (Below.refl _ _).alloc (Nat.le_refl _) _⟩
        rw [HV.out]
        rfl
  · by_cases k2 : k = 2
    · subst k2
      have HV := Lib.hid (show validB ⟨2, t, n⟩ = (decide (t.toList = []) && decide (-2147483647 ≤ n) && decide (n ≤ 2147483647)) by simp [validB])
      clear k1
      go_enter Try.func11, Try.ntmps11
      go_wp2_with fail
      all_goals
        go_ret
        refine ⟨?_, (Below.refl _ _).alloc (Nat.le_refl _) _⟩
        rw [HV.out]
        first | rfl | (refine ret_bool ?_; simp_all; done) | (refine ret_bool ?_; simp_all; omega) | (refine ret_bool ?_; simp_all [greatB]; done) | (refine ret_bool ?_; simp_all [greatB]; omega)
    · by_cases k3 : k = 3
      · subst k3
        have HV := Lib.hid (show validB ⟨3, t, n⟩ = (decide (n = 0) && isWord t) by simp [validB])
        clear k1 k2
        go_enter Try.func11, Try.ntmps11
        go_wp2_with (go_at_call 17; refine (word_is _ _).mono ?_; rintro e w' ⟨rfl, rfl⟩)
        all_goals
          go_ret
          refine ⟨?_, (Below.refl _ _).alloc (Nat.le_refl _) _⟩
          rw [HV.out]
          first | rfl | (refine ret_bool ?_; simp_all; done) | (refine ret_bool ?_; simp_all; omega) | (refine ret_bool ?_; simp_all [greatB]; done) | (refine ret_bool ?_; simp_all [greatB]; omega)
      · have HV := Lib.hid (show validB ⟨k, t, n⟩ = false by simp [validB, k1, k2, k3])
        have t1 : (k == 1) = false := by simp [k1]
        have t2 : (k == 2) = false := by simp [k2]
        have t3 : (k == 3) = false := by simp [k3]
        clear k1 k2 k3
        go_enter Try.func11, Try.ntmps11
        go_wp2_with fail
        all_goals
          go_ret
          refine ⟨?_, (Below.refl _ _).alloc (Nat.le_refl _) _⟩
          rw [HV.out]
          rfl
set_option maxRecDepth 100000 in
set_option maxHeartbeats 4000000 in
theorem rvalid_is (s : Sym) (w : World) : Calls Try.prog 12 #[.agg #[.int .i64 s.kind, .string s.text, .int .i64 s.n]] w fun e w' => e = .returned (.bool (validB s)) ∧ Below w.heap.size w w' := by
  obtain ⟨k, t, n⟩ := s
  dsimp only
  by_cases k1 : k = 1
  · subst k1
    by_cases a1 : t.size = 1
    · have h0 : 0 < t.size := by omega
      have t1 : ((t.size : Int) == 1) = true := by simp; omega
      have HV := Lib.hid (show validB ⟨1, t, n⟩ = (greatB t[0] && decide (1 ≤ n) && decide (n ≤ 1048576)) by simp [validB, a1, headB_eq h0])
      go_enter Try.func12, Try.ntmps12
      go_wp2_with (fail)
      all_goals
        go_ret
        refine ⟨?_, (Below.refl _ _).alloc (Nat.le_refl _) _⟩
        rw [HV.out]
        first | rfl | (refine ret_bool ?_; simp_all; done) | (refine ret_bool ?_; simp_all; omega) | (refine ret_bool ?_; simp_all [greatB]; done) | (refine ret_bool ?_; simp_all [greatB]; omega)
    · have t1 : ((t.size : Int) == 1) = false := by simp; omega
      have HV := Lib.hid (show validB ⟨1, t, n⟩ = false by simp [validB, a1])
      go_enter Try.func12, Try.ntmps12
      go_wp2_with fail
      all_goals
        go_ret
        refine ⟨?_, (Below.refl _ _).alloc (Nat.le_refl _) _⟩
        rw [HV.out]
        rfl
  · by_cases k2 : k = 2
    · subst k2
      have HV := Lib.hid (show validB ⟨2, t, n⟩ = (decide (t.toList = []) && decide (-2147483647 ≤ n) && decide (n ≤ 2147483647)) by simp [validB])
      clear k1
      go_enter Try.func12, Try.ntmps12
      go_wp2_with fail
      all_goals
        go_ret
        refine ⟨?_, (Below.refl _ _).alloc (Nat.le_refl _) _⟩
        rw [HV.out]
        first | rfl | (refine ret_bool ?_; simp_all; done) | (refine ret_bool ?_; simp_all; omega) | (refine ret_bool ?_; simp_all [greatB]; done) | (refine ret_bool ?_; simp_all [greatB]; omega)
    · by_cases k3 : k = 3
      · subst k3
        have HV := Lib.hid (show validB ⟨3, t, n⟩ = (decide (n = 0) && isWord t) by simp [validB])
        clear k1 k2
        go_enter Try.func12, Try.ntmps12
        go_wp2_with (go_at_call 18; refine (rword_is _ _).mono ?_; rintro e w' ⟨rfl, rfl⟩)
        all_goals
          go_ret
          refine ⟨?_, (Below.refl _ _).alloc (Nat.le_refl _) _⟩
          rw [HV.out]
          first | rfl | (refine ret_bool ?_; simp_all; done) | (refine ret_bool ?_; simp_all; omega) | (refine ret_bool ?_; simp_all [greatB]; done) | (refine ret_bool ?_; simp_all [greatB]; omega)
      · have HV := Lib.hid (show validB ⟨k, t, n⟩ = false by simp [validB, k1, k2, k3])
        have t1 : (k == 1) = false := by simp [k1]
        have t2 : (k == 2) = false := by simp [k2]
        have t3 : (k == 3) = false := by simp [k3]
        clear k1 k2 k3
        go_enter Try.func12, Try.ntmps12
        go_wp2_with fail
        all_goals
          go_ret
          refine ⟨?_, (Below.refl _ _).alloc (Nat.le_refl _) _⟩
          rw [HV.out]
          rfl

set_option maxRecDepth 100000 in
set_option maxHeartbeats 4000000 in
theorem text_is (s : Sym) (w : World) : Calls Try.prog 13 #[.agg #[.int .i64 s.kind, .string s.text, .int .i64 s.n]] w fun e w' => e = .returned (.string (textB s)) ∧ Below w.heap.size w w' := by
  cases hv : validB s
  · have HT := Lib.hid (textB_no hv)
    go_enter Try.func13, Try.ntmps13
    go_wp2_with fail
    refine (valid_is s _).mono ?_
    rintro e w1 ⟨rfl, hb1⟩
    have HB := Lib.hid (((Below.refl w.heap.size w).alloc (Nat.le_refl _) _).trans (hb1.mono (by simp)))
    clear hb1
    go_wp2_with fail
    go_ret
    exact ⟨by rw [HT.out] <;> rfl, HB.out⟩
  obtain ⟨k, t, n⟩ := s
  dsimp only
  have HT0 : Hid (textB ⟨k, t, n⟩ = if k = 1 then t ++ numB n else if k = 2 then numB n else t) := Lib.hid (by unfold textB; rw [hv]; rfl)
  rcases validB_kind hv with rfl | rfl | rfl
  · obtain ⟨h1, _, h3, h4⟩ := validB_id hv
    obtain ⟨m, rfl⟩ : ∃ m : Nat, n = (m : Int) := ⟨n.toNat, by omega⟩
    have HT := Lib.hid (show textB ⟨1, t, m⟩ = t ++ decB m by rw [HT0.out, numB_nat]; rfl)
    have hz : ¬ 9223372036854775807 < t.size + (decB m).size := by have := decB_size m; omega
    have hm : m ≤ 4000000000 := by omega
    clear h1 h3 h4 HT0
    go_enter Try.func13, Try.ntmps13
    go_wp2_with fail
    refine (valid_is ⟨1, t, m⟩ _).mono ?_
    rintro e w1 ⟨rfl, hb1⟩
    have hx1 := (Blk.new w 23 #[.int .i64 1, .string t, .int .i64 m]).new_ hb1
    have y0 := (hx1.cell 0).trans rfl
    have y1 := (hx1.cell 1).trans rfl
    have y2 := (hx1.cell 2).trans rfl
    have hxl := hx1.lt
    have HB := Lib.hid (((Below.refl w.heap.size w).alloc (Nat.le_refl _) _).trans (hb1.mono (by simp)))
    clear hb1 hx1
    go_wp2_with fail
    refine wp_region_E (fun w9 => Below w1.heap.size w1 w9) [(0, 0), (1, 1), (2, 0), (3, 1), (4, 2), (5, 0), (6, 0)] (by kernel_rfl) (by kernel_rfl) (fun KK hKK => ?_)
    simp only [beside, List.filterMap_cons, List.filterMap_nil, List.getElem?_toArray, List.getElem?_cons_zero, List.getElem?_cons_succ, Option.map_some]
    repeat (first | (refine wpX_w ?_ (Or.inl ⟨by rfl, fun w9 => ?_⟩) ?_; rotate_left 1; go_simp; with_reducible rfl; simp only [Act.put, List.setIfInBounds_toArray, List.set_cons_zero, List.set_cons_succ]) | (refine wpX_l ?_ (((Below.refl _ _).drew)) (Or.inl ⟨by rfl, fun w9 hw9 => ?_⟩) ?_; rotate_left 1; obtain ⟨hc9, hf9⟩ := bcell hw9; go_simp; with_reducible rfl; simp only [Act.put, List.setIfInBounds_toArray, List.set_cons_zero, List.set_cons_succ]) | (refine wpX_w undef (Or.inr ⟨by rfl, rfl⟩) ?_; simp only [Act.put, List.setIfInBounds_toArray, List.set_cons_zero, List.set_cons_succ]) | (refine wpX_l undef (((Below.refl _ _).drew)) (Or.inr ⟨by rfl, rfl⟩) ?_; simp only [Act.put, List.setIfInBounds_toArray, List.set_cons_zero, List.set_cons_succ]))
    refine wpX_es (fun K9 hK9 => ?_)
    go_simp
    refine (digits_is m hm _).mono ?_
    rintro e w2 ⟨rfl, hb2⟩
    have HB2 := Lib.hid ((Below.refl w1.heap.size w1).drew.trans (hb2.mono (by simp)))
    clear hb2
    refine hK9 _ _ HB2.out ?_
    clear hK9 K9
    repeat (first | (refine wpX_w ?_ (Or.inl ⟨by rfl, fun w9 => ?_⟩) ?_; rotate_left 1; go_simp; with_reducible rfl; simp only [Act.put, List.setIfInBounds_toArray, List.set_cons_zero, List.set_cons_succ]) | (refine wpX_l ?_ (HB2.out) (Or.inl ⟨by rfl, fun w9 hw9 => ?_⟩) ?_; rotate_left 1; obtain ⟨hc9, hf9⟩ := bcell hw9; go_simp; with_reducible rfl; simp only [Act.put, List.setIfInBounds_toArray, List.set_cons_zero, List.set_cons_succ]) | (refine wpX_w undef (Or.inr ⟨by rfl, rfl⟩) ?_; simp only [Act.put, List.setIfInBounds_toArray, List.set_cons_zero, List.set_cons_succ]) | (refine wpX_l undef (HB2.out) (Or.inr ⟨by rfl, rfl⟩) ?_; simp only [Act.put, List.setIfInBounds_toArray, List.set_cons_zero, List.set_cons_succ]))
    refine wpX_nil ?_
    simp only [OnlyN_normal]
    refine hKK _ _ ?_
    clear hKK KK
    go_wp2_with fail
    go_ret
    exact ⟨by rw [HT.out] <;> rfl, HB.out.trans (HB2.out.mono HB.out.size)⟩
  · obtain ⟨h1, h3, h4⟩ := validB_int hv
    by_cases hn : n < 0
    · obtain ⟨m, rfl⟩ : ∃ m : Nat, n = -(m : Int) := ⟨(-n).toNat, by omega⟩
      have HT := Lib.hid (show textB ⟨2, t, -(m : Int)⟩ = ⟨#[45]⟩ ++ decB m by rw [HT0.out, numB_neg m (by omega)]; rfl)
      have hz : ¬ 9223372036854775807 < 1 + (decB m).size := by have := decB_size m; omega
      have hz2 : ¬ 9223372036854775807 < (⟨#[45]⟩ : ByteArray).size + (decB m).size := by have := decB_size m; have e : (⟨#[45]⟩ : ByteArray).size = 1 := rfl; omega
      have hm : m ≤ 4000000000 := by omega
      have v1 : IntKind.i64.wrap (-(-(m : Int))) = (m : Int) := by rw [IntWalk.i64_in _ (by omega)]; omega
      have v2 : IntKind.i64.wrap (m : Int) = (m : Int) := IntWalk.i64_in _ (by omega)
      have t1 : decide (-(m : Int) < 0) = true := by simpa using hn
      clear h1 h3 h4 HT0
      go_enter Try.func13, Try.ntmps13
      go_wp2_with fail
      refine (valid_is ⟨2, t, -(m : Int)⟩ _).mono ?_
      rintro e w1 ⟨rfl, hb1⟩
      have hx1 := (Blk.new w 23 #[.int .i64 2, .string t, .int .i64 (-(m : Int))]).new_ hb1
      have y0 := (hx1.cell 0).trans rfl
      have y1 := (hx1.cell 1).trans rfl
      have y2 := (hx1.cell 2).trans rfl
      have HB := Lib.hid (((Below.refl w.heap.size w).alloc (Nat.le_refl _) _).trans (hb1.mono (by simp)))
      clear hb1 hx1
      go_wp2_with fail
      refine (digits_is m hm _).mono ?_
      rintro e w2 ⟨rfl, hb2⟩
      have HB2 := Lib.hid (HB.out.trans (hb2.mono HB.out.size))
      clear hb2
      go_wp2_with fail
      go_ret
      exact ⟨by rw [HT.out] <;> rfl, HB2.out⟩
    · obtain ⟨m, rfl⟩ : ∃ m : Nat, n = (m : Int) := ⟨n.toNat, by omega⟩
      have HT := Lib.hid (show textB ⟨2, t, m⟩ = decB m by rw [HT0.out, numB_nat]; rfl)
      have hm : m ≤ 4000000000 := by omega
      have t1 : decide ((m : Int) < 0) = false := by simp
      clear h1 h3 h4 HT0 hn
      go_enter Try.func13, Try.ntmps13
      go_wp2_with fail
      refine (valid_is ⟨2, t, m⟩ _).mono ?_
      rintro e w1 ⟨rfl, hb1⟩
      have hx1 := (Blk.new w 23 #[.int .i64 2, .string t, .int .i64 m]).new_ hb1
      have y0 := (hx1.cell 0).trans rfl
      have y1 := (hx1.cell 1).trans rfl
      have y2 := (hx1.cell 2).trans rfl
      have HB := Lib.hid (((Below.refl w.heap.size w).alloc (Nat.le_refl _) _).trans (hb1.mono (by simp)))
      clear hb1 hx1
      go_wp2_with fail
      refine (digits_is m hm _).mono ?_
      rintro e w2 ⟨rfl, hb2⟩
      have HB2 := Lib.hid (HB.out.trans (hb2.mono HB.out.size))
      clear hb2
      go_wp2_with fail
      go_ret
      exact ⟨by rw [HT.out] <;> rfl, HB2.out⟩
  · have HT := Lib.hid (show textB ⟨3, t, n⟩ = t by rw [HT0.out]; rfl)
    clear HT0
    go_enter Try.func13, Try.ntmps13
    go_wp2_with fail
    refine (valid_is ⟨3, t, n⟩ _).mono ?_
    rintro e w1 ⟨rfl, hb1⟩
    have hx1 := (Blk.new w 23 #[.int .i64 3, .string t, .int .i64 n]).new_ hb1
    have y0 := (hx1.cell 0).trans rfl
    have y1 := (hx1.cell 1).trans rfl
    have y2 := (hx1.cell 2).trans rfl
    have HB := Lib.hid (((Below.refl w.heap.size w).alloc (Nat.le_refl _) _).trans (hb1.mono (by simp)))
    clear hb1 hx1
    go_wp2_with fail
    go_ret
    exact ⟨by rw [HT.out] <;> rfl, HB.out⟩

set_option maxRecDepth 100000 in
set_option maxHeartbeats 4000000 in
theorem rtext_is (s : Sym) (w : World) : Calls Try.prog 14 #[.agg #[.int .i64 s.kind, .string s.text, .int .i64 s.n]] w fun e w' => e = .returned (.string (textB s)) ∧ Below w.heap.size w w' := by
  cases hv : validB s
  · have HT := Lib.hid (textB_no hv)
    go_enter Try.func14, Try.ntmps14
    go_wp2_with fail
    refine (rvalid_is s _).mono ?_
    rintro e w1 ⟨rfl, hb1⟩
    have HB := Lib.hid (((Below.refl w.heap.size w).alloc (Nat.le_refl _) _).trans (hb1.mono (by simp)))
    clear hb1
    go_wp2_with fail
    go_ret
    exact ⟨by rw [HT.out] <;> rfl, HB.out⟩
  obtain ⟨k, t, n⟩ := s
  dsimp only
  have HT0 : Hid (textB ⟨k, t, n⟩ = if k = 1 then t ++ numB n else if k = 2 then numB n else t) := Lib.hid (by unfold textB; rw [hv]; rfl)
  rcases validB_kind hv with rfl | rfl | rfl
  · obtain ⟨h1, _, h3, h4⟩ := validB_id hv
    obtain ⟨m, rfl⟩ : ∃ m : Nat, n = (m : Int) := ⟨n.toNat, by omega⟩
    have HT := Lib.hid (show textB ⟨1, t, m⟩ = t ++ numB (m : Int) by rw [HT0.out]; rfl)
    have hz : ¬ 9223372036854775807 < t.size + (numB (m : Int)).size := by rw [numB_nat]; have := decB_size m; omega
    have hm : (m : Int) ≤ 4000000000 := by omega
    clear h1 h3 h4 HT0
    go_enter Try.func14, Try.ntmps14
    go_wp2_with fail
    refine (rvalid_is ⟨1, t, m⟩ _).mono ?_
    rintro e w1 ⟨rfl, hb1⟩
    have hx1 := (Blk.new w 23 #[.int .i64 1, .string t, .int .i64 m]).new_ hb1
    have y0 := (hx1.cell 0).trans rfl
    have y1 := (hx1.cell 1).trans rfl
    have y2 := (hx1.cell 2).trans rfl
    have hxl := hx1.lt
    have HB := Lib.hid (((Below.refl w.heap.size w).alloc (Nat.le_refl _) _).trans (hb1.mono (by simp)))
    clear hb1 hx1
    go_wp2_with fail
    refine wp_region_E (fun w9 => Below w1.heap.size w1 w9) [(0, 0), (1, 1), (2, 0), (3, 1), (4, 2), (5, 0), (6, 0)] (by kernel_rfl) (by kernel_rfl) (fun KK hKK => ?_)
    simp only [beside, List.filterMap_cons, List.filterMap_nil, List.getElem?_toArray, List.getElem?_cons_zero, List.getElem?_cons_succ, Option.map_some]
    repeat (first | (refine wpX_w ?_ (Or.inl ⟨by rfl, fun w9 => ?_⟩) ?_; rotate_left 1; go_simp; with_reducible rfl; simp only [Act.put, List.setIfInBounds_toArray, List.set_cons_zero, List.set_cons_succ]) | (refine wpX_l ?_ (((Below.refl _ _).drew)) (Or.inl ⟨by rfl, fun w9 hw9 => ?_⟩) ?_; rotate_left 1; obtain ⟨hc9, hf9⟩ := bcell hw9; go_simp; with_reducible rfl; simp only [Act.put, List.setIfInBounds_toArray, List.set_cons_zero, List.set_cons_succ]) | (refine wpX_w undef (Or.inr ⟨by rfl, rfl⟩) ?_; simp only [Act.put, List.setIfInBounds_toArray, List.set_cons_zero, List.set_cons_succ]) | (refine wpX_l undef (((Below.refl _ _).drew)) (Or.inr ⟨by rfl, rfl⟩) ?_; simp only [Act.put, List.setIfInBounds_toArray, List.set_cons_zero, List.set_cons_succ]))
    refine wpX_es (fun K9 hK9 => ?_)
    go_simp
    refine (rnumber_is (m : Int) (by omega) hm _).mono ?_
    rintro e w2 ⟨rfl, hb2⟩
    have HB2 := Lib.hid ((Below.refl w1.heap.size w1).drew.trans (hb2.mono (by simp)))
    clear hb2
    refine hK9 _ _ HB2.out ?_
    clear hK9 K9
    repeat (first | (refine wpX_w ?_ (Or.inl ⟨by rfl, fun w9 => ?_⟩) ?_; rotate_left 1; go_simp; with_reducible rfl; simp only [Act.put, List.setIfInBounds_toArray, List.set_cons_zero, List.set_cons_succ]) | (refine wpX_l ?_ (HB2.out) (Or.inl ⟨by rfl, fun w9 hw9 => ?_⟩) ?_; rotate_left 1; obtain ⟨hc9, hf9⟩ := bcell hw9; go_simp; with_reducible rfl; simp only [Act.put, List.setIfInBounds_toArray, List.set_cons_zero, List.set_cons_succ]) | (refine wpX_w undef (Or.inr ⟨by rfl, rfl⟩) ?_; simp only [Act.put, List.setIfInBounds_toArray, List.set_cons_zero, List.set_cons_succ]) | (refine wpX_l undef (HB2.out) (Or.inr ⟨by rfl, rfl⟩) ?_; simp only [Act.put, List.setIfInBounds_toArray, List.set_cons_zero, List.set_cons_succ]))
    refine wpX_nil ?_
    simp only [OnlyN_normal]
    refine hKK _ _ ?_
    clear hKK KK
    go_wp2_with fail
    go_ret
    exact ⟨by rw [HT.out] <;> rfl, HB.out.trans (HB2.out.mono HB.out.size)⟩
  · obtain ⟨h1, h3, h4⟩ := validB_int hv
    have HT := Lib.hid (show textB ⟨2, t, n⟩ = numB n by rw [HT0.out]; rfl)
    have h5 : -4000000000 ≤ n := by omega
    have h6 : n ≤ 4000000000 := by omega
    clear h1 h3 h4 HT0
    go_enter Try.func14, Try.ntmps14
    go_wp2_with fail
    refine (rvalid_is ⟨2, t, n⟩ _).mono ?_
    rintro e w1 ⟨rfl, hb1⟩
    have hx1 := (Blk.new w 23 #[.int .i64 2, .string t, .int .i64 n]).new_ hb1
    have y0 := (hx1.cell 0).trans rfl
    have y1 := (hx1.cell 1).trans rfl
    have y2 := (hx1.cell 2).trans rfl
    have HB := Lib.hid (((Below.refl w.heap.size w).alloc (Nat.le_refl _) _).trans (hb1.mono (by simp)))
    clear hb1 hx1
    go_wp2_with fail
    refine (rnumber_is n h5 h6 _).mono ?_
    rintro e w2 ⟨rfl, hb2⟩
    have HB2 := Lib.hid (HB.out.trans (hb2.mono HB.out.size))
    clear hb2
    go_wp2_with fail
    go_ret
    exact ⟨by rw [HT.out] <;> rfl, HB2.out⟩
  · have HT := Lib.hid (show textB ⟨3, t, n⟩ = t by rw [HT0.out]; rfl)
    clear HT0
    go_enter Try.func14, Try.ntmps14
    go_wp2_with fail
    refine (rvalid_is ⟨3, t, n⟩ _).mono ?_
    rintro e w1 ⟨rfl, hb1⟩
    have hx1 := (Blk.new w 23 #[.int .i64 3, .string t, .int .i64 n]).new_ hb1
    have y0 := (hx1.cell 0).trans rfl
    have y1 := (hx1.cell 1).trans rfl
    have y2 := (hx1.cell 2).trans rfl
    have HB := Lib.hid (((Below.refl w.heap.size w).alloc (Nat.le_refl _) _).trans (hb1.mono (by simp)))
    clear hb1 hx1
    go_wp2_with fail
    go_ret
    exact ⟨by rw [HT.out] <;> rfl, HB.out⟩
end Go.Proofs.Ytlkffnmmphehdaa

namespace Go.Proofs.Ytlkffnmmphehdaa
open Go.RowKit
/-- Where a table lies: its block, its room, its set of symbols, its map, that one's set of pages. -/
structure TB where
  b : Nat
  room : Int
  bs : Nat
  bm : Nat
  bp : Nat
def TabBlk (w : World) (T : TB) : Prop := Blk w T.b 75 #[.int .i64 T.room, .pointer (some ⟨T.bs, 0, none⟩), .pointer (some ⟨T.bm, 0, none⟩)] ∧ Blk w T.bm 89 #[.pointer (some ⟨T.bp, 0, none⟩)]
theorem TabBlk.kb {w w' : World} {T : TB} (h : TabBlk w T) (hk : KB w w') : TabBlk w' T := ⟨hk _ _ _ (by decide) (by decide) (by decide) (by decide) h.1, hk _ _ _ (by decide) (by decide) (by decide) (by decide) h.2⟩
theorem TabBlk.below {w w' : World} {T : TB} (h : TabBlk w T) (hk : Below w.heap.size w w') : TabBlk w' T := ⟨h.1.new_ hk, h.2.new_ hk⟩
section
variable {D : Nat → Prop} {w : World} {S : Nat → Option (List Sym)} {σ : Nat → St} {S2 : Nat → Option (List Page)} {σ2 : Nat → St}
/-- A new map. -/
def MadeMap (D : Nat → Prop) (w : World) (S : Nat → Option (List Sym)) (σ : Nat → St) (S2 : Nat → Option (List Page)) (e : Ending) (w' : World) : Prop :=
  ∃ bm bp, e = .returned (.pointer (some ⟨bm, 0, none⟩)) ∧ Blk w' bm 89 #[.pointer (some ⟨bp, 0, none⟩)] ∧ (∃ σ2', Tabs D w' S σ (upd S2 bp (some [])) σ2') ∧ Below w.heap.size w w' ∧ w.heap.size ≤ bm ∧ w.heap.size ≤ bp
set_option maxHeartbeats 1000000 in
theorem booknew_is (hT : Tabs D w S σ S2 σ2) : Calls Try.prog 49 #[] w (MadeMap D w S σ S2) := by
  have HT := Lib.hid hT
  clear hT
  go_enter Try.func49, Try.ntmps49
  go_wp2_with fail
  refine (sNew_Page none 0 [] HT.out.pages (RowRd.nil _ _ _) (by simp)).mono ?_
  rintro e w1 ⟨⟨k, rfl, hk, _, σ', h1, _⟩, hB⟩
  have HB := Lib.hid hB
  have H1 := Lib.hid (show Tabs D w1 S σ (upd S2 k (some [])) σ' from ⟨HT.out.syms.below hB, h1⟩)
  clear hB h1
  go_wp2_with fail
  go_ret
  have hz := HB.out.size
  exact ⟨w1.heap.size, k, rfl, Blk.new _ _ _, ⟨σ', H1.out.below ((Below.refl _ _).alloc (Nat.le_refl _) _)⟩, HB.out.alloc hz _, hz, hk⟩
/-- A new table. -/
def MadeTab (D : Nat → Prop) (w : World) (S : Nat → Option (List Sym)) (S2 : Nat → Option (List Page)) (room : Int) (e : Ending) (w' : World) : Prop :=
  ∃ T : TB, e = .returned (.tuple #[.pointer (some ⟨T.b, 0, none⟩), .int .i64 0]) ∧ T.room = room ∧ TabBlk w' T ∧ (∃ σ' σ2', Tabs D w' (upd S T.bs (some [])) σ' (upd S2 T.bp (some [])) σ2') ∧ Below w.heap.size w w' ∧ w.heap.size ≤ T.bs ∧ w.heap.size ≤ T.bp
set_option maxHeartbeats 1000000 in
theorem tabnew_is (room : Int) (h1 : 1 ≤ room) (h2 : room ≤ 4096) (hT : Tabs D w S σ S2 σ2) : Calls Try.prog 21 #[.int .i64 room] w (MadeTab D w S S2 room) := by
  have HT := Lib.hid hT
  have t1 : decide (room < 1) = false := by simp; omega
  have t2 : decide ((4096 : Int) < room) = false := by simp; omega
  clear hT h1 h2
  go_enter Try.func21, Try.ntmps21
  go_wp2_with fail
  refine (sNew_Sym none 0 [] HT.out.syms (RowRd.nil _ _ _) (by simp)).mono ?_
  rintro e w1 ⟨⟨k, rfl, hk, _, σ', h1, _⟩, hB⟩
  have HB := Lib.hid hB
  have H1 := Lib.hid (show Tabs D w1 (upd S k (some [])) σ' S2 σ2 from ⟨h1, HT.out.pages.below hB⟩)
  clear hB h1
  go_wp2_with fail
  refine (booknew_is H1.out).mono ?_
  rintro e w2 ⟨bm, bp, rfl, hM, ⟨σ2', h2⟩, hB2, hbm, hbp⟩
  have HM := Lib.hid hM
  have H2 := Lib.hid h2
  have hz1 := HB.out.size
  have hz2 := hB2.size
  have HB2 := Lib.hid (HB.out.trans (hB2.mono hz1))
  clear hM h2 hB2
  go_wp2_with fail
  go_ret2
  have hnew : Below w2.heap.size w2 (w2.alloc (.cells #[.int .i64 room, .pointer (some ⟨k, 0, none⟩), .pointer (some ⟨bm, 0, none⟩)] 75)) := (Below.refl _ _).alloc (Nat.le_refl _) _
  exact ⟨⟨w2.heap.size, room, k, bm, bp⟩, rfl, rfl, ⟨Blk.new _ _ _, HM.out.new_ hnew⟩, ⟨σ', σ2', H2.out.below hnew⟩, HB2.out.alloc (by omega) _, hk, by dsimp only; omega⟩
set_option maxHeartbeats 1000000 in
theorem tabnew_no (room : Int) (h : room < 1 ∨ 4096 < room) (w : World) : Calls Try.prog 21 #[.int .i64 room] w fun e w' => e = .returned (.tuple #[.pointer none, .int .i64 1]) ∧ w = w' := by
  by_cases h1 : room < 1
  · have t1 : decide (room < 1) = true := by simpa using h1
    clear h
    go_enter Try.func21, Try.ntmps21
    go_wp2_with fail
    go_ret2
    exact ⟨rfl, rfl⟩
  · have t1 : decide (room < 1) = false := by simpa using h1
    have t2 : decide ((4096 : Int) < room) = true := by simp; omega
    clear h
    go_enter Try.func21, Try.ntmps21
    go_wp2_with fail
    go_ret2
    exact ⟨rfl, rfl⟩
/-- One above the greatest number of a letter's identifiers. -/
def nextB (m : List Page) (c : UInt8) : Int := if greatB c = true then (mget m c).getD 1 else 0
set_option maxHeartbeats 1000000 in
theorem next_is (T : TB) (m : List Page) (c : UInt8) (hT : Tabs D w S σ S2 σ2) (hB : TabBlk w T) (hb : S2 T.bp = some m) (hl : (m.length : Int) ≤ 1000000) :
    Calls Try.prog 29 #[.pointer (some ⟨T.b, 0, none⟩), .int .u8 (c.toNat : Int)] w fun e w' => e = .returned (.int .i64 (nextB m c)) ∧ Below w.heap.size w w' := by
  have hS := hT.pages.at_ T.bp m hb
  have hs := hT.pages.srt T.bp m hb
  have HS := Lib.hid hS
  have HO := Lib.hid hs
  have HB := Lib.hid hB
  have s2 := (hB.1.cell 2).trans rfl
  clear hT hB hb hS hs
  cases hg : greatB c
  · have HN : Hid (nextB m c = 0) := Lib.hid (by unfold nextB; rw [hg]; rfl)
    go_enter Try.func29, Try.ntmps29
    go_wp2_with (go_at_call 37; refine (great_is _ _).mono ?_; rintro e w' ⟨rfl, rfl⟩)
    go_ret
    exact ⟨by rw [HN.out] <;> rfl, Below.refl _ _⟩
  · cases hh : has cmpPage m ⟨c, 0⟩
    · have HN : Hid (nextB m c = 1) := Lib.hid (by unfold nextB; rw [hg, mget_none hh]; rfl)
      have HH := Lib.hid hh
      clear hh
      go_enter Try.func29, Try.ntmps29
      go_wp2_with (first | (go_at_call 37; refine (great_is _ _).mono ?_; rintro e w' ⟨rfl, rfl⟩) | (go_at_call 56; refine (mapget_no T.bm T.bp _ _ _ m c _ HB.out.2 HS.out HO.out hl HH.out).mono ?_; rintro e w' ⟨rfl, hb1⟩))
      go_ret
      exact ⟨by rw [HN.out] <;> rfl, hb1⟩
    · obtain ⟨y, hy, _, hm⟩ := found_page HO.out hh
      have HN : Hid (nextB m c = y.v) := Lib.hid (by unfold nextB; rw [hg, hm]; rfl)
      have HH := Lib.hid hh
      have HY := Lib.hid hy
      clear hh hy hm
      go_enter Try.func29, Try.ntmps29
      go_wp2_with (first | (go_at_call 37; refine (great_is _ _).mono ?_; rintro e w' ⟨rfl, rfl⟩) | (go_at_call 56; refine (mapget_is T.bm T.bp _ _ _ m c y _ HB.out.2 HS.out HO.out hl HH.out HY.out).mono ?_; rintro e w' ⟨rfl, hb1⟩))
      go_ret
      exact ⟨by rw [HN.out] <;> rfl, hb1⟩
set_option maxHeartbeats 1000000 in
theorem tablen_is (T : TB) (l : List Sym) (hT : Tabs D w S σ S2 σ2) (hB : TabBlk w T) (hb : S T.bs = some l) :
    Calls Try.prog 31 #[.pointer (some ⟨T.b, 0, none⟩)] w fun e w' => e = .returned (.int .i64 l.length) ∧ w = w' := by
  have HS := Lib.hid (hT.syms.at_ T.bs l hb)
  have s1 := (hB.1.cell 1).trans rfl
  clear hT hB hb
  go_enter Try.func31, Try.ntmps31
  go_wp2_with fail
  refine (len_Sym T.bs _ _ _ l _ HS.out).mono ?_
  rintro e w' ⟨rfl, rfl⟩
  go_wp2_with fail
  go_ret
  exact ⟨rfl, rfl⟩
end
end Go.Proofs.Ytlkffnmmphehdaa
