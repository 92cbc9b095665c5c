/-
  Sets of symbols and sets of pages in one memory: a call on one family leaves the other as it was; blocks of other types lie as they lay.
-/
import Derived.Test.YtlkffnmmphehdaaWorkSym
import Derived.Test.YtlkffnmmphehdaaWorkPage
namespace Go.Proofs.Ytlkffnmmphehdaa
open Go.RowKit
/-- Blocks of no set's type lie as they lay. -/
def KB (w w' : World) : Prop := ∀ (g : Nat) (t : TypeId) (cs : Array Value), t ≠ 83 → t ≠ 23 → t ≠ 98 → t ≠ 87 → Blk w g t cs → Blk w' g t cs
theorem KB.refl (w : World) : KB w w := fun _ _ _ _ _ _ _ h => h
theorem KB.trans {a b c : World} (h : KB a b) (k : KB b c) : KB a c := fun g t cs h1 h2 h3 h4 h5 => k g t cs h1 h2 h3 h4 (h g t cs h1 h2 h3 h4 h5)
theorem KB.of_below {w w' : World} (h : Below w.heap.size w w') : KB w w' := fun _ _ _ _ _ _ _ hb => hb.new_ h
theorem blk_far {α : Type} {tSet tE size : Nat} {cells : α → List Value} {w : World} {b : Nat} {sn : Bool} {A : Option Addr} {c : Nat} {l : List α} {g : Nat} {t : TypeId} {cs : Array Value}
    (hS : SetAt tSet tE size cells w b sn A c l) (hB : Blk w g t cs) (h1 : t ≠ tSet) (h2 : t ≠ tE) : ¬ SetMod b sn A g := by
  rintro (rfl | ⟨_, a, ha, rfl⟩)
  · exact hB.ne_ hS.blk h1 rfl
  · have := own_blk_ne hS.row hB (Ne.symm h2)
    subst ha
    exact this (by simp [Value.ownBlock])
theorem KB.of_sym {w w' : World} {b : Nat} {sn : Bool} {A : Option Addr} {c : Nat} {l : List Sym} (hS : SymSet w b sn A c l) (hF : Fr (SetMod b sn A) w w') : KB w w' := fun _ _ _ h1 h2 _ _ hB => hB.fr hF (blk_far hS hB h1 h2)
theorem KB.of_page {w w' : World} {b : Nat} {sn : Bool} {A : Option Addr} {c : Nat} {l : List Page} (hS : PageSet w b sn A c l) (hF : Fr (SetMod b sn A) w w') : KB w w' := fun _ _ _ _ _ h3 h4 hB => hB.fr hF (blk_far hS hB h3 h4)
/-- A set of another family. -/
theorem SetAt.other {α β : Type} {tSet tE size tSet2 tE2 size2 : Nat} {cells : α → List Value} {cells2 : β → List Value} {w w' : World} {b b2 : Nat} {sn sn2 : Bool} {A A2 : Option Addr} {c c2 : Nat} {l : List α} {l2 : List β}
    (h : SetAt tSet tE size cells w b sn A c l) (h2 : SetAt tSet2 tE2 size2 cells2 w b2 sn2 A2 c2 l2) (n1 : tSet2 ≠ tSet) (n2 : tSet2 ≠ tE) (n3 : tE2 ≠ tSet) (n4 : tE2 ≠ tE) (hF : Fr (SetMod b sn A) w w') : SetAt tSet2 tE2 size2 cells2 w' b2 sn2 A2 c2 l2 := by
  refine h2.fr hF (blk_far h h2.blk n1 n2) ?_
  intro a ha
  rcases ownsRow_form h2.row with ⟨hv, _⟩ | ⟨g, cap, hv, _, _, hr, _⟩
  · injection hv with hv; rw [ha] at hv; cases hv
  · injection hv with hv
    rw [ha] at hv
    injection hv with hv
    subst hv
    obtain ⟨cur, hcur, _⟩ := hr
    exact blk_far h (show Blk w g tE2 cur from hcur) n3 n4
theorem Sets.other {α β : Type} {tSet tE size tSet2 tE2 size2 : Nat} {cells : α → List Value} {cells2 : β → List Value} {cmp2 : β → β → Int} {D : Nat → Prop} {w w' : World} {b : Nat} {sn : Bool} {A : Option Addr} {c : Nat} {l : List α} {S2 : Nat → Option (List β)} {σ2 : Nat → St}
    (H2 : Sets tSet2 tE2 size2 cells2 cmp2 D w S2 σ2) (h : SetAt tSet tE size cells w b sn A c l) (n1 : tSet2 ≠ tSet) (n2 : tSet2 ≠ tE) (n3 : tE2 ≠ tSet) (n4 : tE2 ≠ tE) (hF : Fr (SetMod b sn A) w w') : Sets tSet2 tE2 size2 cells2 cmp2 D w' S2 σ2 :=
  ⟨fun b' l' hb => h.other (H2.at_ b' l' hb) n1 n2 n3 n4 hF, H2.srt, H2.out, H2.apart, fun k hk => Nat.lt_of_lt_of_le (H2.low k hk) hF.size⟩
/-- Both families. -/
structure Tabs (D : Nat → Prop) (w : World) (S : Nat → Option (List Sym)) (σ : Nat → St) (S2 : Nat → Option (List Page)) (σ2 : Nat → St) : Prop where
  syms : SymSets D w S σ
  pages : PageSets D w S2 σ2
section
variable {D : Nat → Prop} {w w' : World} {S : Nat → Option (List Sym)} {σ : Nat → St} {S2 : Nat → Option (List Page)} {σ2 : Nat → St}
theorem Tabs.below (h : Tabs D w S σ S2 σ2) (hb : Below w.heap.size w w') : Tabs D w' S σ S2 σ2 := ⟨h.syms.below hb, h.pages.below hb⟩
theorem Tabs.protect (h : Tabs D w S σ S2 σ2) (hb : Below w.heap.size w w') : Tabs (fun k => D k ∨ (w.heap.size ≤ k ∧ k < w'.heap.size)) w' S σ S2 σ2 := ⟨h.syms.protect hb, h.pages.protect hb⟩
theorem Tabs.start (w : World) : Tabs (· < w.heap.size) w (fun _ => none) (fun _ => ⟨false, none, 0⟩) (fun _ => none) (fun _ => ⟨false, none, 0⟩) := ⟨Sets.start _ _ _ _ _ w, Sets.start _ _ _ _ _ w⟩
/-- Block k is no set's. -/
def Off {α : Type} (k : Nat) (S : Nat → Option (List α)) (σ : Nat → St) : Prop := ∀ b l, S b = some l → b ≠ k ∧ AIn (σ b).A (· ≠ k)
theorem Off.new_ {α : Type} {tSet tE size : Nat} {cells : α → List Value} {cmp : α → α → Int} {S : Nat → Option (List α)} (h : Sets tSet tE size cells cmp D w S σ) {k : Nat} (hk : w.heap.size ≤ k) : Off k S σ :=
  fun b l hb => ⟨by have := h.lt hb; omega, fun a ha => by have := (h.at_ b l hb).row_lt a ha; omega⟩
theorem Off.moved {α : Type} {S : Nat → Option (List α)} {k b : Nat} {l l' : List α} {st : St} (h : Off k S σ) (hb : S b = some l) (hM : Moved w (σ b).sn (σ b).A st.sn st.A) (hk : k < w.heap.size) : Off k (upd S b (some l')) (upd σ b st) := by
  intro b' m hm
  by_cases e : b' = b
  · subst e
    refine ⟨(h b' l hb).1, ?_⟩
    rw [upd_same]
    rcases hM with ⟨_, hA⟩ | ⟨_, g, hg, hA⟩
    · rw [hA]; exact (h b' l hb).2
    · rw [hA]; intro a ha; cases ha; dsimp only; omega
  · rw [upd_ne _ _ e] at hm ⊢
    exact h b' m hm
/-- A set of symbols changed: what stands behind it. -/
def SymStep (D : Nat → Prop) (w : World) (S : Nat → Option (List Sym)) (σ : Nat → St) (S2 : Nat → Option (List Page)) (σ2 : Nat → St) (b : Nat) (l : List Sym) (w' : World) : Prop :=
  (∃ σ', Tabs D w' (upd S b (some l)) σ' S2 σ2 ∧ ∀ k, k < w.heap.size → Off k S σ → Off k (upd S b (some l)) σ') ∧ KB w w' ∧ Fr (fun k => ¬ D k) w w' ∧ Fr (SetMod b (σ b).sn (σ b).A) w w'
def PageStep (D : Nat → Prop) (w : World) (S : Nat → Option (List Sym)) (σ : Nat → St) (S2 : Nat → Option (List Page)) (σ2 : Nat → St) (b : Nat) (m : List Page) (w' : World) : Prop :=
  (∃ σ2', Tabs D w' S σ (upd S2 b (some m)) σ2' ∧ ∀ k, k < w.heap.size → Off k S2 σ2 → Off k (upd S2 b (some m)) σ2') ∧ KB w w' ∧ Fr (fun k => ¬ D k) w w' ∧ Fr (SetMod b (σ2 b).sn (σ2 b).A) w w'
theorem Tabs.sym {b : Nat} {l l' : List Sym} {st : St} (h : Tabs D w S σ S2 σ2) (hb : S b = some l) (h1 : SymSet w' b st.sn st.A st.c l') (hs : Srt cmpSym l') (hF : Fr (SetMod b (σ b).sn (σ b).A) w w') (hM : Moved w (σ b).sn (σ b).A st.sn st.A) : SymStep D w S σ S2 σ2 b l' w' :=
  ⟨⟨upd σ b st, ⟨h.syms.moved (by decide) hb h1 hs hF hM, h.pages.other (h.syms.at_ b l hb) (by decide) (by decide) (by decide) (by decide) hF⟩, fun _ hk ho => ho.moved hb hM hk⟩, KB.of_sym (h.syms.at_ b l hb) hF, h.syms.mod hb hF, hF⟩
theorem Tabs.page {b : Nat} {m m' : List Page} {st : St} (h : Tabs D w S σ S2 σ2) (hb : S2 b = some m) (h1 : PageSet w' b st.sn st.A st.c m') (hs : Srt cmpPage m') (hF : Fr (SetMod b (σ2 b).sn (σ2 b).A) w w') (hM : Moved w (σ2 b).sn (σ2 b).A st.sn st.A) : PageStep D w S σ S2 σ2 b m' w' :=
  ⟨⟨upd σ2 b st, ⟨h.syms.other (h.pages.at_ b m hb) (by decide) (by decide) (by decide) (by decide) hF, h.pages.moved (by decide) hb h1 hs hF hM⟩, fun _ hk ho => ho.moved hb hM hk⟩, KB.of_page (h.pages.at_ b m hb) hF, h.pages.mod hb hF, hF⟩
theorem tPut_Sym {b : Nat} {l : List Sym} (x : Sym) (h : Tabs D w S σ S2 σ2) (hb : S b = some l) (hl : (l.length : Int) ≤ 100000000) :
    Calls Try.prog 50 #[.pointer (some ⟨b, 0, none⟩), .agg #[.int .i64 x.kind, .string x.text, .int .i64 x.n]] w fun e w' => e = .returned (.bool (!has cmpSym l x)) ∧ SymStep D w S σ S2 σ2 b (put cmpSym l x) w' := by
  refine (put_Sym b _ _ _ l x w (h.syms.at_ b l hb) (h.syms.srt b l hb) hl).mono ?_
  rintro e w' ⟨he, sn', A', c', h1, hF, hM⟩
  exact ⟨he, h.sym (st := ⟨sn', A', c'⟩) hb h1 ((h.syms.srt b l hb).put tc_sym x) hF hM⟩
theorem tPut_Page {b : Nat} {m : List Page} (x : Page) (h : Tabs D w S σ S2 σ2) (hb : S2 b = some m) (hl : (m.length : Int) ≤ 100000000) :
    Calls Try.prog 72 #[.pointer (some ⟨b, 0, none⟩), .agg #[.int .u8 x.kk, .int .i64 x.v]] w fun e w' => e = .returned (.bool (!has cmpPage m x)) ∧ PageStep D w S σ S2 σ2 b (put cmpPage m x) w' := by
  refine (put_Page b _ _ _ m x w (h.pages.at_ b m hb) (h.pages.srt b m hb) hl).mono ?_
  rintro e w' ⟨he, sn', A', c', h1, hF, hM⟩
  exact ⟨he, h.page (st := ⟨sn', A', c'⟩) hb h1 ((h.pages.srt b m hb).put tc_page x) hF hM⟩
theorem tDrop_Page {b : Nat} {m : List Page} (x : Page) (h : Tabs D w S σ S2 σ2) (hb : S2 b = some m) (hl : (m.length : Int) ≤ 100000000) :
    Calls Try.prog 73 #[.pointer (some ⟨b, 0, none⟩), .agg #[.int .u8 x.kk, .int .i64 x.v]] w fun e w' => e = .returned (.bool (has cmpPage m x)) ∧ PageStep D w S σ S2 σ2 b (drop cmpPage m x) w' := by
  refine (drop_Page b _ _ _ m x w (h.pages.at_ b m hb) (h.pages.srt b m hb) hl).mono ?_
  rintro e w' ⟨he, sn', A', c', h1, hF, hM⟩
  exact ⟨he, h.page (st := ⟨sn', A', c'⟩) hb h1 ((h.pages.srt b m hb).drop x) hF hM⟩
theorem Tabs.weaken {D' : Nat → Prop} (h : Tabs D w S σ S2 σ2) (hD : ∀ k, D' k → D k) : Tabs D' w S σ S2 σ2 := ⟨h.syms.weaken hD, h.pages.weaken hD⟩
theorem Sets.off {α : Type} {tSet tE size : Nat} {cells : α → List Value} {cmp : α → α → Int} {S : Nat → Option (List α)} (h : Sets tSet tE size cells cmp D w S σ) {k : Nat} (ho : Off k S σ) (hF : Fr (· = k) w w') : Sets tSet tE size cells cmp D w' S σ :=
  ⟨fun b l hb => (h.at_ b l hb).fr hF (ho b l hb).1 (ho b l hb).2, h.srt, h.out, h.apart, fun k hk => Nat.lt_of_lt_of_le (h.low k hk) hF.size⟩
/-- A block that is no set's is written. -/
theorem Tabs.off {k : Nat} (h : Tabs D w S σ S2 σ2) (ho : Off k S σ) (ho2 : Off k S2 σ2) (hF : Fr (· = k) w w') : Tabs D w' S σ S2 σ2 := ⟨h.syms.off ho hF, h.pages.off ho2 hF⟩
end
end Go.Proofs.Ytlkffnmmphehdaa
