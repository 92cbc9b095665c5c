/-
  Several ordered sets in one memory: which blocks their calls may change, which not (D). Over any program.
-/
import Derived.Test.YthhhhjllpejpgaaRange
import Derived.Test.YthhhhjllpejpgaaPlain
namespace Go.Proofs.Ythhhhjllpejpgaa
open Go.RowKit

/-- How a set lies: seen or not; its list's slice. -/
structure St where
  sn : Bool
  A : Option Addr
  c : Nat
def upd {β : Type} (S : Nat → β) (b : Nat) (l : β) : Nat → β := fun k => if k = b then l else S k
theorem upd_same {β : Type} (S : Nat → β) (b : Nat) (l : β) : upd S b l b = l := by simp [upd]
theorem upd_ne {β : Type} (S : Nat → β) {b k : Nat} (l : β) (h : k ≠ b) : upd S b l k = S k := by simp [upd, h]
theorem upd_upd {β : Type} (S : Nat → β) (b : Nat) (l l' : β) : upd (upd S b l) b l' = upd S b l' := by funext k; simp only [upd]; split <;> rfl
theorem upd_id {β : Type} (S : Nat → β) (b : Nat) (l : β) (h : S b = l) : upd S b l = S := by funext k; simp only [upd]; split <;> simp_all

structure Sets {α : Type} (tSet tE size : Nat) (cells : α → List Value) (cmp : α → α → Int) (D : Nat → Prop) (w : World) (S : Nat → Option (List α)) (σ : Nat → St) : Prop where
  at_ : ∀ b l, S b = some l → SetAt tSet tE size cells w b (σ b).sn (σ b).A (σ b).c l
  srt : ∀ b l, S b = some l → Srt cmp l
  out : ∀ b l, S b = some l → ¬ D b ∧ ((σ b).sn = false → AIn (σ b).A (fun k => ¬ D k))
  apart : ∀ b l b' l', S b = some l → S b' = some l' → b ≠ b' → (σ b).sn = false → ∀ a a', (σ b).A = some a → (σ b').A = some a' → a.block ≠ a'.block
  low : ∀ k, D k → k < w.heap.size
section
variable {α : Type} {tSet tE size : Nat} {cells : α → List Value} {cmp : α → α → Int} {D D' : Nat → Prop} {w w' : World} {S : Nat → Option (List α)} {σ : Nat → St} {b b' : Nat} {l l' : List α}
theorem SetAt.far {sn : Bool} {A : Option Addr} {c : Nat} (h : SetAt tSet tE size cells w b sn A c l) {sn' : Bool} {A' : Option Addr} {c' : Nat} (h' : SetAt tSet tE size cells w b' sn' A' c' l') (hne : tE ≠ tSet) : AIn A (· ≠ b') := by
  intro a e hb
  have := own_blk_ne h.row h'.blk hne
  subst e
  exact this (by simp [Value.ownBlock, hb])
theorem Sets.start (tSet tE size : Nat) (cells : α → List Value) (cmp : α → α → Int) (w : World) : Sets tSet tE size cells cmp (· < w.heap.size) w (fun _ => none) (fun _ => ⟨false, none, 0⟩) :=
  ⟨fun _ _ h => by simp at h, fun _ _ h => by simp at h, fun _ _ h => by simp at h, fun _ _ _ _ h => by simp at h, fun _ h => h⟩
theorem Sets.lt (h : Sets tSet tE size cells cmp D w S σ) (hb : S b = some l) : b < w.heap.size := (h.at_ b l hb).lt
theorem Sets.below (h : Sets tSet tE size cells cmp D w S σ) (hw : Below w.heap.size w w') : Sets tSet tE size cells cmp D w' S σ :=
  ⟨fun b l hb => (h.at_ b l hb).new_ hw, h.srt, h.out, h.apart, fun k hk => Nat.lt_of_lt_of_le (h.low k hk) hw.size⟩
theorem Sets.weaken (h : Sets tSet tE size cells cmp D w S σ) (hD : ∀ k, D' k → D k) : Sets tSet tE size cells cmp D' w S σ :=
  ⟨h.at_, h.srt, fun b l hb => ⟨fun hk => (h.out b l hb).1 (hD _ hk), fun hs => ((h.out b l hb).2 hs).mono (fun _ hk hd => hk (hD _ hd))⟩, h.apart, fun k hk => h.low k (hD k hk)⟩
/-- New memory that is no set's is laid under protection. -/
theorem Sets.widen (h : Sets tSet tE size cells cmp D w S σ) (n : Nat) (hn : ∀ b l, S b = some l → b < n ∧ ((σ b).sn = false → AIn (σ b).A (· < n))) : Sets tSet tE size cells cmp (fun k => D k ∨ (n ≤ k ∧ k < w.heap.size)) w S σ :=
  ⟨h.at_, h.srt, fun b l hb => ⟨fun hk => by
    rcases hk with hk | hk
    · exact (h.out b l hb).1 hk
    · have := (hn b l hb).1; omega, fun hs a ha hk => by
    rcases hk with hk | hk
    · exact (h.out b l hb).2 hs a ha hk
    · have := (hn b l hb).2 hs a ha; omega⟩, h.apart, fun k hk => by
    rcases hk with hk | hk
    · exact h.low k hk
    · exact hk.2⟩
theorem Sets.protect (h : Sets tSet tE size cells cmp D w S σ) (hw : Below w.heap.size w w') : Sets tSet tE size cells cmp (fun k => D k ∨ (w.heap.size ≤ k ∧ k < w'.heap.size)) w' S σ :=
  (h.below hw).widen w.heap.size (fun b l hb => ⟨h.lt hb, fun _ => (h.at_ b l hb).row_lt⟩)
theorem Sets.mod (h : Sets tSet tE size cells cmp D w S σ) (hb : S b = some l) (hF : Fr (SetMod b (σ b).sn (σ b).A) w w') : Fr (fun k => ¬ D k) w w' :=
  hF.mono (fun k _ hk => by
    rcases hk with rfl | ⟨hs, a, ha, rfl⟩
    · exact (h.out _ l hb).1
    · exact (h.out b l hb).2 hs a ha)
/-- Another set's list is not touched. -/
theorem Sets.rowKeep (h : Sets tSet tE size cells cmp D w S σ) (hne : tE ≠ tSet) (hb : S b = some l) (hb' : S b' = some l') (hbb : b ≠ b') (hF : Fr (SetMod b (σ b).sn (σ b).A) w w') : ∀ a, (σ b').A = some a → w'.heap[a.block]? = w.heap[a.block]? := by
  intro a ha
  refine hF.block _ ((h.at_ b' l' hb').row_lt a ha) ?_
  rintro (hk | ⟨hs, a2, ha2, hk⟩)
  · exact (h.at_ b' l' hb').far (h.at_ b l hb) hne a ha hk
  · exact h.apart b l b' l' hb hb' hbb hs a2 a ha2 ha hk
theorem Sets.moved (h : Sets tSet tE size cells cmp D w S σ) (hne : tE ≠ tSet) (hb : S b = some l) {sn' : Bool} {A' : Option Addr} {c' : Nat} (h1 : SetAt tSet tE size cells w' b sn' A' c' l') (hs : Srt cmp l')
    (hF : Fr (SetMod b (σ b).sn (σ b).A) w w') (hM : Moved w (σ b).sn (σ b).A sn' A') : Sets tSet tE size cells cmp D w' (upd S b (some l')) (upd σ b ⟨sn', A', c'⟩) := by
  have hB := h.at_ b l hb
  refine ⟨fun k m hk => ?_, fun k m hk => ?_, fun k m hk => ?_, fun k m k' m' hk hk' hkk hsk a a' ha ha' => ?_, fun k hk => Nat.lt_of_lt_of_le (h.low k hk) hF.size⟩
  · by_cases e : k = b
    · subst e; rw [upd_same] at hk ⊢; cases hk; exact h1
    · rw [upd_ne _ _ e] at hk ⊢
      have hK := h.at_ k m hk
      refine hK.fr hF ?_ ?_
      · rintro (hx | ⟨hx, a, ha, hx2⟩)
        · exact e hx
        · exact hB.far hK hne a ha hx2
      · intro a ha hx
        rcases hx with hx | ⟨hx, a2, ha2, hx2⟩
        · exact hK.far hB hne a ha hx
        · exact h.apart b l k m hb hk (Ne.symm e) hx a2 a ha2 ha hx2
  · by_cases e : k = b
    · subst e; rw [upd_same] at hk; cases hk; exact hs
    · rw [upd_ne _ _ e] at hk; exact h.srt k m hk
  · by_cases e : k = b
    · subst e; rw [upd_same] at hk ⊢; cases hk
      refine ⟨(h.out _ _ hb).1, fun hs2 => ?_⟩
      rcases hM with ⟨e1, e2⟩ | ⟨_, g, hg, e2⟩
      · simp only at hs2 ⊢; rw [e2]; exact (h.out _ _ hb).2 (by rw [← e1]; exact hs2)
      · simp only; rw [e2]; intro a ha hd; cases ha; have := h.low _ hd; simp at this; omega
    · rw [upd_ne _ _ e] at hk ⊢; exact h.out k m hk
  · by_cases e : k = b
    · subst e
      have e' : k' ≠ k := Ne.symm hkk
      rw [upd_ne _ _ e'] at hk' ha'
      rw [upd_same] at hsk ha
      simp only at hsk ha
      rcases hM with ⟨e1, e2⟩ | ⟨_, g, hg, e2⟩
      · exact h.apart k l k' m' hb hk' hkk (by rw [← e1]; exact hsk) a a' (by rw [← e2]; exact ha) ha'
      · rw [e2] at ha; cases ha
        have := (h.at_ k' m' hk').row_lt a' ha'
        simp only; omega
    · rw [upd_ne _ _ e] at hk hsk ha
      by_cases e2 : k' = b
      · subst e2
        rw [upd_same] at ha'
        simp only at ha'
        rcases hM with ⟨_, e3⟩ | ⟨_, g, hg, e3⟩
        · exact h.apart k m k' l hk hb hkk hsk a a' ha (by rw [← e3]; exact ha')
        · rw [e3] at ha'; cases ha'
          have := (h.at_ k m hk).row_lt a ha
          simp only; omega
      · rw [upd_ne _ _ e2] at hk' ha'
        exact h.apart k m k' m' hk hk' hkk hsk a a' ha ha'
/-- A set is marked as seen. -/
theorem Sets.seen (h : Sets tSet tE size cells cmp D w S σ) (hne : tE ≠ tSet) (hb : S b = some l) (h1 : SetAt tSet tE size cells w' b true (σ b).A (σ b).c l) (hF : Fr (· = b) w w') :
    Sets tSet tE size cells cmp D w' S (upd σ b ⟨true, (σ b).A, (σ b).c⟩) := by
  have hB := h.at_ b l hb
  refine ⟨fun k m hk => ?_, h.srt, fun k m hk => ?_, fun k m k' m' hk hk' hkk hsk a a' ha ha' => ?_, fun k hk => Nat.lt_of_lt_of_le (h.low k hk) hF.size⟩
  · by_cases e : k = b
    · subst e; rw [upd_same]; rw [hb] at hk; cases hk; exact h1
    · rw [upd_ne _ _ e]
      exact (h.at_ k m hk).fr hF e (fun a ha hx => (h.at_ k m hk).far hB hne a ha hx)
  · refine ⟨(h.out k m hk).1, fun hs => ?_⟩
    by_cases e : k = b
    · subst e; rw [upd_same] at hs; cases hs
    · rw [upd_ne _ _ e] at hs ⊢; exact (h.out k m hk).2 hs
  · by_cases e : k = b
    · subst e; rw [upd_same] at hsk; cases hsk
    · rw [upd_ne _ _ e] at hsk ha
      by_cases e2 : k' = b
      · subst e2; rw [upd_same] at ha'; exact h.apart k m k' m' hk hk' hkk hsk a a' ha ha'
      · rw [upd_ne _ _ e2] at ha'; exact h.apart k m k' m' hk hk' hkk hsk a a' ha ha'
/-- A new set; its list in new memory, or shared (then each that shares it is marked as seen). -/
theorem Sets.add (h : Sets tSet tE size cells cmp D w S σ) {k : Nat} {sn' : Bool} {A' : Option Addr} {c' : Nat} (hk : w.heap.size ≤ k) (h1 : SetAt tSet tE size cells w' k sn' A' c' l') (hs : Srt cmp l')
    (hA : AIn A' (w.heap.size ≤ ·) ∨ (sn' = true ∧ ∃ b l, S b = some l ∧ (σ b).sn = true ∧ (σ b).A = A')) (hF : Below w.heap.size w w') : Sets tSet tE size cells cmp D w' (upd S k (some l')) (upd σ k ⟨sn', A', c'⟩) := by
  have hnk : ∀ b l, S b = some l → b ≠ k := fun b l hb e => by have := h.lt hb; omega
  refine ⟨fun b m hb => ?_, fun b m hb => ?_, fun b m hb => ?_, fun b m b' m' hb hb' hkk hsk a a' ha ha' => ?_, fun k hk => Nat.lt_of_lt_of_le (h.low k hk) hF.size⟩
  · by_cases e : b = k
    · subst e; rw [upd_same] at hb ⊢; cases hb; exact h1
    · rw [upd_ne _ _ e] at hb ⊢; exact (h.at_ b m hb).new_ hF
  · by_cases e : b = k
    · subst e; rw [upd_same] at hb; cases hb; exact hs
    · rw [upd_ne _ _ e] at hb; exact h.srt b m hb
  · by_cases e : b = k
    · subst e; rw [upd_same] at hb ⊢; cases hb
      refine ⟨fun hd => by have := h.low _ hd; omega, fun hs2 a ha hd => ?_⟩
      have h3 := h.low _ hd
      rcases hA with hA | ⟨hA, _⟩
      · have := hA a ha; omega
      · simp only at hs2; rw [hA] at hs2; cases hs2
    · rw [upd_ne _ _ e] at hb ⊢; exact h.out b m hb
  · by_cases e : b = k
    · subst e
      rw [upd_ne _ _ (Ne.symm hkk)] at hb' ha'
      rw [upd_same] at hsk ha
      simp only at hsk ha
      have h3 := (h.at_ b' m' hb').row_lt a' ha'
      rcases hA with hA | ⟨hA, _⟩
      · have := hA a ha; omega
      · rw [hA] at hsk; cases hsk
    · rw [upd_ne _ _ e] at hb hsk ha
      have h3 := (h.at_ b m hb).row_lt a ha
      by_cases e2 : b' = k
      · subst e2
        rw [upd_same] at ha'
        simp only at ha'
        rcases hA with hA | ⟨_, b2, l2, hb2, hs2, hA⟩
        · have := hA a' ha'; omega
        · by_cases e3 : b = b2
          · subst e3; rw [hsk] at hs2; cases hs2
          · exact h.apart b m b2 l2 hb hb2 e3 hsk a a' ha (hA.trans ha')
      · rw [upd_ne _ _ e2] at hb' ha'
        exact h.apart b m b' m' hb hb' hkk hsk a a' ha ha'
end
end Go.Proofs.Ythhhhjllpejpgaa
