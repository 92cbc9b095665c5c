/-
  Put, New, Clone, Drop, List at ponder/api.Elem, said of several sets in one memory.
-/
import Derived.Test.YthhhhjllpejpgaaSets
import Derived.Test.YthhhhjllpejpgaaNewElem
import Derived.Test.YthhhhjllpejpgaaListElem
namespace Go.Proofs.Ythhhhjllpejpgaa
open Go.RowKit
abbrev ElemSets := Sets (α := Elem) 94 72 12 Elem.cells cmpElem
section
variable {D : Nat → Prop} {w : World} {S : Nat → Option (List Elem)} {σ : Nat → St} {b : Nat} {l : List Elem}
/-- A set changed: its own list is another now; what is protected lies as it lay. -/
def ChangedElem (D : Nat → Prop) (w : World) (S : Nat → Option (List Elem)) (σ : Nat → St) (b : Nat) (l : List Elem) (w' : World) : Prop :=
  ∃ σ', ElemSets D w' (upd S b (some l)) σ' ∧ (∀ k, k ≠ b → σ' k = σ k) ∧ Fr (fun k => ¬ D k) w w' ∧ Fr (SetMod b (σ b).sn (σ b).A) w w'
theorem sPut_Elem (x : Elem) (h : ElemSets D w S σ) (hb : S b = some l) (hl : (l.length : Int) ≤ 100000000) :
    Calls Try.prog 64 #[.pointer (some ⟨b, 0, none⟩), .agg #[.int .i64 x.id.kind, .string x.id.text, .int .i64 x.id.n, .int .i64 x.attr.kind, .string x.attr.text, .int .i64 x.attr.n, .int .i64 x.value.kind, .string x.value.text, .int .i64 x.value.n, .bool x.acc, .bool x.goal, .int .i64 x.tag]] w fun e w' => e = .returned (.bool (!has cmpElem l x)) ∧ ChangedElem D w S σ b (put cmpElem l x) w' := by
  refine (put_Elem b _ _ _ l x w (h.at_ b l hb) (h.srt b l hb) hl).mono ?_
  rintro e w' ⟨he, sn', A', c', h1, hF, hM⟩
  exact ⟨he, _, h.moved (by decide) hb h1 ((h.srt b l hb).put tc_elem x) hF hM, fun k hk => upd_ne _ _ hk, h.mod hb hF, hF⟩

/-- A new set. -/
def MadeElem (D : Nat → Prop) (w : World) (S : Nat → Option (List Elem)) (_ : Nat → St) (l : List Elem) (e : Ending) (w' : World) : Prop :=
  ∃ k, e = .returned (.pointer (some ⟨k, 0, none⟩)) ∧ w.heap.size ≤ k ∧ (∀ b l, S b = some l → b ≠ k) ∧ ∃ σ', ElemSets D w' (upd S k (some l)) σ' ∧ Fr (fun k => ¬ D k) w w'
theorem sNew_Elem (A : Option Addr) (c : Nat) (xs : List Elem) (h : ElemSets D w S σ) (hrd : RowRd w 12 Elem.cells A c xs) (hl : (xs.length : Int) ≤ 10000000) :
    Calls Try.prog 40 #[.slice A xs.length c] w fun e w' => MadeElem D w S σ (puts cmpElem [] xs) e w' ∧ Below w.heap.size w w' := by
  refine (new_Elem A c xs w hrd hl).mono ?_
  rintro e w' ⟨k, he, hk, sn, A', c', h1, hA, hB⟩
  exact ⟨⟨k, he, hk, fun b l hb e => by have := h.lt hb; omega, _, h.add hk h1 (Srt.puts tc_elem xs Srt.nil) (.inl hA) hB, Fr.of_new hB⟩, hB⟩

theorem sClone_Elem (h : ElemSets D w S σ) (hb : S b = some l) :
    Calls Try.prog 68 #[.pointer (some ⟨b, 0, none⟩)] w fun e w' => ∃ k, e = .returned (.pointer (some ⟨k, 0, none⟩)) ∧ w.heap.size ≤ k ∧ (∀ b l, S b = some l → b ≠ k) ∧
      ∃ σ', ElemSets D w' (upd S k (some l)) σ' ∧ (∀ j, j ≠ k → j ≠ b → σ' j = σ j) ∧ (σ' b).sn = true ∧ (σ' b).A = (σ b).A ∧ (σ' k).sn = true ∧ (σ' k).A = (σ b).A ∧ Fr (fun k => ¬ D k) w w' ∧ Fr (· = b) w w' := by
  refine (clone_Elem b _ _ _ l w (h.at_ b l hb)).mono ?_
  rintro e w' ⟨k, he, hk, h1, h2, hF⟩
  have hnb : b ≠ k := fun e => by have := h.lt hb; omega
  have hD : Fr (fun k => ¬ D k) w w' := hF.mono (fun k _ hk => by rw [hk]; exact (h.out b l hb).1)
  have hs := h.seen (by decide) hb h1 hF
  have hrow := (h.at_ b l hb).row_lt
  refine ⟨k, he, hk, fun b l hb e => by have := h.lt hb; omega, upd (upd σ b ⟨true, (σ b).A, (σ b).c⟩) k ⟨true, (σ b).A, (σ b).c⟩, ⟨fun j m hj => ?_, fun j m hj => ?_, fun j m hj => ?_, fun j m j' m' hj hj' hjj hsj a a' ha ha' => ?_, hs.low⟩, fun j h1 h2 => by rw [upd_ne _ _ h1, upd_ne _ _ h2], by rw [upd_ne _ _ hnb, upd_same], by rw [upd_ne _ _ hnb, upd_same], by rw [upd_same], by rw [upd_same], hD, hF⟩
  · by_cases e : j = k
    · subst e; rw [upd_same] at hj ⊢; cases hj; exact h2
    · rw [upd_ne _ _ e] at hj ⊢; exact hs.at_ j m hj
  · by_cases e : j = k
    · subst e; rw [upd_same] at hj; cases hj; exact h.srt b l hb
    · rw [upd_ne _ _ e] at hj; exact h.srt j m hj
  · by_cases e : j = k
    · subst e; rw [upd_same] at hj ⊢; cases hj
      exact ⟨fun hd => by have := h.low _ hd; omega, fun hs2 => by cases hs2⟩
    · rw [upd_ne _ _ e] at hj ⊢; exact hs.out j m hj
  · by_cases e : j = k
    · subst e; rw [upd_same] at hsj; cases hsj
    · rw [upd_ne _ _ e] at hj hsj ha
      by_cases e2 : j' = k
      · subst e2
        rw [upd_same] at ha'
        by_cases e3 : j = b
        · subst e3; rw [upd_same] at hsj; cases hsj
        · exact hs.apart j m b l hj hb e3 hsj a a' ha (by rw [upd_same]; exact ha')
      · rw [upd_ne _ _ e2] at hj' ha'
        exact hs.apart j m j' m' hj hj' hjj hsj a a' ha ha'

/-- A list of a set: in new memory, which is laid under protection. -/
def ListedElem (D : Nat → Prop) (w : World) (S : Nat → Option (List Elem)) (b : Nat) (l : List Elem) (e : Ending) (w' : World) : Prop :=
  ∃ A c, e = .returned (.slice A l.length c) ∧ RowRd w' 12 Elem.cells A c l ∧ AIn A (fun k => w.heap.size ≤ k ∧ k < w'.heap.size) ∧ (∃ σ', ElemSets (fun k => D k ∨ (w.heap.size ≤ k ∧ k < w'.heap.size)) w' S σ') ∧ Fr (fun k => ¬ D k) w w' ∧ Fr (· = b) w w'
theorem sSeq_Elem (kb : Nat) (h : ElemSets D w S σ) (hb : S b = some l) (hbox : w.cell? ⟨kb, 0, none⟩ = some (.pointer (some ⟨b, 0, none⟩))) (hl : (l.length : Int) ≤ 100000000) :
    Calls Try.prog 43 #[.func (.func 66) #[] #[.pointer (some ⟨kb, 0, none⟩)]] w (ListedElem D w S b l) := by
  have hS := h.at_ b l hb
  refine (list_Elem _ _ l w _ _ (seq_all_Elem kb b _ _ _ l w hbox hS) hl).mono ?_
  rintro e w' ⟨A, c, he, hown, hA, W1, W2, hB1, hs, hB2⟩
  have hS2 := hs.set_ (hS.new_ hB1) (by decide)
  have hF : Fr (· = b) w w' := ((Fr.of_new (M := (· = b)) hB1).trans (hs.fr.mono (fun _ _ h => h))).into (Fr.of_below hB2) (fun i hi => .inr hi)
  have hS3 : ElemSet w' b true (σ b).A (σ b).c l := hS2.fr (Fr.of_below hB2) (by have := hS.lt; omega) (hS.row_lt.mono (fun k hk => by omega))
  have hD : Fr (fun k => ¬ D k) w w' := hF.mono (fun k _ hk => by rw [hk]; exact (h.out b l hb).1)
  have hs1 := h.seen (by decide) hb hS3 hF
  have hrd := ownsRow_rd Elem.cells_length hown
  refine ⟨A, c, he, hrd, fun a ha => ⟨hA a ha, ?_⟩, ⟨_, hs1.widen w.heap.size (fun j m hj => ⟨h.lt hj, fun _ a ha => ?_⟩)⟩, hD, hF⟩
  · subst ha
    rcases ownsRow_form hown with ⟨hv, _⟩ | ⟨g, cap, hv, _, _, hr, _⟩
    · cases hv
    · injection hv with hv
      injection hv with hv
      subst hv
      exact hr.lt
  · by_cases e : j = b
    · subst e; rw [upd_same] at ha; exact hS.row_lt a ha
    · rw [upd_ne _ _ e] at ha; exact (h.at_ j m hj).row_lt a ha
end
end Go.Proofs.Ythhhhjllpejpgaa
