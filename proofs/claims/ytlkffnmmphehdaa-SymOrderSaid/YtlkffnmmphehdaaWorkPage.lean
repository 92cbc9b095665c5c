/-
  Put, New, Clone, Drop, List at ponder/book.page[ponder/sym.letter, int], said of several sets in one memory.
-/
import Derived.Test.YtlkffnmmphehdaaSets
import Derived.Test.YtlkffnmmphehdaaNewPage
namespace Go.Proofs.Ytlkffnmmphehdaa
open Go.RowKit
abbrev PageSets := Sets (α := Page) 98 87 2 Page.cells cmpPage
section
variable {D : Nat → Prop} {w : World} {S : Nat → Option (List Page)} {σ : Nat → St} {b : Nat} {l : List Page}
/-- A set changed: its own list is another now; what is protected lies as it lay. -/
def ChangedPage (D : Nat → Prop) (w : World) (S : Nat → Option (List Page)) (σ : Nat → St) (b : Nat) (l : List Page) (w' : World) : Prop :=
  ∃ σ', PageSets D w' (upd S b (some l)) σ' ∧ (∀ k, k ≠ b → σ' k = σ k) ∧ Fr (fun k => ¬ D k) w w' ∧ Fr (SetMod b (σ b).sn (σ b).A) w w'
theorem sPut_Page (x : Page) (h : PageSets D w S σ) (hb : S b = some l) (hl : (l.length : Int) ≤ 100000000) :
    Calls Try.prog 72 #[.pointer (some ⟨b, 0, none⟩), .agg #[.int .u8 x.kk, .int .i64 x.v]] w fun e w' => e = .returned (.bool (!has cmpPage l x)) ∧ ChangedPage D w S σ b (put cmpPage l x) w' := by
  refine (put_Page b _ _ _ l x w (h.at_ b l hb) (h.srt b l hb) hl).mono ?_
  rintro e w' ⟨he, sn', A', c', h1, hF, hM⟩
  exact ⟨he, _, h.moved (by decide) hb h1 ((h.srt b l hb).put tc_page x) hF hM, fun k hk => upd_ne _ _ hk, h.mod hb hF, hF⟩

theorem sDrop_Page (x : Page) (h : PageSets D w S σ) (hb : S b = some l) (hl : (l.length : Int) ≤ 100000000) :
    Calls Try.prog 73 #[.pointer (some ⟨b, 0, none⟩), .agg #[.int .u8 x.kk, .int .i64 x.v]] w fun e w' => e = .returned (.bool (has cmpPage l x)) ∧ ChangedPage D w S σ b (drop cmpPage l x) w' := by
  refine (drop_Page b _ _ _ l x w (h.at_ b l hb) (h.srt b l hb) hl).mono ?_
  rintro e w' ⟨he, sn', A', c', h1, hF, hM⟩
  exact ⟨he, _, h.moved (by decide) hb h1 ((h.srt b l hb).drop x) hF hM, fun k hk => upd_ne _ _ hk, h.mod hb hF, hF⟩

/-- A new set. -/
def MadePage (D : Nat → Prop) (w : World) (S : Nat → Option (List Page)) (σ : Nat → St) (l : List Page) (e : Ending) (w' : World) : Prop :=
  ∃ k, e = .returned (.pointer (some ⟨k, 0, none⟩)) ∧ w.heap.size ≤ k ∧ (∀ b l, S b = some l → b ≠ k) ∧ ∃ σ', PageSets D w' (upd S k (some l)) σ' ∧ Fr (fun k => ¬ D k) w w'
theorem sNew_Page (A : Option Addr) (c : Nat) (xs : List Page) (h : PageSets D w S σ) (hrd : RowRd w 2 Page.cells A c xs) (hl : (xs.length : Int) ≤ 10000000) :
    Calls Try.prog 63 #[.slice A xs.length c] w fun e w' => MadePage D w S σ (puts cmpPage [] xs) e w' ∧ Below w.heap.size w w' := by
  refine (new_Page A c xs w hrd hl).mono ?_
  rintro e w' ⟨k, he, hk, sn, A', c', h1, hA, hB⟩
  exact ⟨⟨k, he, hk, fun b l hb e => by have := h.lt hb; omega, _, h.add hk h1 (Srt.puts tc_page xs Srt.nil) (.inl hA) hB, Fr.of_new hB⟩, hB⟩

theorem sClone_Page (h : PageSets D w S σ) (hb : S b = some l) :
    Calls Try.prog 71 #[.pointer (some ⟨b, 0, none⟩)] w fun e w' => ∃ k, e = .returned (.pointer (some ⟨k, 0, none⟩)) ∧ w.heap.size ≤ k ∧ (∀ b l, S b = some l → b ≠ k) ∧
      ∃ σ', PageSets D w' (upd S k (some l)) σ' ∧ (∀ j, j ≠ k → j ≠ b → σ' j = σ j) ∧ (σ' b).sn = true ∧ (σ' b).A = (σ b).A ∧ (σ' k).sn = true ∧ (σ' k).A = (σ b).A ∧ Fr (fun k => ¬ D k) w w' ∧ Fr (· = b) w w' := by
  refine (clone_Page b _ _ _ l w (h.at_ b l hb)).mono ?_
  rintro e w' ⟨k, he, hk, h1, h2, hF⟩
  have hnb : b ≠ k := fun e => by have := h.lt hb; omega
  have hD : Fr (fun k => ¬ D k) w w' := hF.mono (fun k _ hk => by rw [hk]; exact (h.out b l hb).1)
  have hs := h.seen (by decide) hb h1 hF
  have hrow := (h.at_ b l hb).row_lt
  refine ⟨k, he, hk, fun b l hb e => by have := h.lt hb; omega, upd (upd σ b ⟨true, (σ b).A, (σ b).c⟩) k ⟨true, (σ b).A, (σ b).c⟩, ⟨fun j m hj => ?_, fun j m hj => ?_, fun j m hj => ?_, fun j m j' m' hj hj' hjj hsj a a' ha ha' => ?_, hs.low⟩, fun j h1 h2 => by rw [upd_ne _ _ h1, upd_ne _ _ h2], by rw [upd_ne _ _ hnb, upd_same], by rw [upd_ne _ _ hnb, upd_same], by rw [upd_same], by rw [upd_same], hD, hF⟩
  · by_cases e : j = k
    · subst e; rw [upd_same] at hj ⊢; cases hj; exact h2
    · rw [upd_ne _ _ e] at hj ⊢; exact hs.at_ j m hj
  · by_cases e : j = k
    · subst e; rw [upd_same] at hj; cases hj; exact h.srt b l hb
    · rw [upd_ne _ _ e] at hj; exact h.srt j m hj
  · by_cases e : j = k
    · subst e; rw [upd_same] at hj ⊢; cases hj
      exact ⟨fun hd => by have := h.low _ hd; omega, fun hs2 => by cases hs2⟩
    · rw [upd_ne _ _ e] at hj ⊢; exact hs.out j m hj
  · by_cases e : j = k
    · subst e; rw [upd_same] at hsj; cases hsj
    · rw [upd_ne _ _ e] at hj hsj ha
      by_cases e2 : j' = k
      · subst e2
        rw [upd_same] at ha'
        by_cases e3 : j = b
        · subst e3; rw [upd_same] at hsj; cases hsj
        · exact hs.apart j m b l hj hb e3 hsj a a' ha (by rw [upd_same]; exact ha')
      · rw [upd_ne _ _ e2] at hj' ha'
        exact hs.apart j m j' m' hj hj' hjj hsj a a' ha ha'
end
end Go.Proofs.Ytlkffnmmphehdaa
