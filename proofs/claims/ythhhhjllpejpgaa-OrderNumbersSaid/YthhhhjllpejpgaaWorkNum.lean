/-
  Put, New, Clone, Drop, List at ponder/ponderlaw01.Num, said of several sets in one memory.
-/
import Derived.Test.YthhhhjllpejpgaaSets
import Derived.Test.YthhhhjllpejpgaaNewNum
import Derived.Test.YthhhhjllpejpgaaListNum
namespace Go.Proofs.Ythhhhjllpejpgaa
open Go.RowKit
abbrev NumSets := Sets (α := Num) 90 39 1 Num.cells cmpNum
section
variable {D : Nat → Prop} {w : World} {S : Nat → Option (List Num)} {σ : Nat → St} {b : Nat} {l : List Num}
/-- A set changed: its own list is another now; what is protected lies as it lay. -/
def ChangedNum (D : Nat → Prop) (w : World) (S : Nat → Option (List Num)) (σ : Nat → St) (b : Nat) (l : List Num) (w' : World) : Prop :=
  ∃ σ', NumSets D w' (upd S b (some l)) σ' ∧ (∀ k, k ≠ b → σ' k = σ k) ∧ Fr (fun k => ¬ D k) w w' ∧ Fr (SetMod b (σ b).sn (σ b).A) w w'
theorem sPut_Num (x : Num) (h : NumSets D w S σ) (hb : S b = some l) (hl : (l.length : Int) ≤ 100000000) :
    Calls Try.prog 22 #[.pointer (some ⟨b, 0, none⟩), .int .i64 x] w fun e w' => e = .returned (.bool (!has cmpNum l x)) ∧ ChangedNum D w S σ b (put cmpNum l x) w' := by
  refine (put_Num b _ _ _ l x w (h.at_ b l hb) (h.srt b l hb) hl).mono ?_
  rintro e w' ⟨he, sn', A', c', h1, hF, hM⟩
  exact ⟨he, _, h.moved (by decide) hb h1 ((h.srt b l hb).put tc_num x) hF hM, fun k hk => upd_ne _ _ hk, h.mod hb hF, hF⟩

/-- A new set. -/
def MadeNum (D : Nat → Prop) (w : World) (S : Nat → Option (List Num)) (σ : Nat → St) (l : List Num) (e : Ending) (w' : World) : Prop :=
  ∃ k, e = .returned (.pointer (some ⟨k, 0, none⟩)) ∧ w.heap.size ≤ k ∧ (∀ b l, S b = some l → b ≠ k) ∧ ∃ σ', NumSets D w' (upd S k (some l)) σ' ∧ Fr (fun k => ¬ D k) w w'
theorem sNew_Num (A : Option Addr) (c : Nat) (xs : List Num) (h : NumSets D w S σ) (hrd : RowRd w 1 Num.cells A c xs) (hl : (xs.length : Int) ≤ 10000000) :
    Calls Try.prog 21 #[.slice A xs.length c] w fun e w' => MadeNum D w S σ (puts cmpNum [] xs) e w' ∧ Below w.heap.size w w' := by
  refine (new_Num A c xs w hrd hl).mono ?_
  rintro e w' ⟨k, he, hk, sn, A', c', h1, hA, hB⟩
  exact ⟨⟨k, he, hk, fun b l hb e => by have := h.lt hb; omega, _, h.add hk h1 (Srt.puts tc_num xs Srt.nil) (.inl hA) hB, Fr.of_new hB⟩, hB⟩

/-- A list of a set: in new memory, which is laid under protection. -/
def ListedNum (D : Nat → Prop) (w : World) (S : Nat → Option (List Num)) (b : Nat) (l : List Num) (e : Ending) (w' : World) : Prop :=
  ∃ A c, e = .returned (.slice A l.length c) ∧ RowRd w' 1 Num.cells A c l ∧ AIn A (fun k => w.heap.size ≤ k ∧ k < w'.heap.size) ∧ (∃ σ', NumSets (fun k => D k ∨ (w.heap.size ≤ k ∧ k < w'.heap.size)) w' S σ') ∧ Fr (fun k => ¬ D k) w w' ∧ Fr (· = b) w w'
theorem sSeq_Num (kb : Nat) (h : NumSets D w S σ) (hb : S b = some l) (hbox : w.cell? ⟨kb, 0, none⟩ = some (.pointer (some ⟨b, 0, none⟩))) (hl : (l.length : Int) ≤ 100000000) :
    Calls Try.prog 23 #[.func (.func 60) #[] #[.pointer (some ⟨kb, 0, none⟩)]] w (ListedNum D w S b l) := by
  have hS := h.at_ b l hb
  refine (list_Num _ _ l w _ _ (seq_all_Num kb b _ _ _ l w hbox hS) hl).mono ?_
  rintro e w' ⟨A, c, he, hown, hA, W1, W2, hB1, hs, hB2⟩
  have hS2 := hs.set_ (hS.new_ hB1) (by decide)
  have hF : Fr (· = b) w w' := ((Fr.of_new (M := (· = b)) hB1).trans (hs.fr.mono (fun _ _ h => h))).into (Fr.of_below hB2) (fun i hi => .inr hi)
  have hS3 : NumSet w' b true (σ b).A (σ b).c l := hS2.fr (Fr.of_below hB2) (by have := hS.lt; omega) (hS.row_lt.mono (fun k hk => by omega))
  have hD : Fr (fun k => ¬ D k) w w' := hF.mono (fun k _ hk => by rw [hk]; exact (h.out b l hb).1)
  have hs1 := h.seen (by decide) hb hS3 hF
  have hrd := ownsRow_rd Num.cells_length hown
  refine ⟨A, c, he, hrd, fun a ha => ⟨hA a ha, ?_⟩, ⟨_, hs1.widen w.heap.size (fun j m hj => ⟨h.lt hj, fun _ a ha => ?_⟩)⟩, hD, hF⟩
  · subst ha
    rcases ownsRow_form hown with ⟨hv, _⟩ | ⟨g, cap, hv, _, _, hr, _⟩
    · cases hv
    · injection hv with hv
      injection hv with hv
      subst hv
      exact hr.lt
  · by_cases e : j = b
    · subst e; rw [upd_same] at ha; exact hS.row_lt a ha
    · rw [upd_ne _ _ e] at ha; exact (h.at_ j m hj).row_lt a ha
end
end Go.Proofs.Ythhhhjllpejpgaa
