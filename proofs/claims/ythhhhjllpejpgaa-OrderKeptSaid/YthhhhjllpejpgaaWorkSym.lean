/-
  Put, New, Clone, Drop, List at ponder/api.Sym, said of several sets in one memory.
-/
import Derived.Test.YthhhhjllpejpgaaSets
import Derived.Test.YthhhhjllpejpgaaNewSym
import Derived.Test.YthhhhjllpejpgaaListSym
namespace Go.Proofs.Ythhhhjllpejpgaa
open Go.RowKit
abbrev SymSets := Sets (α := Sym) 86 27 3 Sym.cells cmpSym
section
variable {D : Nat → Prop} {w : World} {S : Nat → Option (List Sym)} {σ : Nat → St} {b : Nat} {l : List Sym}
/-- A set changed: its own list is another now; what is protected lies as it lay. -/
def ChangedSym (D : Nat → Prop) (w : World) (S : Nat → Option (List Sym)) (σ : Nat → St) (b : Nat) (l : List Sym) (w' : World) : Prop :=
  ∃ σ', SymSets D w' (upd S b (some l)) σ' ∧ (∀ k, k ≠ b → σ' k = σ k) ∧ Fr (fun k => ¬ D k) w w' ∧ Fr (SetMod b (σ b).sn (σ b).A) w w'
theorem sPut_Sym (x : Sym) (h : SymSets D w S σ) (hb : S b = some l) (hl : (l.length : Int) ≤ 100000000) :
    Calls Try.prog 15 #[.pointer (some ⟨b, 0, none⟩), .agg #[.int .i64 x.kind, .string x.text, .int .i64 x.n]] w fun e w' => e = .returned (.bool (!has cmpSym l x)) ∧ ChangedSym D w S σ b (put cmpSym l x) w' := by
  refine (put_Sym b _ _ _ l x w (h.at_ b l hb) (h.srt b l hb) hl).mono ?_
  rintro e w' ⟨he, sn', A', c', h1, hF, hM⟩
  exact ⟨he, _, h.moved (by decide) hb h1 ((h.srt b l hb).put tc_sym x) hF hM, fun k hk => upd_ne _ _ hk, h.mod hb hF, hF⟩

theorem sDrop_Sym (x : Sym) (h : SymSets D w S σ) (hb : S b = some l) (hl : (l.length : Int) ≤ 100000000) :
    Calls Try.prog 16 #[.pointer (some ⟨b, 0, none⟩), .agg #[.int .i64 x.kind, .string x.text, .int .i64 x.n]] w fun e w' => e = .returned (.bool (has cmpSym l x)) ∧ ChangedSym D w S σ b (drop cmpSym l x) w' := by
  refine (drop_Sym b _ _ _ l x w (h.at_ b l hb) (h.srt b l hb) hl).mono ?_
  rintro e w' ⟨he, sn', A', c', h1, hF, hM⟩
  exact ⟨he, _, h.moved (by decide) hb h1 ((h.srt b l hb).drop x) hF hM, fun k hk => upd_ne _ _ hk, h.mod hb hF, hF⟩

/-- A new set. -/
def MadeSym (D : Nat → Prop) (w : World) (S : Nat → Option (List Sym)) (_ : Nat → St) (l : List Sym) (e : Ending) (w' : World) : Prop :=
  ∃ k, e = .returned (.pointer (some ⟨k, 0, none⟩)) ∧ w.heap.size ≤ k ∧ (∀ b l, S b = some l → b ≠ k) ∧ ∃ σ', SymSets D w' (upd S k (some l)) σ' ∧ Fr (fun k => ¬ D k) w w'
theorem sNew_Sym (A : Option Addr) (c : Nat) (xs : List Sym) (h : SymSets D w S σ) (hrd : RowRd w 3 Sym.cells A c xs) (hl : (xs.length : Int) ≤ 10000000) :
    Calls Try.prog 12 #[.slice A xs.length c] w fun e w' => MadeSym D w S σ (puts cmpSym [] xs) e w' ∧ Below w.heap.size w w' := by
  refine (new_Sym A c xs w hrd hl).mono ?_
  rintro e w' ⟨k, he, hk, sn, A', c', h1, hA, hB⟩
  exact ⟨⟨k, he, hk, fun b l hb e => by have := h.lt hb; omega, _, h.add hk h1 (Srt.puts tc_sym xs Srt.nil) (.inl hA) hB, Fr.of_new hB⟩, hB⟩

theorem sClone_Sym (h : SymSets D w S σ) (hb : S b = some l) :
    Calls Try.prog 38 #[.pointer (some ⟨b, 0, none⟩)] w fun e w' => ∃ k, e = .returned (.pointer (some ⟨k, 0, none⟩)) ∧ w.heap.size ≤ k ∧ (∀ b l, S b = some l → b ≠ k) ∧
      ∃ σ', SymSets D w' (upd S k (some l)) σ' ∧ (∀ j, j ≠ k → j ≠ b → σ' j = σ j) ∧ (σ' b).sn = true ∧ (σ' b).A = (σ b).A ∧ (σ' k).sn = true ∧ (σ' k).A = (σ b).A ∧ Fr (fun k => ¬ D k) w w' ∧ Fr (· = b) w w' := by
  refine (clone_Sym b _ _ _ l w (h.at_ b l hb)).mono ?_
  rintro e w' ⟨k, he, hk, h1, h2, hF⟩
  have hnb : b ≠ k := fun e => by have := h.lt hb; omega
  have hD : Fr (fun k => ¬ D k) w w' := hF.mono (fun k _ hk => by rw [hk]; exact (h.out b l hb).1)
  have hs := h.seen (by decide) hb h1 hF
  have hrow := (h.at_ b l hb).row_lt
  refine ⟨k, he, hk, fun b l hb e => by have := h.lt hb; omega, upd (upd σ b ⟨true, (σ b).A, (σ b).c⟩) k ⟨true, (σ b).A, (σ b).c⟩, ⟨fun j m hj => ?_, fun j m hj => ?_, fun j m hj => ?_, fun j m j' m' hj hj' hjj hsj a a' ha ha' => ?_, hs.low⟩, fun j h1 h2 => by rw [upd_ne _ _ h1, upd_ne _ _ h2], by rw [upd_ne _ _ hnb, upd_same], by rw [upd_ne _ _ hnb, upd_same], by rw [upd_same], by rw [upd_same], hD, hF⟩
  · by_cases e : j = k
    · subst e; rw [upd_same] at hj ⊢; cases hj; exact h2
    · rw [upd_ne _ _ e] at hj ⊢; exact hs.at_ j m hj
  · by_cases e : j = k
    · subst e; rw [upd_same] at hj; cases hj; exact h.srt b l hb
    · rw [upd_ne _ _ e] at hj; exact h.srt j m hj
  · by_cases e : j = k
    · subst e; rw [upd_same] at hj ⊢; cases hj
      exact ⟨fun hd => by have := h.low _ hd; omega, fun hs2 => by cases hs2⟩
    · rw [upd_ne _ _ e] at hj ⊢; exact hs.out j m hj
  · by_cases e : j = k
    · subst e; rw [upd_same] at hsj; cases hsj
    · rw [upd_ne _ _ e] at hj hsj ha
      by_cases e2 : j' = k
      · subst e2
        rw [upd_same] at ha'
        by_cases e3 : j = b
        · subst e3; rw [upd_same] at hsj; cases hsj
        · exact hs.apart j m b l hj hb e3 hsj a a' ha (by rw [upd_same]; exact ha')
      · rw [upd_ne _ _ e2] at hj' ha'
        exact hs.apart j m j' m' hj hj' hjj hsj a a' ha ha'

/-- A list of a set: in new memory, which is laid under protection. -/
def ListedSym (D : Nat → Prop) (w : World) (S : Nat → Option (List Sym)) (b : Nat) (l : List Sym) (e : Ending) (w' : World) : Prop :=
  ∃ A c, e = .returned (.slice A l.length c) ∧ RowRd w' 3 Sym.cells A c l ∧ AIn A (fun k => w.heap.size ≤ k ∧ k < w'.heap.size) ∧ (∃ σ', SymSets (fun k => D k ∨ (w.heap.size ≤ k ∧ k < w'.heap.size)) w' S σ') ∧ Fr (fun k => ¬ D k) w w' ∧ Fr (· = b) w w'
theorem sSeq_Sym (kb : Nat) (h : SymSets D w S σ) (hb : S b = some l) (hbox : w.cell? ⟨kb, 0, none⟩ = some (.pointer (some ⟨b, 0, none⟩))) (hl : (l.length : Int) ≤ 100000000) :
    Calls Try.prog 20 #[.func (.func 53) #[] #[.pointer (some ⟨kb, 0, none⟩)]] w (ListedSym D w S b l) := by
  have hS := h.at_ b l hb
  refine (list_Sym _ _ l w _ _ (seq_all_Sym kb b _ _ _ l w hbox hS) hl).mono ?_
  rintro e w' ⟨A, c, he, hown, hA, W1, W2, hB1, hs, hB2⟩
  have hS2 := hs.set_ (hS.new_ hB1) (by decide)
  have hF : Fr (· = b) w w' := ((Fr.of_new (M := (· = b)) hB1).trans (hs.fr.mono (fun _ _ h => h))).into (Fr.of_below hB2) (fun i hi => .inr hi)
  have hS3 : SymSet w' b true (σ b).A (σ b).c l := hS2.fr (Fr.of_below hB2) (by have := hS.lt; omega) (hS.row_lt.mono (fun k hk => by omega))
  have hD : Fr (fun k => ¬ D k) w w' := hF.mono (fun k _ hk => by rw [hk]; exact (h.out b l hb).1)
  have hs1 := h.seen (by decide) hb hS3 hF
  have hrd := ownsRow_rd Sym.cells_length hown
  refine ⟨A, c, he, hrd, fun a ha => ⟨hA a ha, ?_⟩, ⟨_, hs1.widen w.heap.size (fun j m hj => ⟨h.lt hj, fun _ a ha => ?_⟩)⟩, hD, hF⟩
  · subst ha
    rcases ownsRow_form hown with ⟨hv, _⟩ | ⟨g, cap, hv, _, _, hr, _⟩
    · cases hv
    · injection hv with hv
      injection hv with hv
      subst hv
      exact hr.lt
  · by_cases e : j = b
    · subst e; rw [upd_same] at ha; exact hS.row_lt a ha
    · rw [upd_ne _ _ e] at ha; exact (h.at_ j m hj).row_lt a ha
end

set_option maxHeartbeats 400000 in
theorem lawlist {D : Nat → Prop} {w : World} {S : Nat → Option (List Sym)} {σ : Nat → St} {b : Nat} {l : List Sym} (h : SymSets D w S σ) (hb : S b = some l) (hl : (l.length : Int) ≤ 100000000) :
    Calls Try.prog 13 #[.pointer (some ⟨b, 0, none⟩)] w (ListedSym D w S b l) := by
  have H := Lib.hid h
  clear h
  go_enter Try.func13, Try.ntmps13
  go_wp2_with fail
  refine (mkall_Sym b w).mono ?_
  rintro e w1 ⟨rfl, hB1, hbox⟩
  have HB1 := Lib.hid hB1
  have HX := Lib.hid hbox
  clear hB1 hbox
  go_wp2_with fail
  refine (sSeq_Sym _ (H.out.protect HB1.out) hb HX.out hl).mono ?_
  rintro e w2 ⟨A, c, rfl, hrd, hA, ⟨σ', hs⟩, hF, hFb⟩
  have hR : ListedSym D w S b l (.returned (.slice A l.length c)) w2 := by
    have hz := HB1.out.size
    have hz2 := hFb.size
    refine ⟨A, c, rfl, hrd, hA.mono (fun k hk => ⟨by omega, hk.2⟩), ⟨σ', hs.weaken (fun k hk => ?_)⟩, (Fr.of_new HB1.out).trans (hF.mono (fun k _ hk hd => hk (.inl hd))), (Fr.of_new HB1.out).trans hFb⟩
    rcases hk with hk | hk
    · exact .inl (.inl hk)
    · rcases Nat.lt_or_ge k w1.heap.size with h | h
      · exact .inl (.inr ⟨hk.1, h⟩)
      · exact .inr ⟨h, hk.2⟩
  clear hrd hA hs hF hFb H HB1 HX
  have HR := Lib.hid hR
  clear hR
  go_wp2_with fail
  go_ret
  exact HR.out
end Go.Proofs.Ythhhhjllpejpgaa
