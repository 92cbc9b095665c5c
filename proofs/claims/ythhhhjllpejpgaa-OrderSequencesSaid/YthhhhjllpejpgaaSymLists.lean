/-
  Sorted lists of symbols: what is in them settles them; union, meet, less by what is in them.
-/
import Derived.Test.YthhhhjllpejpgaaWorkSym
namespace Go.Proofs.Ythhhhjllpejpgaa
open Go.RowKit
theorem srt_ext {α : Type} {cmp : α → α → Int} (t : TC cmp) (h0 : ∀ x, ¬ cmp x x < 0) : ∀ {l m : List α}, Srt cmp l → Srt cmp m → (∀ x, x ∈ l ↔ x ∈ m) → l = m
  | [], [], _, _, _ => rfl
  | [], b :: m, _, _, h => absurd ((h b).2 (by simp)) (by simp)
  | a :: l, [], _, _, h => absurd ((h a).1 (by simp)) (by simp)
  | a :: l, b :: m, hl, hm, h => by
    unfold Srt at hl hm
    rw [List.pairwise_cons] at hl hm
    have e : a = b := by
      rcases List.mem_cons.1 ((h a).1 (by simp)) with e | e
      · exact e
      · rcases List.mem_cons.1 ((h b).2 (by simp)) with e2 | e2
        · exact e2.symm
        · have h1 := hm.1 a e
          have h2 := hl.1 b e2
          have h3 := (t.symm _ _).1 h1
          omega
    subst e
    rw [srt_ext t h0 hl.2 hm.2 (fun x => ?_)]
    constructor
    · intro hx
      rcases List.mem_cons.1 ((h x).1 (by simp [hx])) with e | e
      · subst e; exact absurd (hl.1 x hx) (h0 x)
      · exact e
    · intro hx
      rcases List.mem_cons.1 ((h x).2 (by simp [hx])) with e | e
      · subst e; exact absurd (hm.1 x hx) (h0 x)
      · exact e
theorem sym_ext {l m : List Sym} (hl : Srt cmpSym l) (hm : Srt cmpSym m) (h : ∀ x, x ∈ l ↔ x ∈ m) : l = m :=
  srt_ext tc_sym (fun x => by have := (cmpSym_eq (a := x) (b := x)).2 rfl; omega) hl hm h
theorem mem_put_iff {l : List Sym} {x y : Sym} : y ∈ put cmpSym l x ↔ y ∈ l ∨ y = x := by
  unfold put
  split
  · rename_i h
    obtain ⟨z, hz, e⟩ := has_iff.1 h
    have := cmpSym_eq.1 e
    subst this
    constructor
    · exact .inl
    · rintro (h | rfl)
      · exact h
      · exact hz
  · rename_i h
    have hn := has_false.1 (by simpa using h)
    simp only [List.mem_append, List.mem_cons, mem_below, mem_above]
    constructor
    · rintro (h | h | h)
      · exact .inl h.1
      · exact .inr h
      · exact .inl h.1
    · rintro (h | h)
      · have := hn y h
        rcases Int.lt_trichotomy (cmpSym y x) 0 with h1 | h1 | h1
        · exact .inl ⟨h, h1⟩
        · exact absurd h1 this
        · exact .inr (.inr ⟨h, h1⟩)
      · exact .inr (.inl h)
theorem mem_puts_iff : ∀ (xs : List Sym) {l : List Sym} {y : Sym}, y ∈ puts cmpSym l xs ↔ y ∈ l ∨ y ∈ xs
  | [], _, _ => by simp [puts]
  | x :: xs, l, y => by
    rw [show puts cmpSym l (x :: xs) = puts cmpSym (put cmpSym l x) xs from rfl, mem_puts_iff xs, mem_put_iff]
    simp [or_assoc]
theorem has_mem {l : List Sym} {x : Sym} : has cmpSym l x = true ↔ x ∈ l := by
  rw [has_iff]
  constructor
  · rintro ⟨z, hz, e⟩
    rw [← cmpSym_eq.1 e]; exact hz
  · exact fun h => ⟨x, h, cmpSym_eq.2 rfl⟩
theorem has_not {l : List Sym} {x : Sym} : has cmpSym l x = false ↔ x ∉ l := by
  rw [← has_mem]; simp
theorem same_refl (l : List Sym) : l.length = l.length ∧ ∀ k, (h : k < l.length) → (h' : k < l.length) → cmpSym l[k] l[k] = 0 := ⟨rfl, fun _ _ _ => cmpSym_eq.2 rfl⟩
theorem same_of {l m : List Sym} (e : l = m) : l.length = m.length ∧ ∀ k, (h : k < l.length) → (h' : k < m.length) → cmpSym l[k] m[k] = 0 := by subst e; exact same_refl l
theorem made_open {D : Nat → Prop} {w : World} {S : Nat → Option (List Sym)} {σ : Nat → St} {l : List Sym} {e : Ending} {w' : World} (h : MadeSym D w S σ l e w') :
    ∃ k, e = .returned (.pointer (some ⟨k, 0, none⟩)) ∧ ∃ S' σ', SymSets D w' S' σ' ∧ S' k = some l ∧ (∀ b l, S b = some l → S' b = some l) ∧ (∀ b l, S b = some l → b ≠ k) ∧ Fr (fun k => ¬ D k) w w' := by
  obtain ⟨k, he, _, hn, σ', hs, hF⟩ := h
  exact ⟨k, he, _, σ', hs, upd_same _ _ _, fun b l hb => by rw [upd_ne _ _ (hn b l hb)]; exact hb, hn, hF⟩
end Go.Proofs.Ythhhhjllpejpgaa
