/-
  The first that was put stays: the plain law on sorted lists of elements.
-/
import Derived.Test.YthhhhjllpejpgaaRefOne
import Derived.Test.YthhhhjllpejpgaaOpsElem
namespace Go.Proofs.Ythhhhjllpejpgaa
open Go.RowKit
theorem srt_uniq {α : Type} {cmp : α → α → Int} {l : List α} (hs : Srt cmp l) {x y : α} (hx : x ∈ l) (hy : y ∈ l) (h : cmp x y = 0) (h' : cmp y x = 0) : x = y := by
  obtain ⟨i, hi, rfl⟩ := List.getElem_of_mem hx
  obtain ⟨j, hj, rfl⟩ := List.getElem_of_mem hy
  rcases Nat.lt_trichotomy i j with hij | rfl | hij
  · have := hs.lt hij hj; omega
  · rfl
  · have := hs.lt hij hi; omega
theorem mem_put_mono {l : List Elem} {x y : Elem} (h : y ∈ l) : y ∈ put cmpElem l x := by
  unfold put
  split
  · exact h
  · rename_i h2
    have hn := has_false.1 (by simpa using h2) y h
    simp only [List.mem_append, List.mem_cons, mem_below, mem_above]
    rcases Int.lt_trichotomy (cmpElem y x) 0 with h1 | h1 | h1
    · exact .inl ⟨h, h1⟩
    · exact absurd h1 hn
    · exact .inr (.inr ⟨h, h1⟩)
theorem mem_put_new {l : List Elem} {x : Elem} (h : has cmpElem l x = false) : x ∈ put cmpElem l x := by
  unfold put
  rw [if_neg (by simp [h])]
  simp
theorem mem_puts_mono : ∀ (xs : List Elem) {l : List Elem} {y : Elem}, y ∈ l → y ∈ puts cmpElem l xs
  | [], _, _, h => h
  | x :: xs, l, y, h => mem_puts_mono xs (l := put cmpElem l x) (mem_put_mono h)
theorem mem_put_or {l : List Elem} {x y : Elem} (h : y ∈ put cmpElem l x) : y ∈ l ∨ y = x := by
  unfold put at h
  split at h
  · exact .inl h
  · simp only [List.mem_append, List.mem_cons, mem_below, mem_above] at h
    rcases h with h | h | h
    · exact .inl h.1
    · exact .inr h
    · exact .inl h.1
theorem oneE_iff {a b : Elem} : oneE a b = true ↔ cmpElem a b = 0 := by simp [oneE]
theorem cmpElem_symm0 {a b : Elem} : cmpElem a b = 0 ↔ cmpElem b a = 0 := by
  rw [cmpElem_one, cmpElem_one]
  exact ⟨fun ⟨a, b, c, d⟩ => ⟨a.symm, b.symm, c.symm, d.symm⟩, fun ⟨a, b, c, d⟩ => ⟨a.symm, b.symm, c.symm, d.symm⟩⟩
theorem cmpElem_trans0 {a b c : Elem} (h : cmpElem a b = 0) (h' : cmpElem b c = 0) : cmpElem a c = 0 := by
  rw [cmpElem_one] at h h' ⊢
  exact ⟨h.1.trans h'.1, h.2.1.trans h'.2.1, h.2.2.1.trans h'.2.2.1, h.2.2.2.trans h'.2.2.2⟩
/-- The first of a list that is one with x is in what the puts make. -/
theorem first_mem : ∀ (xs : List Elem) {l : List Elem} {x f : Elem}, (∀ y ∈ l, oneE y x = false) → xs.find? (fun y => oneE y x) = some f → f ∈ puts cmpElem l xs
  | [], _, _, _, _, h => by simp at h
  | y :: ys, l, x, f, hl, h => by
    rw [List.find?_cons] at h
    show f ∈ puts cmpElem (put cmpElem l y) ys
    cases ho : oneE y x
    · rw [ho] at h
      exact first_mem ys (fun z hz => by
        rcases mem_put_or hz with h1 | rfl
        · exact hl z h1
        · exact ho) h
    · rw [ho] at h
      injection h with h
      subst h
      refine mem_puts_mono ys (mem_put_new (has_false.2 (fun z hz e => ?_)))
      have h2 := hl z hz
      have h3 : oneE z x = true := oneE_iff.2 (cmpElem_trans0 e (oneE_iff.1 ho))
      rw [h2] at h3; cases h3
theorem first_there {a : List Elem} {i : Nat} (hi : i < a.length) : ∃ f, a.find? (fun y => oneE y a[i]) = some f ∧ f ∈ puts cmpElem [] a ∧ oneE f a[i] = true := by
  cases h : a.find? (fun y => oneE y a[i]) with
  | none =>
    have := List.find?_eq_none.1 h a[i] (List.getElem_mem _)
    exact absurd (oneE_iff.2 (cmpElem_one.2 ⟨rfl, rfl, rfl, rfl⟩)) this
  | some f => exact ⟨f, rfl, first_mem a (fun y hy => by simp at hy) h, by have := List.find?_some h; exact this⟩
/-- What the set gives for an element of the list is the list's first that is one with it. -/
theorem first_got {a : List Elem} {i : Nat} (hi : i < a.length) {X : List Elem} (hX : X = puts cmpElem [] a) (hs : Srt cmpElem X) :
    ∃ f, a.find? (fun y => oneE y a[i]) = some f ∧ has cmpElem X a[i] = true ∧ X[rank cmpElem X a[i]]? = some f := by
  obtain ⟨f, h1, h2, h3⟩ := first_there hi
  rw [← hX] at h2
  have hh : has cmpElem X a[i] = true := has_iff.2 ⟨f, h2, oneE_iff.1 h3⟩
  refine ⟨f, h1, hh, ?_⟩
  obtain ⟨hk, _, hk2, he⟩ := drop_eq tc_elem hs hh
  rw [List.getElem?_eq_getElem hk]
  congr 1
  have e0 : cmpElem X[rank cmpElem X a[i]] f = 0 := cmpElem_trans0 he (cmpElem_symm0.1 (oneE_iff.1 h3))
  exact srt_uniq hs (List.getElem_mem _) h2 e0 (cmpElem_symm0.1 e0)
theorem put_last {l : List Elem} {x : Elem} (h : ∀ y ∈ l, cmpElem y x < 0) : put cmpElem l x = l ++ [x] := by
  have hh : has cmpElem l x = false := has_false.2 (fun y hy => by have := h y hy; omega)
  have e1 : below cmpElem l x = l := by unfold below; exact List.filter_eq_self.2 (fun y hy => by simpa using h y hy)
  have e2 : above cmpElem l x = [] := by unfold above; exact List.filter_eq_nil_iff.2 (fun y hy => by have := h y hy; simp; omega)
  unfold put
  rw [if_neg (by simp [hh]), e1, e2]
theorem puts_rest : ∀ (xs : List Elem) {l : List Elem}, Srt cmpElem (l ++ xs) → puts cmpElem l xs = l ++ xs
  | [], l, _ => by simp [puts]
  | x :: xs, l, h => by
    show puts cmpElem (put cmpElem l x) xs = _
    have h1 : ∀ y ∈ l, cmpElem y x < 0 := fun y hy => by
      unfold Srt at h
      rw [List.pairwise_append] at h
      exact h.2.2 y hy x (by simp)
    rw [put_last h1, puts_rest xs (by rw [List.append_assoc]; exact h), List.append_assoc]
    rfl
theorem puts_self {l : List Elem} (h : Srt cmpElem l) : puts cmpElem [] l = l := by rw [puts_rest l (by simpa using h)]; rfl
theorem puts_two {X Y : List Elem} (h : Srt cmpElem X) : puts cmpElem [] (X ++ Y) = puts cmpElem X Y := by
  show (X ++ Y).foldl _ _ = _
  rw [List.foldl_append]
  show puts cmpElem (puts cmpElem [] X) Y = _
  rw [puts_self h]
theorem find_has (Y : List Elem) (x : Elem) : has cmpElem Y x = (Y.find? (fun y => oneE y x)).isSome := by
  rw [Bool.eq_iff_iff, has_iff, List.find?_isSome]
  exact ⟨fun ⟨y, h1, h2⟩ => ⟨y, h1, oneE_iff.2 h2⟩, fun ⟨y, h1, h2⟩ => ⟨y, h1, oneE_iff.1 h2⟩⟩
end Go.Proofs.Ythhhhjllpejpgaa
