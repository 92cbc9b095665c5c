/-
  Plain laws of ordered lists, with no program in sight: a comparison that is an order; sorted lists; put, drop, rank; symbols and their order.
  Conditions: none beyond what each lemma names.
-/
import Derived.WalkKit
import Derived.Lib.Strings
namespace Go.Proofs.Ythhhhjllpejpgaa

/-- A comparison that is a total order (up to the things that it calls one). -/
structure TC {α : Type} (cmp : α → α → Int) : Prop where
  refl : ∀ x, cmp x x = 0
  symm : ∀ x y, cmp x y < 0 ↔ 0 < cmp y x
  trans : ∀ x y z, cmp x y ≤ 0 → cmp y z ≤ 0 → cmp x z ≤ 0

section
variable {α : Type} {cmp : α → α → Int}
theorem TC.eq_symm (h : TC cmp) {x y : α} (e : cmp x y = 0) : cmp y x = 0 := by
  have a := h.symm x y
  have b := h.symm y x
  omega
theorem TC.lt_of_lt_of_le (h : TC cmp) {x y z : α} (a : cmp x y < 0) (b : cmp y z ≤ 0) : cmp x z < 0 := by
  have c := h.symm x z
  have d := h.symm z x
  have e := h.symm x y
  have g := h.symm y x
  by_cases hz : cmp x z < 0
  · exact hz
  · have t := h.trans y z x b (by omega)
    omega
theorem TC.lt_of_le_of_lt (h : TC cmp) {x y z : α} (a : cmp x y ≤ 0) (b : cmp y z < 0) : cmp x z < 0 := by
  have c := h.symm x z
  have d := h.symm z x
  have e := h.symm y z
  have g := h.symm z y
  by_cases hz : cmp x z < 0
  · exact hz
  · have t := h.trans z x y (by omega) a
    omega
theorem TC.lt_trans (h : TC cmp) {x y z : α} (a : cmp x y < 0) (b : cmp y z < 0) : cmp x z < 0 := h.lt_of_lt_of_le a (by omega)

/-- The list rises. -/
def Srt (cmp : α → α → Int) (l : List α) : Prop := l.Pairwise (fun a b => cmp a b < 0)
def has (cmp : α → α → Int) (l : List α) (x : α) : Bool := l.any (fun y => cmp y x == 0)
def below (cmp : α → α → Int) (l : List α) (x : α) : List α := l.filter (fun y => decide (cmp y x < 0))
def above (cmp : α → α → Int) (l : List α) (x : α) : List α := l.filter (fun y => decide (0 < cmp y x))
def rank (cmp : α → α → Int) (l : List α) (x : α) : Nat := (below cmp l x).length
def put (cmp : α → α → Int) (l : List α) (x : α) : List α := if has cmp l x then l else below cmp l x ++ x :: above cmp l x
def drop (cmp : α → α → Int) (l : List α) (x : α) : List α := l.filter (fun y => !(cmp y x == 0))
def puts (cmp : α → α → Int) (l xs : List α) : List α := xs.foldl (put cmp) l

theorem has_iff {l : List α} {x : α} : has cmp l x = true ↔ ∃ y ∈ l, cmp y x = 0 := by simp [has]
theorem has_false {l : List α} {x : α} : has cmp l x = false ↔ ∀ y ∈ l, cmp y x ≠ 0 := by simp [has]

/-- WHAT A SEARCH SHOWS: all ahead of k are below x, all from k on are above: k is x's place, and x is not there. -/
theorem at_none {l : List α} {x : α} {k : Nat} (h1 : ∀ i, (h : i < l.length) → i < k → cmp l[i] x < 0) (h2 : ∀ i, (h : i < l.length) → k ≤ i → 0 < cmp l[i] x) :
    below cmp l x = l.take k ∧ above cmp l x = l.drop k ∧ has cmp l x = false := by
  have e1 : ∀ y ∈ l.take k, cmp y x < 0 := by
    intro y hy
    obtain ⟨i, hi, rfl⟩ := List.getElem_of_mem hy
    rw [List.getElem_take]
    simp at hi
    exact h1 i (by omega) (by omega)
  have e2 : ∀ y ∈ l.drop k, 0 < cmp y x := by
    intro y hy
    obtain ⟨i, hi, rfl⟩ := List.getElem_of_mem hy
    rw [List.getElem_drop]
    simp at hi
    exact h2 (k + i) (by omega) (by omega)
  refine ⟨?_, ?_, ?_⟩
  · unfold below
    conv => lhs; rw [← List.take_append_drop k l]
    rw [List.filter_append, List.filter_eq_self.2 (fun y hy => by simpa using e1 y hy), List.filter_eq_nil_iff.2 (fun y hy => by have := e2 y hy; simp; omega), List.append_nil]
  · unfold above
    conv => lhs; rw [← List.take_append_drop k l]
    rw [List.filter_append, (List.filter_eq_self (l := l.drop k)).2 (fun y hy => by simpa using e2 y hy), List.filter_eq_nil_iff.2 (fun y hy => by have := e1 y hy; simp; omega), List.nil_append]
  · rw [has_false]
    intro y hy
    rw [← List.take_append_drop k l] at hy
    rcases List.mem_append.1 hy with hy | hy
    · have := e1 y hy; omega
    · have := e2 y hy; omega

theorem Srt.lt {l : List α} (h : Srt cmp l) {i j : Nat} (hij : i < j) (hj : j < l.length) : cmp (l[i]'(by omega)) l[j] < 0 :=
  List.pairwise_iff_getElem.1 h i j (by omega) hj hij
/-- It was found at k. -/
theorem at_some (t : TC cmp) {l : List α} (hs : Srt cmp l) {x : α} {k : Nat} (hk : k < l.length) (e : cmp l[k] x = 0) :
    below cmp l x = l.take k ∧ above cmp l x = l.drop (k + 1) ∧ has cmp l x = true ∧ drop cmp l x = l.take k ++ l.drop (k + 1) := by
  have e1 : ∀ y ∈ l.take k, cmp y x < 0 := by
    intro y hy
    obtain ⟨i, hi, rfl⟩ := List.getElem_of_mem hy
    rw [List.getElem_take]
    simp at hi
    exact t.lt_of_lt_of_le (hs.lt (by omega) hk) (by omega)
  have e2 : ∀ y ∈ l.drop (k + 1), 0 < cmp y x := by
    intro y hy
    obtain ⟨i, hi, rfl⟩ := List.getElem_of_mem hy
    rw [List.getElem_drop]
    simp at hi
    have h1 : cmp x (l[k + 1 + i]'(by omega)) < 0 := t.lt_of_le_of_lt (y := l[k]) (by have := t.eq_symm e; omega) (hs.lt (by omega) (by omega))
    exact (t.symm _ _).1 h1
  have hl : l = l.take k ++ l[k] :: l.drop (k + 1) := by
    rw [List.getElem_cons_drop, List.take_append_drop]
  refine ⟨?_, ?_, ?_, ?_⟩
  · unfold below
    conv => lhs; rw [hl]
    rw [List.filter_append, List.filter_cons, List.filter_eq_self.2 (fun y hy => by simpa using e1 y hy), List.filter_eq_nil_iff.2 (fun y hy => by have := e2 y hy; simp; omega)]
    simp [e]
  · unfold above
    conv => lhs; rw [hl]
    rw [List.filter_append, List.filter_cons, List.filter_eq_nil_iff.2 (fun y hy => by have := e1 y hy; simp; omega), (List.filter_eq_self (l := l.drop (k + 1))).2 (fun y hy => by simpa using e2 y hy)]
    simp [e]
  · rw [has_iff]; exact ⟨_, List.getElem_mem hk, e⟩
  · unfold drop
    conv => lhs; rw [hl]
    rw [List.filter_append, List.filter_cons, List.filter_eq_self.2 (fun y hy => by have := e1 y hy; simp; omega), (List.filter_eq_self (l := l.drop (k + 1))).2 (fun y hy => by have := e2 y hy; simp; omega)]
    simp [e]
theorem rank_none {l : List α} {x : α} {k : Nat} (hk : k ≤ l.length) (h1 : ∀ i, (h : i < l.length) → i < k → cmp l[i] x < 0) (h2 : ∀ i, (h : i < l.length) → k ≤ i → 0 < cmp l[i] x) : rank cmp l x = k := by
  unfold rank; rw [(at_none h1 h2).1]; simp; omega
theorem rank_some (t : TC cmp) {l : List α} (hs : Srt cmp l) {x : α} {k : Nat} (hk : k < l.length) (e : cmp l[k] x = 0) : rank cmp l x = k := by
  unfold rank; rw [(at_some t hs hk e).1]; simp; omega

/-- Each sorted list falls into what is below x, what is one with it, what is above. -/
theorem place (t : TC cmp) {l : List α} (hs : Srt cmp l) (x : α) :
    (has cmp l x = false ∧ l = below cmp l x ++ above cmp l x) ∨ (∃ y, has cmp l x = true ∧ cmp y x = 0 ∧ l = below cmp l x ++ y :: above cmp l x) := by
  induction l with
  | nil => exact .inl ⟨rfl, rfl⟩
  | cons a r ih =>
    have hr : Srt cmp r := (List.pairwise_cons.1 hs).2
    have ha : ∀ y ∈ r, cmp a y < 0 := (List.pairwise_cons.1 hs).1
    by_cases h1 : cmp a x < 0
    · rcases ih hr with ⟨h2, h3⟩ | ⟨y, h2, h3, h4⟩
      · left
        refine ⟨?_, ?_⟩
        · simp only [has, List.any_cons, Bool.or_eq_false_iff]; exact ⟨by simp; omega, h2⟩
        · have e1 : below cmp (a :: r) x = a :: below cmp r x := by simp [below, h1]
          have e2 : above cmp (a :: r) x = above cmp r x := by unfold above; rw [List.filter_cons, if_neg (by simp; omega)]
          rw [e1, e2, List.cons_append, ← h3]
      · right
        refine ⟨y, ?_, h3, ?_⟩
        · simp only [has, List.any_cons, Bool.or_eq_true]; exact .inr h2
        · have e1 : below cmp (a :: r) x = a :: below cmp r x := by simp [below, h1]
          have e2 : above cmp (a :: r) x = above cmp r x := by unfold above; rw [List.filter_cons, if_neg (by simp; omega)]
          rw [e1, e2, List.cons_append, ← h4]
    · have hall : ∀ y ∈ r, 0 < cmp y x := fun y hy => (t.symm x y).1 (t.lt_of_le_of_lt (y := a) (by have := t.symm a x; have := t.symm x a; omega) (ha y hy))
      have b0 : below cmp r x = [] := List.filter_eq_nil_iff.2 (fun y hy => by have := hall y hy; simp; omega)
      have a0 : above cmp r x = r := List.filter_eq_self.2 (fun y hy => by simpa using hall y hy)
      have n0 : has cmp r x = false := has_false.2 (fun y hy => by have := hall y hy; omega)
      have e1 : below cmp (a :: r) x = [] := by unfold below; rw [List.filter_cons, if_neg (by simpa using h1)]; exact b0
      by_cases h2 : cmp a x = 0
      · right
        refine ⟨a, has_iff.2 ⟨a, by simp, h2⟩, h2, ?_⟩
        have e2 : above cmp (a :: r) x = r := by unfold above; rw [List.filter_cons, if_neg (by simp; omega)]; exact a0
        rw [e1, e2]; rfl
      · left
        refine ⟨?_, ?_⟩
        · simp only [has, List.any_cons, Bool.or_eq_false_iff]; exact ⟨by simpa using h2, n0⟩
        · have e2 : above cmp (a :: r) x = a :: r := by unfold above; rw [List.filter_cons, if_pos (by simp; omega)]; exact congrArg _ a0
          rw [e1, e2]; rfl

theorem mem_below {l : List α} {x y : α} : y ∈ below cmp l x ↔ y ∈ l ∧ cmp y x < 0 := by simp [below]
theorem mem_above {l : List α} {x y : α} : y ∈ above cmp l x ↔ y ∈ l ∧ 0 < cmp y x := by simp [above]
theorem mem_drop {l : List α} {x y : α} : y ∈ drop cmp l x ↔ y ∈ l ∧ cmp y x ≠ 0 := by simp [drop]
theorem Srt.put (t : TC cmp) {l : List α} (hs : Srt cmp l) (x : α) : Srt cmp (put cmp l x) := by
  unfold Ythhhhjllpejpgaa.put
  split
  · exact hs
  · refine List.pairwise_append.2 ⟨hs.sublist List.filter_sublist, List.pairwise_cons.2 ⟨fun y hy => ?_, hs.sublist List.filter_sublist⟩, fun y hy z hz => ?_⟩
    · exact (t.symm x y).2 (mem_above.1 hy).2
    · rcases List.mem_cons.1 hz with rfl | hz
      · exact (mem_below.1 hy).2
      · exact t.lt_trans (mem_below.1 hy).2 ((t.symm x z).2 (mem_above.1 hz).2)
theorem Srt.drop {l : List α} (hs : Srt cmp l) (x : α) : Srt cmp (drop cmp l x) := hs.sublist List.filter_sublist
theorem Srt.nil : Srt cmp ([] : List α) := List.Pairwise.nil
theorem Srt.puts (t : TC cmp) : ∀ (xs : List α) {l : List α}, Srt cmp l → Srt cmp (puts cmp l xs)
  | [], _, h => h
  | x :: xs, _, h => Srt.puts t xs (h.put t x)
theorem puts_snoc (l xs : List α) (x : α) : puts cmp l (xs ++ [x]) = put cmp (puts cmp l xs) x := by simp [puts]
theorem length_below_above {l : List α} {x : α} (t : TC cmp) (hs : Srt cmp l) (h : has cmp l x = false) : (below cmp l x).length + (above cmp l x).length = l.length := by
  rcases place t hs x with ⟨_, e⟩ | ⟨y, h', _⟩
  · conv => rhs; rw [e]
    simp
  · rw [h] at h'; cases h'
theorem length_put_le (t : TC cmp) {l : List α} (hs : Srt cmp l) (x : α) : (put cmp l x).length ≤ l.length + 1 := by
  unfold Ythhhhjllpejpgaa.put
  by_cases h : has cmp l x = true
  · rw [if_pos h]; omega
  · rw [if_neg h]
    have := length_below_above t hs (x := x) (by simpa using h)
    simp; omega
theorem length_puts_le (t : TC cmp) : ∀ (xs : List α) {l : List α}, Srt cmp l → (puts cmp l xs).length ≤ l.length + xs.length
  | [], _, _ => by simp [puts]
  | x :: xs, l, h => by
    have h1 := length_puts_le t xs (h.put t x)
    have h2 := length_put_le t h x
    have e : puts cmp l (x :: xs) = puts cmp (put cmp l x) xs := rfl
    rw [e]; simp; omega
theorem length_drop_le (l : List α) (x : α) : (drop cmp l x).length ≤ l.length := List.length_filter_le _ _
theorem drop_self {l : List α} {x : α} (h : has cmp l x = false) : drop cmp l x = l := by
  unfold Ythhhhjllpejpgaa.drop
  exact List.filter_eq_self.2 (fun y hy => by simpa using has_false.1 h y hy)
theorem rank_le (l : List α) (x : α) : rank cmp l x ≤ l.length := List.length_filter_le _ _
theorem take_of_app {l B A : List α} (e : l = B ++ A) : l.take B.length = B := by subst e; simp
theorem drop_of_app {l B A : List α} (e : l = B ++ A) : l.drop B.length = A := by subst e; simp
theorem get_of_app {l B A : List α} {y : α} (e : l = B ++ y :: A) : l[B.length]? = some y := by subst e; simp
theorem put_eq (t : TC cmp) {l : List α} (hs : Srt cmp l) {x : α} (h : has cmp l x = false) : put cmp l x = l.take (rank cmp l x) ++ x :: l.drop (rank cmp l x) := by
  rcases place t hs x with ⟨_, e⟩ | ⟨y, h', _⟩
  · have e1 : l.take (rank cmp l x) = below cmp l x := take_of_app e
    have e2 : l.drop (rank cmp l x) = above cmp l x := drop_of_app e
    rw [e1, e2]
    unfold Ythhhhjllpejpgaa.put
    rw [if_neg (by rw [h]; simp)]
  · rw [h] at h'; cases h'
theorem put_has {l : List α} {x : α} (h : has cmp l x = true) : put cmp l x = l := by unfold Ythhhhjllpejpgaa.put; rw [if_pos h]
theorem length_put (t : TC cmp) {l : List α} (hs : Srt cmp l) {x : α} (h : has cmp l x = false) : (put cmp l x).length = l.length + 1 := by
  rw [put_eq t hs h]
  have := rank_le (cmp := cmp) l x
  simp; omega
theorem drop_eq (t : TC cmp) {l : List α} (hs : Srt cmp l) {x : α} (h : has cmp l x = true) : rank cmp l x < l.length ∧ drop cmp l x = l.take (rank cmp l x) ++ l.drop (rank cmp l x + 1) ∧ ∃ hk : rank cmp l x < l.length, cmp l[rank cmp l x] x = 0 := by
  rcases place t hs x with ⟨h', _⟩ | ⟨y, _, ey, e⟩
  · rw [h] at h'; cases h'
  · have hk : rank cmp l x < l.length := by
      have h2 : l[rank cmp l x]? = some y := get_of_app e
      exact (List.getElem?_eq_some_iff.1 h2).1
    have hy : l[rank cmp l x] = y := by
      have h1 : l[rank cmp l x]? = some y := get_of_app e
      rw [List.getElem?_eq_getElem hk] at h1
      exact Option.some.inj h1
    have e0 : cmp l[rank cmp l x] x = 0 := by rw [hy]; exact ey
    exact ⟨hk, (at_some t hs hk e0).2.2.2, hk, e0⟩

/-- What a set's list looks like while a place is made for x: all from i on have moved up by one. -/
def shiftAt (l : List α) (x : α) (i : Nat) : List α := l.take i ++ (l ++ [x]).getD i x :: l.drop i
theorem shiftAt_length (l : List α) (x : α) {i : Nat} (h : i ≤ l.length) : (shiftAt l x i).length = l.length + 1 := by simp [shiftAt]; omega
theorem shiftAt_start (l : List α) (x : α) : shiftAt l x l.length = l ++ [x] := by simp [shiftAt]
theorem shiftAt_read (l : List α) (x : α) {j : Nat} (h : j < l.length) (h' : j < (shiftAt l x (j + 1)).length) : (shiftAt l x (j + 1))[j] = l[j] := by
  apply Option.some.inj
  rw [← List.getElem?_eq_getElem]
  unfold shiftAt
  rw [List.getElem?_append_left (by simp; omega)]
  simp [h]
theorem shiftAt_step (l : List α) (x : α) {j : Nat} (h : j < l.length) : (shiftAt l x (j + 1)).set (j + 1) l[j] = shiftAt l x j := by
  unfold shiftAt
  rw [List.set_append_right _ _ (by simp; omega)]
  have e : (j + 1 - (l.take (j + 1)).length) = 0 := by simp; omega
  rw [e, List.set_cons_zero, List.take_succ_eq_append_getElem h, List.append_assoc]
  have e2 : (l ++ [x]).getD j x = l[j] := by rw [List.getD_eq_getElem?_getD, List.getElem?_append_left h, List.getElem?_eq_getElem h]; rfl
  rw [e2, ← List.getElem_cons_drop h]
  rfl
theorem shiftAt_end (l : List α) (x : α) {k : Nat} (h : k ≤ l.length) : (shiftAt l x k).set k x = l.take k ++ x :: l.drop k := by
  unfold shiftAt
  rw [List.set_append_right _ _ (by simp; omega)]
  have e : (k - (l.take k).length) = 0 := by simp; omega
  rw [e, List.set_cons_zero]
/-- .. and while x is taken out: all ahead of i, from k on, have moved down by one. -/
def downAt (l : List α) (k i : Nat) : List α := l.take k ++ (l.drop (k + 1)).take (i - k) ++ l.drop i
theorem downAt_length (l : List α) {k i : Nat} (h : k ≤ i) (h' : i < l.length) : (downAt l k i).length = l.length := by simp [downAt]; omega
theorem downAt_start (l : List α) (k : Nat) : downAt l k k = l := by simp [downAt]
theorem downAt_read (l : List α) {k i : Nat} (h : k ≤ i) (h' : i + 1 < l.length) (h2 : i + 1 < (downAt l k i).length) : (downAt l k i)[i + 1] = l[i + 1] := by
  apply Option.some.inj
  rw [← List.getElem?_eq_getElem, ← List.getElem?_eq_getElem]
  unfold downAt
  rw [List.getElem?_append_right (by simp; omega), List.getElem?_drop]
  congr 1
  simp; omega
theorem downAt_step (l : List α) {k i : Nat} (h : k ≤ i) (h' : i + 1 < l.length) : (downAt l k i).set i l[i + 1] = downAt l k (i + 1) := by
  apply List.ext_getElem?
  intro j
  have len : (downAt l k i).length = l.length := downAt_length l h (by omega)
  by_cases e : j = i
  · subst e
    rw [List.getElem?_set_self (by omega)]
    unfold downAt
    rw [List.getElem?_append_left (by simp; omega), List.getElem?_append_right (by simp; omega), List.getElem?_take, List.getElem?_drop]
    rw [if_pos (by simp; omega)]
    have : k + 1 + (j - (l.take k).length) = j + 1 := by simp; omega
    rw [this, List.getElem?_eq_getElem h']
  · rw [List.getElem?_set_ne (fun h => e h.symm)]
    unfold downAt
    by_cases h1 : j < k
    · rw [List.append_assoc, List.append_assoc, List.getElem?_append_left (by simp; omega), List.getElem?_append_left (by simp; omega)]
    · by_cases h2 : j < i
      · rw [List.getElem?_append_left (by simp; omega), List.getElem?_append_right (by simp; omega), List.getElem?_append_left (by simp; omega), List.getElem?_append_right (by simp; omega)]
        rw [List.getElem?_take, List.getElem?_take, if_pos (by simp; omega), if_pos (by simp; omega)]
      · rw [List.getElem?_append_right (by simp; omega), List.getElem?_append_right (by simp; omega), List.getElem?_drop, List.getElem?_drop]
        congr 1
        simp; omega
theorem downAt_end (l : List α) {k : Nat} (h : k < l.length) : (downAt l k (l.length - 1)).take (l.length - 1) = l.take k ++ l.drop (k + 1) := by
  unfold downAt
  have e : (l.take k ++ (l.drop (k + 1)).take (l.length - 1 - k)).length = l.length - 1 := by simp; omega
  have e2 : (l.drop (k + 1)).take (l.length - 1 - k) = l.drop (k + 1) := List.take_of_length_le (by simp; omega)
  rw [List.take_append_of_le_length (by omega), List.take_of_length_le (by omega), e2]
end

/-! ### numbers, texts, symbols -/
def cmpInt (a b : Int) : Int := if a < b then -1 else if b < a then 1 else 0
theorem tc_int : TC cmpInt := by
  constructor
  · intro x; simp [cmpInt]
  · intro x y; simp only [cmpInt]; split <;> split <;> simp <;> (try split) <;> omega
  · intro x y z; simp only [cmpInt]; intro h1 h2; split at h1 <;> split at h2 <;> (try split at h1) <;> (try split at h2) <;> split <;> (try split) <;> omega
theorem cmpInt_eq {a b : Int} : cmpInt a b = 0 ↔ a = b := by simp only [cmpInt]; split <;> (try split) <;> omega

theorem bytesLess_irrefl : ∀ x : List UInt8, Op.bytesLess x x = false
  | [] => rfl
  | a :: x => by simp [Op.bytesLess, bytesLess_irrefl x]
theorem bytesLess_trans : ∀ {x y z : List UInt8}, Op.bytesLess x y = true → Op.bytesLess y z = true → Op.bytesLess x z = true
  | _, [], _, h, _ => by simp [Op.bytesLess] at h
  | _, _ :: _, [], _, h => by simp [Op.bytesLess] at h
  | [], _ :: _, _ :: _, _, _ => by simp [Op.bytesLess]
  | a :: x, b :: y, c :: z, h1, h2 => by
    simp only [Op.bytesLess, Bool.or_eq_true, Bool.and_eq_true, decide_eq_true_eq, beq_iff_eq] at h1 h2 ⊢
    rcases h1 with h1 | ⟨rfl, h1⟩
    · rcases h2 with h2 | ⟨rfl, h2⟩
      · exact .inl (UInt8.lt_trans h1 h2)
      · exact .inl h1
    · rcases h2 with h2 | ⟨rfl, h2⟩
      · exact .inl h2
      · exact .inr ⟨rfl, bytesLess_trans h1 h2⟩
theorem bytesLess_total : ∀ (x y : List UInt8), Op.bytesLess x y = false → Op.bytesLess y x = false → x = y
  | [], [], _, _ => rfl
  | [], _ :: _, h, _ => by simp [Op.bytesLess] at h
  | _ :: _, [], _, h => by simp [Op.bytesLess] at h
  | a :: x, b :: y, h1, h2 => by
    simp only [Op.bytesLess, Bool.or_eq_false_iff, decide_eq_false_iff_not, Bool.and_eq_false_iff, beq_eq_false_iff_ne] at h1 h2
    obtain ⟨h1, h3⟩ := h1
    obtain ⟨h2, h4⟩ := h2
    have e : a = b := by
      apply UInt8.toNat_inj.1
      simp only [UInt8.lt_iff_toNat_lt] at h1 h2
      omega
    subst e
    rw [bytesLess_total x y (h3.resolve_left (fun h => h rfl)) (h4.resolve_left (fun h => h rfl))]
theorem bytesLess_asymm {x y : List UInt8} (h : Op.bytesLess x y = true) : Op.bytesLess y x = false := by
  cases e : Op.bytesLess y x
  · rfl
  · have := bytesLess_trans h e; rw [bytesLess_irrefl] at this; cases this
def cmpStr (a b : ByteArray) : Int := if Op.bytesLess a.toList b.toList = true then -1 else if a.toList = b.toList then 0 else 1
theorem tc_str : TC cmpStr := by
  have key : ∀ a b : ByteArray, (cmpStr a b = -1 ∧ Op.bytesLess a.toList b.toList = true ∧ Op.bytesLess b.toList a.toList = false ∧ a.toList ≠ b.toList) ∨
      (cmpStr a b = 0 ∧ Op.bytesLess a.toList b.toList = false ∧ Op.bytesLess b.toList a.toList = false ∧ a.toList = b.toList) ∨
      (cmpStr a b = 1 ∧ Op.bytesLess a.toList b.toList = false ∧ Op.bytesLess b.toList a.toList = true ∧ a.toList ≠ b.toList) := by
    intro a b
    unfold cmpStr
    cases h1 : Op.bytesLess a.toList b.toList
    · cases h2 : Op.bytesLess b.toList a.toList
      · have e := bytesLess_total _ _ h1 h2
        simp [e]
      · have hne : a.toList ≠ b.toList := fun e => by rw [e, bytesLess_irrefl] at h2; cases h2
        simp [hne]
    · have h2 := bytesLess_asymm h1
      have hne : a.toList ≠ b.toList := fun e => by rw [e, bytesLess_irrefl] at h1; cases h1
      simp [h2, hne]
  constructor
  · intro x; simp [cmpStr, bytesLess_irrefl]
  · intro x y
    rcases key x y with ⟨e, a, b, c⟩ | ⟨e, a, b, c⟩ | ⟨e, a, b, c⟩ <;> rcases key y x with ⟨e', a', b', c'⟩ | ⟨e', a', b', c'⟩ | ⟨e', a', b', c'⟩ <;> rw [e, e'] <;> simp_all
  · intro x y z h1 h2
    rcases key x y with ⟨e, a, b, c⟩ | ⟨e, a, b, c⟩ | ⟨e, a, b, c⟩ <;> rcases key y z with ⟨e', a', b', c'⟩ | ⟨e', a', b', c'⟩ | ⟨e', a', b', c'⟩ <;> rw [e] at h1 <;> rw [e'] at h2 <;> (try omega)
    · have := bytesLess_trans a a'; unfold cmpStr; rw [if_pos this]; omega
    · rw [c'] at a; unfold cmpStr; rw [if_pos a]; omega
    · rw [← c] at a'; unfold cmpStr; rw [if_pos a']; omega
    · unfold cmpStr; rw [c, c', if_neg (by rw [bytesLess_irrefl]; simp), if_pos rfl]; omega
theorem toList_inj {a b : ByteArray} (h : a.toList = b.toList) : a = b := by
  have e : ∀ x : ByteArray, x.toList = x.data.toList := Lib.toList_data
  rw [e, e] at h
  cases a; cases b
  simp only [ByteArray.mk.injEq]
  exact Array.toList_inj.1 h
theorem cmpStr_eq {a b : ByteArray} : cmpStr a b = 0 ↔ a = b := by
  constructor
  · intro h
    unfold cmpStr at h
    split at h
    · omega
    · split at h
      · exact toList_inj ‹_›
      · omega
  · rintro rfl; simp [cmpStr, bytesLess_irrefl]

/-- Two comparisons, one behind the other. -/
def andThen (a b : Int) : Int := if a = 0 then b else a
theorem tc_andThen {α β γ : Type} {f : α → β} {g : α → γ} {c1 : β → β → Int} {c2 : γ → γ → Int} (h1 : TC c1) (h2 : TC c2) : TC (fun x y => andThen (c1 (f x) (f y)) (c2 (g x) (g y))) := by
  constructor
  · intro x; simp [andThen, h1.refl, h2.refl]
  · intro x y
    have a := h1.symm (f x) (f y)
    have b := h1.symm (f y) (f x)
    have c := h2.symm (g x) (g y)
    simp only [andThen]
    split <;> split <;> omega
  · intro x y z e1 e2
    simp only [andThen] at e1 e2 ⊢
    by_cases p : c1 (f x) (f y) = 0
    · rw [if_pos p] at e1
      by_cases q : c1 (f y) (f z) = 0
      · rw [if_pos q] at e2
        have r : c1 (f x) (f z) = 0 := by
          have r1 := h1.trans (f x) (f y) (f z) (by omega) (by omega)
          have r2 := h1.trans (f z) (f y) (f x) (by have := h1.eq_symm q; omega) (by have := h1.eq_symm p; omega)
          have a := h1.symm (f x) (f z)
          have b := h1.symm (f z) (f x)
          omega
        rw [if_pos r]
        exact h2.trans _ _ _ e1 e2
      · rw [if_neg q] at e2
        have := h1.lt_of_le_of_lt (x := f x) (y := f y) (z := f z) (by omega) (by omega)
        rw [if_neg (by omega)]; omega
    · rw [if_neg p] at e1
      have hq : c1 (f y) (f z) ≤ 0 := by
        by_cases q : c1 (f y) (f z) = 0
        · omega
        · rw [if_neg q] at e2; exact e2
      have := h1.lt_of_lt_of_le (x := f x) (y := f y) (z := f z) (by omega) hq
      rw [if_neg (by omega)]; omega

structure Sym where
  kind : Int
  text : ByteArray
  n : Int
theorem Sym.ext' {a b : Sym} (h1 : a.kind = b.kind) (h2 : a.text = b.text) (h3 : a.n = b.n) : a = b := by cases a; cases b; simp_all
instance : DecidableEq Sym := fun a b => decidable_of_iff (a.kind = b.kind ∧ a.text = b.text ∧ a.n = b.n) ⟨fun ⟨h1, h2, h3⟩ => Sym.ext' h1 h2 h3, fun h => by subst h; exact ⟨rfl, rfl, rfl⟩⟩
instance : Inhabited Sym := ⟨⟨0, ⟨#[]⟩, 0⟩⟩
def cmpSym (a b : Sym) : Int := andThen (cmpInt a.kind b.kind) (andThen (cmpStr a.text b.text) (cmpInt a.n b.n))
theorem tc_sym : TC cmpSym := tc_andThen (f := Sym.kind) (g := fun s : Sym => (s.text, s.n)) (c2 := fun x y => andThen (cmpStr x.1 y.1) (cmpInt x.2 y.2)) tc_int
  (tc_andThen (f := fun x : ByteArray × Int => x.1) (g := fun x : ByteArray × Int => x.2) tc_str tc_int)
theorem cmpSym_eq {a b : Sym} : cmpSym a b = 0 ↔ a = b := by
  constructor
  · intro h
    simp only [cmpSym, andThen] at h
    split at h
    · split at h
      · exact Sym.ext' (cmpInt_eq.1 ‹_›) (cmpStr_eq.1 ‹_›) (cmpInt_eq.1 h)
      · exact absurd h ‹_›
    · exact absurd h ‹_›
  · rintro rfl; exact tc_sym.refl _
end Go.Proofs.Ythhhhjllpejpgaa
