/-
  Texts put together: Plain, SetLeaf, RowSym, Types, Own, RangeP, RangeO.
-/
import Derived.WalkKit
import Derived.Lib.Strings
import Derived.Test.YtnfgilbaglfkeaaRows
import Derived.Test.YtnfgilbaglfkeaaBa
namespace Go.Proofs.Ytnfgilbaglfkeaa
structure TC {α : Type} (cmp : α → α → Int) : Prop where
 refl : ∀ x, cmp x x = 0
 symm : ∀ x y, cmp x y < 0 ↔ 0 < cmp y x
 trans : ∀ x y z, cmp x y ≤ 0 → cmp y z ≤ 0 → cmp x z ≤ 0
section
variable {α : Type} {cmp : α → α → Int}
theorem TC.eq_symm (h : TC cmp) {x y : α} (e : cmp x y = 0) : cmp y x = 0 := by
 have a := h.symm x y
 have b := h.symm y x
 omega
theorem TC.lt_of_lt_of_le (h : TC cmp) {x y z : α} (a : cmp x y < 0) (b : cmp y z ≤ 0) : cmp x z < 0 := by
 have c := h.symm x z
 have d := h.symm z x
 have e := h.symm x y
 have g := h.symm y x
 by_cases hz : cmp x z < 0
 · exact hz
 · have t := h.trans y z x b (by omega)
   omega
theorem TC.lt_of_le_of_lt (h : TC cmp) {x y z : α} (a : cmp x y ≤ 0) (b : cmp y z < 0) : cmp x z < 0 := by
 have c := h.symm x z
 have d := h.symm z x
 have e := h.symm y z
 have g := h.symm z y
 by_cases hz : cmp x z < 0
 · exact hz
 · have t := h.trans z x y (by omega) a
   omega
theorem TC.lt_trans (h : TC cmp) {x y z : α} (a : cmp x y < 0) (b : cmp y z < 0) : cmp x z < 0 := h.lt_of_lt_of_le a (by omega)
def Srt (cmp : α → α → Int) (l : List α) : Prop := l.Pairwise (fun a b => cmp a b < 0)
def has (cmp : α → α → Int) (l : List α) (x : α) : Bool := l.any (fun y => cmp y x == 0)
def below (cmp : α → α → Int) (l : List α) (x : α) : List α := l.filter (fun y => decide (cmp y x < 0))
def above (cmp : α → α → Int) (l : List α) (x : α) : List α := l.filter (fun y => decide (0 < cmp y x))
def rank (cmp : α → α → Int) (l : List α) (x : α) : Nat := (below cmp l x).length
def put (cmp : α → α → Int) (l : List α) (x : α) : List α := if has cmp l x then l else below cmp l x ++ x :: above cmp l x
def drop (cmp : α → α → Int) (l : List α) (x : α) : List α := l.filter (fun y => !(cmp y x == 0))
def puts (cmp : α → α → Int) (l xs : List α) : List α := xs.foldl (put cmp) l
theorem has_iff {l : List α} {x : α} : has cmp l x = true ↔ ∃ y ∈ l, cmp y x = 0 := by simp [has]
theorem has_false {l : List α} {x : α} : has cmp l x = false ↔ ∀ y ∈ l, cmp y x ≠ 0 := by simp [has]
theorem at_none {l : List α} {x : α} {k : Nat} (h1 : ∀ i, (h : i < l.length) → i < k → cmp l[i] x < 0) (h2 : ∀ i, (h : i < l.length) → k ≤ i → 0 < cmp l[i] x) :
 below cmp l x = l.take k ∧ above cmp l x = l.drop k ∧ has cmp l x = false := by
 have e1 : ∀ y ∈ l.take k, cmp y x < 0 := by
  intro y hy
  obtain ⟨i, hi, rfl⟩ := List.getElem_of_mem hy
  rw [List.getElem_take]
  simp at hi
  exact h1 i (by omega) (by omega)
 have e2 : ∀ y ∈ l.drop k, 0 < cmp y x := by
  intro y hy
  obtain ⟨i, hi, rfl⟩ := List.getElem_of_mem hy
  rw [List.getElem_drop]
  simp at hi
  exact h2 (k + i) (by omega) (by omega)
 refine ⟨?_, ?_, ?_⟩
 · unfold below
   conv => lhs; rw [← List.take_append_drop k l]
   rw [List.filter_append, List.filter_eq_self.2 (fun y hy => by simpa using e1 y hy), List.filter_eq_nil_iff.2 (fun y hy => by have := e2 y hy; simp; omega), List.append_nil]
 · unfold above
   conv => lhs; rw [← List.take_append_drop k l]
   rw [List.filter_append, (List.filter_eq_self (l := l.drop k)).2 (fun y hy => by simpa using e2 y hy), List.filter_eq_nil_iff.2 (fun y hy => by have := e1 y hy; simp; omega), List.nil_append]
 · rw [has_false]
   intro y hy
   rw [← List.take_append_drop k l] at hy
   rcases List.mem_append.1 hy with hy | hy
   · have := e1 y hy; omega
   · have := e2 y hy; omega
theorem Srt.lt {l : List α} (h : Srt cmp l) {i j : Nat} (hij : i < j) (hj : j < l.length) : cmp (l[i]'(by omega)) l[j] < 0 :=
 List.pairwise_iff_getElem.1 h i j (by omega) hj hij
theorem at_some (t : TC cmp) {l : List α} (hs : Srt cmp l) {x : α} {k : Nat} (hk : k < l.length) (e : cmp l[k] x = 0) :
 below cmp l x = l.take k ∧ above cmp l x = l.drop (k + 1) ∧ has cmp l x = true ∧ drop cmp l x = l.take k ++ l.drop (k + 1) := by
 have e1 : ∀ y ∈ l.take k, cmp y x < 0 := by
  intro y hy
  obtain ⟨i, hi, rfl⟩ := List.getElem_of_mem hy
  rw [List.getElem_take]
  simp at hi
  exact t.lt_of_lt_of_le (hs.lt (by omega) hk) (by omega)
 have e2 : ∀ y ∈ l.drop (k + 1), 0 < cmp y x := by
  intro y hy
  obtain ⟨i, hi, rfl⟩ := List.getElem_of_mem hy
  rw [List.getElem_drop]
  simp at hi
  have h1 : cmp x (l[k + 1 + i]'(by omega)) < 0 := t.lt_of_le_of_lt (y := l[k]) (by have := t.eq_symm e; omega) (hs.lt (by omega) (by omega))
  exact (t.symm _ _).1 h1
 have hl : l = l.take k ++ l[k] :: l.drop (k + 1) := by
  rw [List.getElem_cons_drop, List.take_append_drop]
 refine ⟨?_, ?_, ?_, ?_⟩
 · unfold below
   conv => lhs; rw [hl]
   rw [List.filter_append, List.filter_cons, List.filter_eq_self.2 (fun y hy => by simpa using e1 y hy), List.filter_eq_nil_iff.2 (fun y hy => by have := e2 y hy; simp; omega)]
   simp [e]
 · unfold above
   conv => lhs; rw [hl]
   rw [List.filter_append, List.filter_cons, List.filter_eq_nil_iff.2 (fun y hy => by have := e1 y hy; simp; omega), (List.filter_eq_self (l := l.drop (k + 1))).2 (fun y hy => by simpa using e2 y hy)]
   simp [e]
 · rw [has_iff]; exact ⟨_, List.getElem_mem hk, e⟩
 · unfold drop
   conv => lhs; rw [hl]
   rw [List.filter_append, List.filter_cons, List.filter_eq_self.2 (fun y hy => by have := e1 y hy; simp; omega), (List.filter_eq_self (l := l.drop (k + 1))).2 (fun y hy => by have := e2 y hy; simp; omega)]
   simp [e]
theorem rank_none {l : List α} {x : α} {k : Nat} (hk : k ≤ l.length) (h1 : ∀ i, (h : i < l.length) → i < k → cmp l[i] x < 0) (h2 : ∀ i, (h : i < l.length) → k ≤ i → 0 < cmp l[i] x) : rank cmp l x = k := by
 unfold rank; rw [(at_none h1 h2).1]; simp; omega
theorem rank_some (t : TC cmp) {l : List α} (hs : Srt cmp l) {x : α} {k : Nat} (hk : k < l.length) (e : cmp l[k] x = 0) : rank cmp l x = k := by
 unfold rank; rw [(at_some t hs hk e).1]; simp; omega
theorem place (t : TC cmp) {l : List α} (hs : Srt cmp l) (x : α) :
 (has cmp l x = false ∧ l = below cmp l x ++ above cmp l x) ∨ (∃ y, has cmp l x = true ∧ cmp y x = 0 ∧ l = below cmp l x ++ y :: above cmp l x) := by
 induction l with
 | nil => exact .inl ⟨rfl, rfl⟩
 | cons a r ih =>
   have hr : Srt cmp r := (List.pairwise_cons.1 hs).2
   have ha : ∀ y ∈ r, cmp a y < 0 := (List.pairwise_cons.1 hs).1
   by_cases h1 : cmp a x < 0
   · rcases ih hr with ⟨h2, h3⟩ | ⟨y, h2, h3, h4⟩
     · left
       refine ⟨?_, ?_⟩
       · simp only [has, List.any_cons, Bool.or_eq_false_iff]; exact ⟨by simp; omega, h2⟩
       · have e1 : below cmp (a :: r) x = a :: below cmp r x := by simp [below, h1]
         have e2 : above cmp (a :: r) x = above cmp r x := by unfold above; rw [List.filter_cons, if_neg (by simp; omega)]
         rw [e1, e2, List.cons_append, ← h3]
     · right
       refine ⟨y, ?_, h3, ?_⟩
       · simp only [has, List.any_cons, Bool.or_eq_true]; exact .inr h2
       · have e1 : below cmp (a :: r) x = a :: below cmp r x := by simp [below, h1]
         have e2 : above cmp (a :: r) x = above cmp r x := by unfold above; rw [List.filter_cons, if_neg (by simp; omega)]
         rw [e1, e2, List.cons_append, ← h4]
   · have hall : ∀ y ∈ r, 0 < cmp y x := fun y hy => (t.symm x y).1 (t.lt_of_le_of_lt (y := a) (by have := t.symm a x; have := t.symm x a; omega) (ha y hy))
     have b0 : below cmp r x = [] := List.filter_eq_nil_iff.2 (fun y hy => by have := hall y hy; simp; omega)
     have a0 : above cmp r x = r := List.filter_eq_self.2 (fun y hy => by simpa using hall y hy)
     have n0 : has cmp r x = false := has_false.2 (fun y hy => by have := hall y hy; omega)
     have e1 : below cmp (a :: r) x = [] := by unfold below; rw [List.filter_cons, if_neg (by simpa using h1)]; exact b0
     by_cases h2 : cmp a x = 0
     · right
       refine ⟨a, has_iff.2 ⟨a, by simp, h2⟩, h2, ?_⟩
       have e2 : above cmp (a :: r) x = r := by unfold above; rw [List.filter_cons, if_neg (by simp; omega)]; exact a0
       rw [e1, e2]; rfl
     · left
       refine ⟨?_, ?_⟩
       · simp only [has, List.any_cons, Bool.or_eq_false_iff]; exact ⟨by simpa using h2, n0⟩
       · have e2 : above cmp (a :: r) x = a :: r := by unfold above; rw [List.filter_cons, if_pos (by simp; omega)]; exact congrArg _ a0
         rw [e1, e2]; rfl
theorem mem_below {l : List α} {x y : α} : y ∈ below cmp l x ↔ y ∈ l ∧ cmp y x < 0 := by simp [below]
theorem mem_above {l : List α} {x y : α} : y ∈ above cmp l x ↔ y ∈ l ∧ 0 < cmp y x := by simp [above]
theorem mem_drop {l : List α} {x y : α} : y ∈ drop cmp l x ↔ y ∈ l ∧ cmp y x ≠ 0 := by simp [drop]
theorem Srt.put (t : TC cmp) {l : List α} (hs : Srt cmp l) (x : α) : Srt cmp (put cmp l x) := by
 unfold Ytnfgilbaglfkeaa.put
 split
 · exact hs
 · refine List.pairwise_append.2 ⟨hs.sublist List.filter_sublist, List.pairwise_cons.2 ⟨fun y hy => ?_, hs.sublist List.filter_sublist⟩, fun y hy z hz => ?_⟩
   · exact (t.symm x y).2 (mem_above.1 hy).2
   · rcases List.mem_cons.1 hz with rfl | hz
     · exact (mem_below.1 hy).2
     · exact t.lt_trans (mem_below.1 hy).2 ((t.symm x z).2 (mem_above.1 hz).2)
theorem Srt.drop {l : List α} (hs : Srt cmp l) (x : α) : Srt cmp (drop cmp l x) := hs.sublist List.filter_sublist
theorem Srt.nil : Srt cmp ([] : List α) := List.Pairwise.nil
theorem Srt.puts (t : TC cmp) : ∀ (xs : List α) {l : List α}, Srt cmp l → Srt cmp (puts cmp l xs)
 | [], _, h => h
 | x :: xs, _, h => Srt.puts t xs (h.put t x)
theorem puts_snoc (l xs : List α) (x : α) : puts cmp l (xs ++ [x]) = put cmp (puts cmp l xs) x := by simp [puts]
theorem length_below_above {l : List α} {x : α} (t : TC cmp) (hs : Srt cmp l) (h : has cmp l x = false) : (below cmp l x).length + (above cmp l x).length = l.length := by
 rcases place t hs x with ⟨_, e⟩ | ⟨y, h', _⟩
 · conv => rhs; rw [e]
   simp
 · rw [h] at h'; cases h'
theorem length_put_le (t : TC cmp) {l : List α} (hs : Srt cmp l) (x : α) : (put cmp l x).length ≤ l.length + 1 := by
 unfold Ytnfgilbaglfkeaa.put
 by_cases h : has cmp l x = true
 · rw [if_pos h]; omega
 · rw [if_neg h]
   have := length_below_above t hs (x := x) (by simpa using h)
   simp; omega
theorem length_puts_le (t : TC cmp) : ∀ (xs : List α) {l : List α}, Srt cmp l → (puts cmp l xs).length ≤ l.length + xs.length
 | [], _, _ => by simp [puts]
 | x :: xs, l, h => by
   have h1 := length_puts_le t xs (h.put t x)
   have h2 := length_put_le t h x
   have e : puts cmp l (x :: xs) = puts cmp (put cmp l x) xs := rfl
   rw [e]; simp; omega
theorem length_drop_le (l : List α) (x : α) : (drop cmp l x).length ≤ l.length := List.length_filter_le _ _
theorem drop_self {l : List α} {x : α} (h : has cmp l x = false) : drop cmp l x = l := by
 unfold Ytnfgilbaglfkeaa.drop
 exact List.filter_eq_self.2 (fun y hy => by simpa using has_false.1 h y hy)
theorem rank_le (l : List α) (x : α) : rank cmp l x ≤ l.length := List.length_filter_le _ _
theorem take_of_app {l B A : List α} (e : l = B ++ A) : l.take B.length = B := by subst e; simp
theorem drop_of_app {l B A : List α} (e : l = B ++ A) : l.drop B.length = A := by subst e; simp
theorem get_of_app {l B A : List α} {y : α} (e : l = B ++ y :: A) : l[B.length]? = some y := by subst e; simp
theorem put_eq (t : TC cmp) {l : List α} (hs : Srt cmp l) {x : α} (h : has cmp l x = false) : put cmp l x = l.take (rank cmp l x) ++ x :: l.drop (rank cmp l x) := by
 rcases place t hs x with ⟨_, e⟩ | ⟨y, h', _⟩
 · have e1 : l.take (rank cmp l x) = below cmp l x := take_of_app e
   have e2 : l.drop (rank cmp l x) = above cmp l x := drop_of_app e
   rw [e1, e2]
   unfold Ytnfgilbaglfkeaa.put
   rw [if_neg (by rw [h]; simp)]
 · rw [h] at h'; cases h'
theorem put_has {l : List α} {x : α} (h : has cmp l x = true) : put cmp l x = l := by unfold Ytnfgilbaglfkeaa.put; rw [if_pos h]
theorem length_put (t : TC cmp) {l : List α} (hs : Srt cmp l) {x : α} (h : has cmp l x = false) : (put cmp l x).length = l.length + 1 := by
 rw [put_eq t hs h]
 have := rank_le (cmp := cmp) l x
 simp; omega
theorem drop_eq (t : TC cmp) {l : List α} (hs : Srt cmp l) {x : α} (h : has cmp l x = true) : rank cmp l x < l.length ∧ drop cmp l x = l.take (rank cmp l x) ++ l.drop (rank cmp l x + 1) ∧ ∃ hk : rank cmp l x < l.length, cmp l[rank cmp l x] x = 0 := by
 rcases place t hs x with ⟨h', _⟩ | ⟨y, _, ey, e⟩
 · rw [h] at h'; cases h'
 · have hk : rank cmp l x < l.length := by
    have h2 : l[rank cmp l x]? = some y := get_of_app e
    exact (List.getElem?_eq_some_iff.1 h2).1
   have hy : l[rank cmp l x] = y := by
    have h1 : l[rank cmp l x]? = some y := get_of_app e
    rw [List.getElem?_eq_getElem hk] at h1
    exact Option.some.inj h1
   have e0 : cmp l[rank cmp l x] x = 0 := by rw [hy]; exact ey
   exact ⟨hk, (at_some t hs hk e0).2.2.2, hk, e0⟩
def shiftAt (l : List α) (x : α) (i : Nat) : List α := l.take i ++ (l ++ [x]).getD i x :: l.drop i
theorem shiftAt_length (l : List α) (x : α) {i : Nat} (h : i ≤ l.length) : (shiftAt l x i).length = l.length + 1 := by simp [shiftAt]; omega
theorem shiftAt_start (l : List α) (x : α) : shiftAt l x l.length = l ++ [x] := by simp [shiftAt]
theorem shiftAt_read (l : List α) (x : α) {j : Nat} (h : j < l.length) (h' : j < (shiftAt l x (j + 1)).length) : (shiftAt l x (j + 1))[j] = l[j] := by
 apply Option.some.inj
 rw [← List.getElem?_eq_getElem]
 unfold shiftAt
 rw [List.getElem?_append_left (by simp; omega)]
 simp [h]
theorem shiftAt_step (l : List α) (x : α) {j : Nat} (h : j < l.length) : (shiftAt l x (j + 1)).set (j + 1) l[j] = shiftAt l x j := by
 unfold shiftAt
 rw [List.set_append_right _ _ (by simp; omega)]
 have e : (j + 1 - (l.take (j + 1)).length) = 0 := by simp; omega
 rw [e, List.set_cons_zero, List.take_succ_eq_append_getElem h, List.append_assoc]
 have e2 : (l ++ [x]).getD j x = l[j] := by rw [List.getD_eq_getElem?_getD, List.getElem?_append_left h, List.getElem?_eq_getElem h]; rfl
 rw [e2, ← List.getElem_cons_drop h]
 rfl
theorem shiftAt_end (l : List α) (x : α) {k : Nat} (h : k ≤ l.length) : (shiftAt l x k).set k x = l.take k ++ x :: l.drop k := by
 unfold shiftAt
 rw [List.set_append_right _ _ (by simp; omega)]
 have e : (k - (l.take k).length) = 0 := by simp; omega
 rw [e, List.set_cons_zero]
def downAt (l : List α) (k i : Nat) : List α := l.take k ++ (l.drop (k + 1)).take (i - k) ++ l.drop i
theorem downAt_length (l : List α) {k i : Nat} (h : k ≤ i) (h' : i < l.length) : (downAt l k i).length = l.length := by simp [downAt]; omega
theorem downAt_start (l : List α) (k : Nat) : downAt l k k = l := by simp [downAt]
theorem downAt_read (l : List α) {k i : Nat} (h : k ≤ i) (h' : i + 1 < l.length) (h2 : i + 1 < (downAt l k i).length) : (downAt l k i)[i + 1] = l[i + 1] := by
 apply Option.some.inj
 rw [← List.getElem?_eq_getElem, ← List.getElem?_eq_getElem]
 unfold downAt
 rw [List.getElem?_append_right (by simp; omega), List.getElem?_drop]
 congr 1
 simp; omega
theorem downAt_step (l : List α) {k i : Nat} (h : k ≤ i) (h' : i + 1 < l.length) : (downAt l k i).set i l[i + 1] = downAt l k (i + 1) := by
 apply List.ext_getElem?
 intro j
 have len : (downAt l k i).length = l.length := downAt_length l h (by omega)
 by_cases e : j = i
 · subst e
   rw [List.getElem?_set_self (by omega)]
   unfold downAt
   rw [List.getElem?_append_left (by simp; omega), List.getElem?_append_right (by simp; omega), List.getElem?_take, List.getElem?_drop]
   rw [if_pos (by simp; omega)]
   have : k + 1 + (j - (l.take k).length) = j + 1 := by simp; omega
   rw [this, List.getElem?_eq_getElem h']
 · rw [List.getElem?_set_ne (fun h => e h.symm)]
   unfold downAt
   by_cases h1 : j < k
   · rw [List.append_assoc, List.append_assoc, List.getElem?_append_left (by simp; omega), List.getElem?_append_left (by simp; omega)]
   · by_cases h2 : j < i
     · rw [List.getElem?_append_left (by simp; omega), List.getElem?_append_right (by simp; omega), List.getElem?_append_left (by simp; omega), List.getElem?_append_right (by simp; omega)]
       rw [List.getElem?_take, List.getElem?_take, if_pos (by simp; omega), if_pos (by simp; omega)]
     · rw [List.getElem?_append_right (by simp; omega), List.getElem?_append_right (by simp; omega), List.getElem?_drop, List.getElem?_drop]
       congr 1
       simp; omega
theorem downAt_end (l : List α) {k : Nat} (h : k < l.length) : (downAt l k (l.length - 1)).take (l.length - 1) = l.take k ++ l.drop (k + 1) := by
 unfold downAt
 have e : (l.take k ++ (l.drop (k + 1)).take (l.length - 1 - k)).length = l.length - 1 := by simp; omega
 have e2 : (l.drop (k + 1)).take (l.length - 1 - k) = l.drop (k + 1) := List.take_of_length_le (by simp; omega)
 rw [List.take_append_of_le_length (by omega), List.take_of_length_le (by omega), e2]
end
def cmpInt (a b : Int) : Int := if a < b then -1 else if b < a then 1 else 0
theorem tc_int : TC cmpInt := by
 constructor
 · intro x; simp [cmpInt]
 · intro x y; simp only [cmpInt]; split <;> split <;> simp <;> (try split) <;> omega
 · intro x y z; simp only [cmpInt]; intro h1 h2; split at h1 <;> split at h2 <;> (try split at h1) <;> (try split at h2) <;> split <;> (try split) <;> omega
theorem cmpInt_eq {a b : Int} : cmpInt a b = 0 ↔ a = b := by simp only [cmpInt]; split <;> (try split) <;> omega
theorem bytesLess_irrefl : ∀ x : List UInt8, Op.bytesLess x x = false
 | [] => rfl
 | a :: x => by simp [Op.bytesLess, bytesLess_irrefl x]
theorem bytesLess_trans : ∀ {x y z : List UInt8}, Op.bytesLess x y = true → Op.bytesLess y z = true → Op.bytesLess x z = true
 | _, [], _, h, _ => by simp [Op.bytesLess] at h
 | _, _ :: _, [], _, h => by simp [Op.bytesLess] at h
 | [], _ :: _, _ :: _, _, _ => by simp [Op.bytesLess]
 | a :: x, b :: y, c :: z, h1, h2 => by
   simp only [Op.bytesLess, Bool.or_eq_true, Bool.and_eq_true, decide_eq_true_eq, beq_iff_eq] at h1 h2 ⊢
   rcases h1 with h1 | ⟨rfl, h1⟩
   · rcases h2 with h2 | ⟨rfl, h2⟩
     · exact .inl (UInt8.lt_trans h1 h2)
     · exact .inl h1
   · rcases h2 with h2 | ⟨rfl, h2⟩
     · exact .inl h2
     · exact .inr ⟨rfl, bytesLess_trans h1 h2⟩
theorem bytesLess_total : ∀ (x y : List UInt8), Op.bytesLess x y = false → Op.bytesLess y x = false → x = y
 | [], [], _, _ => rfl
 | [], _ :: _, h, _ => by simp [Op.bytesLess] at h
 | _ :: _, [], _, h => by simp [Op.bytesLess] at h
 | a :: x, b :: y, h1, h2 => by
   simp only [Op.bytesLess, Bool.or_eq_false_iff, decide_eq_false_iff_not, Bool.and_eq_false_iff, beq_eq_false_iff_ne] at h1 h2
   obtain ⟨h1, h3⟩ := h1
   obtain ⟨h2, h4⟩ := h2
   have e : a = b := by
    apply UInt8.toNat_inj.1
    simp only [UInt8.lt_iff_toNat_lt] at h1 h2
    omega
   subst e
   rw [bytesLess_total x y (h3.resolve_left (fun h => h rfl)) (h4.resolve_left (fun h => h rfl))]
theorem bytesLess_asymm {x y : List UInt8} (h : Op.bytesLess x y = true) : Op.bytesLess y x = false := by
 cases e : Op.bytesLess y x
 · rfl
 · have := bytesLess_trans h e; rw [bytesLess_irrefl] at this; cases this
def cmpStr (a b : ByteArray) : Int := if Op.bytesLess a.toList b.toList = true then -1 else if a.toList = b.toList then 0 else 1
theorem tc_str : TC cmpStr := by
 have key : ∀ a b : ByteArray, (cmpStr a b = -1 ∧ Op.bytesLess a.toList b.toList = true ∧ Op.bytesLess b.toList a.toList = false ∧ a.toList ≠ b.toList) ∨
  (cmpStr a b = 0 ∧ Op.bytesLess a.toList b.toList = false ∧ Op.bytesLess b.toList a.toList = false ∧ a.toList = b.toList) ∨
  (cmpStr a b = 1 ∧ Op.bytesLess a.toList b.toList = false ∧ Op.bytesLess b.toList a.toList = true ∧ a.toList ≠ b.toList) := by
  intro a b
  unfold cmpStr
  cases h1 : Op.bytesLess a.toList b.toList
  · cases h2 : Op.bytesLess b.toList a.toList
    · have e := bytesLess_total _ _ h1 h2
      simp [e]
    · have hne : a.toList ≠ b.toList := fun e => by rw [e, bytesLess_irrefl] at h2; cases h2
      simp [hne]
  · have h2 := bytesLess_asymm h1
    have hne : a.toList ≠ b.toList := fun e => by rw [e, bytesLess_irrefl] at h1; cases h1
    simp [h2, hne]
 constructor
 · intro x; simp [cmpStr, bytesLess_irrefl]
 · intro x y
   rcases key x y with ⟨e, a, b, c⟩ | ⟨e, a, b, c⟩ | ⟨e, a, b, c⟩ <;> rcases key y x with ⟨e', a', b', c'⟩ | ⟨e', a', b', c'⟩ | ⟨e', a', b', c'⟩ <;> rw [e, e'] <;> simp_all
 · intro x y z h1 h2
   rcases key x y with ⟨e, a, b, c⟩ | ⟨e, a, b, c⟩ | ⟨e, a, b, c⟩ <;> rcases key y z with ⟨e', a', b', c'⟩ | ⟨e', a', b', c'⟩ | ⟨e', a', b', c'⟩ <;> rw [e] at h1 <;> rw [e'] at h2 <;> (try omega)
   · have := bytesLess_trans a a'; unfold cmpStr; rw [if_pos this]; omega
   · rw [c'] at a; unfold cmpStr; rw [if_pos a]; omega
   · rw [← c] at a'; unfold cmpStr; rw [if_pos a']; omega
   · unfold cmpStr; rw [c, c', if_neg (by rw [bytesLess_irrefl]; simp), if_pos rfl]; omega
theorem toList_inj {a b : ByteArray} (h : a.toList = b.toList) : a = b := by
 have e : ∀ x : ByteArray, x.toList = x.data.toList := Lib.toList_data
 rw [e, e] at h
 cases a; cases b
 simp only [ByteArray.mk.injEq]
 exact Array.toList_inj.1 h
theorem cmpStr_eq {a b : ByteArray} : cmpStr a b = 0 ↔ a = b := by
 constructor
 · intro h
   unfold cmpStr at h
   split at h
   · omega
   · split at h
     · exact toList_inj ‹_›
     · omega
 · rintro rfl; simp [cmpStr, bytesLess_irrefl]
def andThen (a b : Int) : Int := if a = 0 then b else a
theorem tc_andThen {α β γ : Type} {f : α → β} {g : α → γ} {c1 : β → β → Int} {c2 : γ → γ → Int} (h1 : TC c1) (h2 : TC c2) : TC (fun x y => andThen (c1 (f x) (f y)) (c2 (g x) (g y))) := by
 constructor
 · intro x; simp [andThen, h1.refl, h2.refl]
 · intro x y
   have a := h1.symm (f x) (f y)
   have b := h1.symm (f y) (f x)
   have c := h2.symm (g x) (g y)
   simp only [andThen]
   split <;> split <;> omega
 · intro x y z e1 e2
   simp only [andThen] at e1 e2 ⊢
   by_cases p : c1 (f x) (f y) = 0
   · rw [if_pos p] at e1
     by_cases q : c1 (f y) (f z) = 0
     · rw [if_pos q] at e2
       have r : c1 (f x) (f z) = 0 := by
        have r1 := h1.trans (f x) (f y) (f z) (by omega) (by omega)
        have r2 := h1.trans (f z) (f y) (f x) (by have := h1.eq_symm q; omega) (by have := h1.eq_symm p; omega)
        have a := h1.symm (f x) (f z)
        have b := h1.symm (f z) (f x)
        omega
       rw [if_pos r]
       exact h2.trans _ _ _ e1 e2
     · rw [if_neg q] at e2
       have := h1.lt_of_le_of_lt (x := f x) (y := f y) (z := f z) (by omega) (by omega)
       rw [if_neg (by omega)]; omega
   · rw [if_neg p] at e1
     have hq : c1 (f y) (f z) ≤ 0 := by
      by_cases q : c1 (f y) (f z) = 0
      · omega
      · rw [if_neg q] at e2; exact e2
     have := h1.lt_of_lt_of_le (x := f x) (y := f y) (z := f z) (by omega) hq
     rw [if_neg (by omega)]; omega
structure Sym where
 kind : Int
 text : ByteArray
 n : Int
theorem Sym.ext' {a b : Sym} (h1 : a.kind = b.kind) (h2 : a.text = b.text) (h3 : a.n = b.n) : a = b := by cases a; cases b; simp_all
instance : DecidableEq Sym := fun a b => decidable_of_iff (a.kind = b.kind ∧ a.text = b.text ∧ a.n = b.n) ⟨fun ⟨h1, h2, h3⟩ => Sym.ext' h1 h2 h3, fun h => by subst h; exact ⟨rfl, rfl, rfl⟩⟩
instance : Inhabited Sym := ⟨⟨0, ⟨#[]⟩, 0⟩⟩
def cmpSym (a b : Sym) : Int := andThen (cmpInt a.kind b.kind) (andThen (cmpStr a.text b.text) (cmpInt a.n b.n))
theorem tc_sym : TC cmpSym := tc_andThen (f := Sym.kind) (g := fun s : Sym => (s.text, s.n)) (c2 := fun x y => andThen (cmpStr x.1 y.1) (cmpInt x.2 y.2)) tc_int
 (tc_andThen (f := fun x : ByteArray × Int => x.1) (g := fun x : ByteArray × Int => x.2) tc_str tc_int)
theorem cmpSym_eq {a b : Sym} : cmpSym a b = 0 ↔ a = b := by
 constructor
 · intro h
   simp only [cmpSym, andThen] at h
   split at h
   · split at h
     · exact Sym.ext' (cmpInt_eq.1 ‹_›) (cmpStr_eq.1 ‹_›) (cmpInt_eq.1 h)
     · exact absurd h ‹_›
   · exact absurd h ‹_›
 · rintro rfl; exact tc_sym.refl _
end Go.Proofs.Ytnfgilbaglfkeaa
namespace Go.Proofs.Ytnfgilbaglfkeaa
open Go.RowKit
def Sym.cells (s : Sym) : List Value := [.int .i64 s.kind, .string s.text, .int .i64 s.n]
theorem Sym.cells_length (s : Sym) : s.cells.length = 3 := rfl
set_option maxHeartbeats 400000 in
theorem isNaN_int (a : Int) (w : World) : Calls Try.prog 113 #[.int .i64 a] w fun e w' => e = .returned (.bool false) ∧ w = w' := by
 go_enter Try.func113, Try.ntmps113
 go_wp2
 go_ret
 exact ⟨by simp, rfl⟩
set_option maxHeartbeats 400000 in
theorem isNaN_str (a : ByteArray) (w : World) : Calls Try.prog 114 #[.string a] w fun e w' => e = .returned (.bool false) ∧ w = w' := by
 go_enter Try.func114, Try.ntmps114
 go_wp2
 go_ret
 exact ⟨by simp, rfl⟩
set_option maxHeartbeats 400000 in
theorem cmp_int (a b : Int) (w : World) : Calls Try.prog 111 #[.int .i64 a, .int .i64 b] w fun e w' => e = .returned (.int .i64 (cmpInt a b)) ∧ w = w' := by
 go_enter Try.func111, Try.ntmps111
 go_wp2_with (go_at_call 113; refine (isNaN_int _ _).mono ?_; rintro e w' ⟨rfl, rfl⟩)
 all_goals (go_ret; refine ⟨?_, rfl⟩; unfold cmpInt; (repeat' split) <;> first | rfl | (exfalso; omega))
set_option maxHeartbeats 400000 in
theorem cmp_str (a b : ByteArray) (w : World) : Calls Try.prog 112 #[.string a, .string b] w fun e w' => e = .returned (.int .i64 (cmpStr a b)) ∧ w = w' := by
 go_enter Try.func112, Try.ntmps112
 go_wp2_with (go_at_call 114; refine (isNaN_str _ _).mono ?_; rintro e w' ⟨rfl, rfl⟩)
 all_goals (go_ret; refine ⟨?_, rfl⟩; unfold cmpStr; (repeat' split) <;> first | rfl | (exfalso; simp_all))
set_option maxRecDepth 100000 in
set_option maxHeartbeats 400000 in
theorem cmp_sym (a b : Sym) (w : World) :
 Calls Try.prog 110 #[.agg #[.int .i64 a.kind, .string a.text, .int .i64 a.n], .agg #[.int .i64 b.kind, .string b.text, .int .i64 b.n]] w fun e w' => e = .returned (.int .i64 (cmpSym a b)) ∧ Below w.heap.size w w' := by
 obtain ⟨ak, at_, an⟩ := a
 obtain ⟨bk, bt, bn⟩ := b
 by_cases h1 : cmpInt ak bk = 0
 · have n1 : (cmpInt ak bk != 0) = false := by simp [h1]
   by_cases h2 : cmpStr at_ bt = 0
   · have n2 : (cmpStr at_ bt != 0) = false := by simp [h2]
     have HF : Hid (cmpSym ⟨ak, at_, an⟩ ⟨bk, bt, bn⟩ = cmpInt an bn) := by simp [Hid, cmpSym, andThen, h1, h2]
     clear h1 h2
     go_enter Try.func110, Try.ntmps110
     go_wp2_with (first | (go_at_call 111; refine (cmp_int _ _ _).mono ?_; rintro e w' ⟨rfl, rfl⟩) | (go_at_call 112; refine (cmp_str _ _ _).mono ?_; rintro e w' ⟨rfl, rfl⟩))
     go_ret
     exact ⟨by rw [HF.out]; rfl, ((Below.refl _ _).alloc (Nat.le_refl _) _).alloc (by simp) _⟩
   · have n2 : (cmpStr at_ bt != 0) = true := by simp [h2]
     have HF : Hid (cmpSym ⟨ak, at_, an⟩ ⟨bk, bt, bn⟩ = cmpStr at_ bt) := by simp [Hid, cmpSym, andThen, h1, h2]
     clear h1 h2
     go_enter Try.func110, Try.ntmps110
     go_wp2_with (first | (go_at_call 111; refine (cmp_int _ _ _).mono ?_; rintro e w' ⟨rfl, rfl⟩) | (go_at_call 112; refine (cmp_str _ _ _).mono ?_; rintro e w' ⟨rfl, rfl⟩))
     go_ret
     exact ⟨by rw [HF.out]; rfl, ((Below.refl _ _).alloc (Nat.le_refl _) _).alloc (by simp) _⟩
 · have n1 : (cmpInt ak bk != 0) = true := by simp [h1]
   have HF : Hid (cmpSym ⟨ak, at_, an⟩ ⟨bk, bt, bn⟩ = cmpInt ak bk) := by simp [Hid, cmpSym, andThen, h1]
   clear h1
   go_enter Try.func110, Try.ntmps110
   go_wp2_with (first | (go_at_call 111; refine (cmp_int _ _ _).mono ?_; rintro e w' ⟨rfl, rfl⟩) | (go_at_call 112; refine (cmp_str _ _ _).mono ?_; rintro e w' ⟨rfl, rfl⟩))
   go_ret
   exact ⟨by rw [HF.out]; rfl, ((Below.refl _ _).alloc (Nat.le_refl _) _).alloc (by simp) _⟩
end Go.Proofs.Ytnfgilbaglfkeaa
namespace Go.Proofs.Ytnfgilbaglfkeaa
open Go.RowKit Go.ChangeShapes Go.WideShapes Go.Deep
theorem reads_Sym : Reads Try.prog 51 3 Sym.cells :=
 ⟨by kernel_rfl, fun H enc w base spare held n cs x h => by
  obtain ⟨y0, y1, y2, n', _, hl, h0, h1, h2⟩ := trod_struct3 Try.underlying51 h
  have hl3 : cs.length = 3 := hl.trans (by kernel_rfl)
  have c3 : Try.prog.cellsOf 3 = 1 := by kernel_rfl
  have c9 : Try.prog.cellsOf 9 = 1 := by kernel_rfl
  simp only [c3, c9] at h0 h1 h2
  match cs, hl3 with
  | [v0, v1, v2], _ =>
    simp at h0 h1 h2
    obtain ⟨a, e0, _⟩ := DataW.trod_int Try.underlying3 h0
    obtain ⟨b, e1, _⟩ := DataW.trod_string Try.underlying9 h1
    obtain ⟨c, e2, _⟩ := DataW.trod_int Try.underlying3 h2
    simp at e0 e1 e2
    subst e0; subst e1; subst e2
    exact ⟨⟨a, b, c⟩, rfl⟩⟩
end Go.Proofs.Ytnfgilbaglfkeaa
namespace Go.Proofs.Ytnfgilbaglfkeaa
open Go.RowKit Go.ChangeShapes Go.WideShapes Go.Deep
def repInt : RepT Int := RepT.flat 1 (fun n : Int => [Value.int .i64 n]) (fun _ => rfl)
def repStr : RepT ByteArray := RepT.flat 1 (fun s : ByteArray => [Value.string s]) (fun _ => rfl)
def repBool : RepT Bool := RepT.flat 1 (fun b : Bool => [Value.bool b]) (fun _ => rfl)
def repSym : RepT Sym := RepT.flat 3 Sym.cells Sym.cells_length
theorem opens_Sym : Opens Try.prog 51 repSym := opens_of_reads Sym.cells_length reads_Sym
theorem u8_of {n : Int} (h : (Lit.int .u8 n).wf = true) : ∃ c : UInt8, n = (c.toNat : Int) := by
 have h2 : 0 ≤ n ∧ n < 256 := by
  simp [Lit.wf] at h
  have e1 : IntKind.u8.min = 0 := by rfl
  have e2 : IntKind.u8.max = 255 := by rfl
  omega
 exact ⟨UInt8.ofNat n.toNat, by simp; omega⟩
theorem at_Sym {D : Nat → Prop} {w : World} {A : Option Addr} {c k : Nat} {l : List Sym} (h : RowR repSym D w A c l) (hk : k < l.length) : ∃ g off, A = some ⟨g, off, none⟩ ∧ D g ∧ g < w.heap.size ∧ w.cell? ⟨g, off + k * 3, none⟩ = some (.int .i64 l[k].kind) ∧ w.cell? ⟨g, off + k * 3 + 1, none⟩ = some (.string l[k].text) ∧ w.cell? ⟨g, off + k * 3 + 2, none⟩ = some (.int .i64 l[k].n) := by
 obtain ⟨g, off, cs, hA, hD, hg, hr, hc⟩ := h.at_ hk
 have hr2 : cs = Sym.cells l[k] := hr
 subst hr2
 refine ⟨g, off, hA, hD, hg, by simpa [repSym, RepT.flat] using hc 0 _ rfl, by simpa [repSym, RepT.flat] using hc 1 _ rfl, by simpa [repSym, RepT.flat] using hc 2 _ rfl⟩
structure Elem where
 id : Sym
 attr : Sym
 value : Sym
 acc : Bool
 goal : Bool
 tag : Int
def Elem.cells (x : Elem) : List Value := [.int .i64 x.id.kind, .string x.id.text, .int .i64 x.id.n, .int .i64 x.attr.kind, .string x.attr.text, .int .i64 x.attr.n, .int .i64 x.value.kind, .string x.value.text, .int .i64 x.value.n, .bool x.acc, .bool x.goal, .int .i64 x.tag]
theorem Elem.cells_length (x : Elem) : x.cells.length = 12 := rfl
def repElem : RepT Elem := RepT.flat 12 Elem.cells Elem.cells_length
theorem at_Elem {D : Nat → Prop} {w : World} {A : Option Addr} {c k : Nat} {l : List Elem} (h : RowR repElem D w A c l) (hk : k < l.length) : ∃ g off, A = some ⟨g, off, none⟩ ∧ D g ∧ g < w.heap.size ∧ w.cell? ⟨g, off + k * 12, none⟩ = some (.int .i64 l[k].id.kind) ∧ w.cell? ⟨g, off + k * 12 + 1, none⟩ = some (.string l[k].id.text) ∧ w.cell? ⟨g, off + k * 12 + 2, none⟩ = some (.int .i64 l[k].id.n) ∧ w.cell? ⟨g, off + k * 12 + 3, none⟩ = some (.int .i64 l[k].attr.kind) ∧ w.cell? ⟨g, off + k * 12 + 4, none⟩ = some (.string l[k].attr.text) ∧ w.cell? ⟨g, off + k * 12 + 5, none⟩ = some (.int .i64 l[k].attr.n) ∧ w.cell? ⟨g, off + k * 12 + 6, none⟩ = some (.int .i64 l[k].value.kind) ∧ w.cell? ⟨g, off + k * 12 + 7, none⟩ = some (.string l[k].value.text) ∧ w.cell? ⟨g, off + k * 12 + 8, none⟩ = some (.int .i64 l[k].value.n) ∧ w.cell? ⟨g, off + k * 12 + 9, none⟩ = some (.bool l[k].acc) ∧ w.cell? ⟨g, off + k * 12 + 10, none⟩ = some (.bool l[k].goal) ∧ w.cell? ⟨g, off + k * 12 + 11, none⟩ = some (.int .i64 l[k].tag) := by
 obtain ⟨g, off, cs, hA, hD, hg, hr, hc⟩ := h.at_ hk
 have hr2 : cs = Elem.cells l[k] := hr
 subst hr2
 refine ⟨g, off, hA, hD, hg, by simpa [repElem, RepT.flat] using hc 0 _ rfl, by simpa [repElem, RepT.flat] using hc 1 _ rfl, by simpa [repElem, RepT.flat] using hc 2 _ rfl, by simpa [repElem, RepT.flat] using hc 3 _ rfl, by simpa [repElem, RepT.flat] using hc 4 _ rfl, by simpa [repElem, RepT.flat] using hc 5 _ rfl, by simpa [repElem, RepT.flat] using hc 6 _ rfl, by simpa [repElem, RepT.flat] using hc 7 _ rfl, by simpa [repElem, RepT.flat] using hc 8 _ rfl, by simpa [repElem, RepT.flat] using hc 9 _ rfl, by simpa [repElem, RepT.flat] using hc 10 _ rfl, by simpa [repElem, RepT.flat] using hc 11 _ rfl⟩
theorem opens_Elem : Opens Try.prog 53 repElem :=
 ⟨by kernel_rfl, fun H enc w base spare held n cs x h => by
  have hl2 : cs.length = 12 := (trod_len Try.underlying53 h).trans (by kernel_rfl)
  obtain ⟨m0, y0, h0⟩ := trod_field Try.underlying53 h 0 rfl 51 0 3 rfl rfl (by kernel_rfl)
  obtain ⟨m1, y1, h1⟩ := trod_field Try.underlying53 h 1 rfl 51 3 3 rfl rfl (by kernel_rfl)
  obtain ⟨m2, y2, h2⟩ := trod_field Try.underlying53 h 2 rfl 51 6 3 rfl rfl (by kernel_rfl)
  obtain ⟨m3, y3, h3⟩ := trod_field Try.underlying53 h 3 rfl 4 9 1 rfl rfl (by kernel_rfl)
  obtain ⟨m4, y4, h4⟩ := trod_field Try.underlying53 h 4 rfl 4 10 1 rfl rfl (by kernel_rfl)
  obtain ⟨m5, y5, h5⟩ := trod_field Try.underlying53 h 5 rfl 3 11 1 rfl rfl (by kernel_rfl)
  match cs, hl2 with
  | [v0, v1, v2, v3, v4, v5, v6, v7, v8, v9, v10, v11], _ =>
    simp at h0 h1 h2 h3 h4 h5
    obtain ⟨a0, e0⟩ := opens_Sym.2 H enc w base spare held _ _ _ h0
    have e0 : _ = Sym.cells a0 := e0
    simp [Sym.cells] at e0
    obtain ⟨a1, e1⟩ := opens_Sym.2 H enc w base spare held _ _ _ h1
    have e1 : _ = Sym.cells a1 := e1
    simp [Sym.cells] at e1
    obtain ⟨a2, e2⟩ := opens_Sym.2 H enc w base spare held _ _ _ h2
    have e2 : _ = Sym.cells a2 := e2
    simp [Sym.cells] at e2
    obtain ⟨a3, e3, _⟩ := DataW.trod_bool Try.underlying4 h3
    simp at e3
    obtain ⟨a4, e4, _⟩ := DataW.trod_bool Try.underlying4 h4
    simp at e4
    obtain ⟨a5, e5, _⟩ := DataW.trod_int Try.underlying3 h5
    simp at e5
    obtain ⟨rfl, rfl, rfl⟩ := e0
    obtain ⟨rfl, rfl, rfl⟩ := e1
    obtain ⟨rfl, rfl, rfl⟩ := e2
    subst e3
    subst e4
    subst e5
    exact ⟨⟨a0, a1, a2, a3, a4, a5⟩, rfl⟩⟩
structure TestT where
 rel : Int
 var : ByteArray
 sym : Sym
 list : List Sym
def repTestT : RepT TestT :=
 { size := 6, rep := fun D w x cs => ∃ A1 c1, cs = [.int .i64 x.rel, .string x.var, .int .i64 x.sym.kind, .string x.sym.text, .int .i64 x.sym.n, .slice A1 x.list.length c1] ∧ RowR repSym D w A1 c1 x.list,
   len := by rintro _ _ _ _ ⟨_, _, rfl, _⟩; rfl,
   keep := by
    rintro _ _ _ _ _ _ hs hk ⟨A1, c1, h0, h1⟩
    exact ⟨A1, c1, h0, h1.keep hs hk⟩ }
theorem at_TestT {D : Nat → Prop} {w : World} {A : Option Addr} {c k : Nat} {l : List TestT} (h : RowR repTestT D w A c l) (hk : k < l.length) : ∃ g off A1 c1, A = some ⟨g, off, none⟩ ∧ D g ∧ g < w.heap.size ∧ w.cell? ⟨g, off + k * 6, none⟩ = some (.int .i64 l[k].rel) ∧ w.cell? ⟨g, off + k * 6 + 1, none⟩ = some (.string l[k].var) ∧ w.cell? ⟨g, off + k * 6 + 2, none⟩ = some (.int .i64 l[k].sym.kind) ∧ w.cell? ⟨g, off + k * 6 + 3, none⟩ = some (.string l[k].sym.text) ∧ w.cell? ⟨g, off + k * 6 + 4, none⟩ = some (.int .i64 l[k].sym.n) ∧ w.cell? ⟨g, off + k * 6 + 5, none⟩ = some (.slice A1 l[k].list.length c1) ∧ RowR repSym D w A1 c1 l[k].list := by
 obtain ⟨g, off, cs, hA, hD, hg, ⟨A1, c1, rfl, hrs⟩, hc⟩ := h.at_ hk
 exact ⟨g, off, A1, c1, hA, hD, hg, by simpa [repTestT] using hc 0 _ rfl, by simpa [repTestT] using hc 1 _ rfl, by simpa [repTestT] using hc 2 _ rfl, by simpa [repTestT] using hc 3 _ rfl, by simpa [repTestT] using hc 4 _ rfl, by simpa [repTestT] using hc 5 _ rfl, hrs⟩
theorem opens_TestT : Opens Try.prog 114 repTestT :=
 ⟨by kernel_rfl, fun H enc w base spare held n cs x h => by
  have hl2 : cs.length = 6 := (trod_len Try.underlying114 h).trans (by kernel_rfl)
  obtain ⟨m0, y0, h0⟩ := trod_field Try.underlying114 h 0 rfl 3 0 1 rfl rfl (by kernel_rfl)
  obtain ⟨m1, y1, h1⟩ := trod_field Try.underlying114 h 1 rfl 9 1 1 rfl rfl (by kernel_rfl)
  obtain ⟨m2, y2, h2⟩ := trod_field Try.underlying114 h 2 rfl 51 2 3 rfl rfl (by kernel_rfl)
  obtain ⟨m3, y3, h3⟩ := trod_field Try.underlying114 h 3 rfl 30 5 1 rfl rfl (by kernel_rfl)
  match cs, hl2 with
  | [v0, v1, v2, v3, v4, v5], _ =>
    simp at h0 h1 h2 h3
    obtain ⟨a0, e0, _⟩ := DataW.trod_int Try.underlying3 h0
    simp at e0
    obtain ⟨a1, e1, _⟩ := DataW.trod_string Try.underlying9 h1
    simp at e1
    obtain ⟨a2, e2⟩ := opens_Sym.2 H enc w base spare held _ _ _ h2
    have e2 : _ = Sym.cells a2 := e2
    simp [Sym.cells] at e2
    obtain ⟨a3, A3, c3, e3, r3⟩ := (opens_slice Try.underlying30 (by kernel_rfl) (by decide) opens_Sym).2 H enc w base spare held _ _ _ h3
    simp at e3
    subst e0
    subst e1
    obtain ⟨rfl, rfl, rfl⟩ := e2
    subst e3
    exact ⟨⟨a0, a1, a2, a3⟩, A3, c3, rfl, r3⟩⟩
inductive CondT where
 | mk (kind : Int) (goal : Bool) (id : ByteArray) (attr : List TestT) (value : List TestT) (acc : Bool) (conds : List CondT)
def CondT.kind : CondT → Int
 | .mk x _ _ _ _ _ _ => x
def CondT.goal : CondT → Bool
 | .mk _ x _ _ _ _ _ => x
def CondT.id : CondT → ByteArray
 | .mk _ _ x _ _ _ _ => x
def CondT.attr : CondT → List TestT
 | .mk _ _ _ x _ _ _ => x
def CondT.value : CondT → List TestT
 | .mk _ _ _ _ x _ _ => x
def CondT.acc : CondT → Bool
 | .mk _ _ _ _ _ x _ => x
def CondT.conds : CondT → List CondT
 | .mk _ _ _ _ _ _ x => x
def repCondT : Nat → RepT CondT
 | 0 => { size := 7, rep := fun _ _ _ _ => False, len := fun h => h.elim, keep := fun _ _ h => h }
 | n + 1 =>
 { size := 7, rep := fun D w x cs => ∃ A1 c1 A2 c2 A3 c3, cs = [.int .i64 x.kind, .bool x.goal, .string x.id, .slice A1 x.attr.length c1, .slice A2 x.value.length c2, .bool x.acc, .slice A3 x.conds.length c3] ∧ RowR repTestT D w A1 c1 x.attr ∧ RowR repTestT D w A2 c2 x.value ∧ RowR (repCondT n) D w A3 c3 x.conds,
   len := by rintro _ _ _ _ ⟨_, _, _, _, _, _, rfl, _⟩; rfl,
   keep := by
    rintro _ _ _ _ _ _ hs hk ⟨A1, c1, A2, c2, A3, c3, h0, h1, h2, h3⟩
    exact ⟨A1, c1, A2, c2, A3, c3, h0, h1.keep hs hk, h2.keep hs hk, h3.keep hs hk⟩ }
theorem repCondT_size (n : Nat) : (repCondT n).size = 7 := by cases n <;> rfl
theorem at_CondT {n : Nat} {D : Nat → Prop} {w : World} {A : Option Addr} {c k : Nat} {l : List CondT} (h : RowR (repCondT (n + 1)) D w A c l) (hk : k < l.length) : ∃ g off A1 c1 A2 c2 A3 c3, A = some ⟨g, off, none⟩ ∧ D g ∧ g < w.heap.size ∧ w.cell? ⟨g, off + k * 7, none⟩ = some (.int .i64 l[k].kind) ∧ w.cell? ⟨g, off + k * 7 + 1, none⟩ = some (.bool l[k].goal) ∧ w.cell? ⟨g, off + k * 7 + 2, none⟩ = some (.string l[k].id) ∧ w.cell? ⟨g, off + k * 7 + 3, none⟩ = some (.slice A1 l[k].attr.length c1) ∧ w.cell? ⟨g, off + k * 7 + 4, none⟩ = some (.slice A2 l[k].value.length c2) ∧ w.cell? ⟨g, off + k * 7 + 5, none⟩ = some (.bool l[k].acc) ∧ w.cell? ⟨g, off + k * 7 + 6, none⟩ = some (.slice A3 l[k].conds.length c3) ∧ RowR repTestT D w A1 c1 l[k].attr ∧ RowR repTestT D w A2 c2 l[k].value ∧ RowR (repCondT n) D w A3 c3 l[k].conds := by
 obtain ⟨g, off, cs, hA, hD, hg, ⟨A1, c1, A2, c2, A3, c3, rfl, hrs⟩, hc⟩ := h.at_ hk
 exact ⟨g, off, A1, c1, A2, c2, A3, c3, hA, hD, hg, by simpa [repCondT] using hc 0 _ rfl, by simpa [repCondT] using hc 1 _ rfl, by simpa [repCondT] using hc 2 _ rfl, by simpa [repCondT] using hc 3 _ rfl, by simpa [repCondT] using hc 4 _ rfl, by simpa [repCondT] using hc 5 _ rfl, by simpa [repCondT] using hc 6 _ rfl, hrs⟩
theorem repCondT_mono : ∀ (n : Nat) {D : Nat → Prop} {w : World} {a : CondT} {cs : List Value}, (repCondT n).rep D w a cs → (repCondT (n + 1)).rep D w a cs
 | 0, _, _, _, _, h => h.elim
 | n + 1, _, _, _, _, h => by
   obtain ⟨A1, c1, A2, c2, A3, c3, h0, h1, h2, h3⟩ := h
   exact ⟨A1, c1, A2, c2, A3, c3, h0, h1, h2, h3.imp (by rw [repCondT_size, repCondT_size]) (fun _ _ g => repCondT_mono n g)⟩
theorem repCondT_le {m n : Nat} (h : m ≤ n) {D : Nat → Prop} {w : World} {a : CondT} {cs : List Value} (g : (repCondT m).rep D w a cs) : (repCondT n).rep D w a cs := by
 induction n with
 | zero => obtain rfl : m = 0 := by omega
           exact g
 | succ n ih =>
   by_cases e : m = n + 1
   · subst e; exact g
   · exact repCondT_mono n (ih (by omega))
theorem rowCondT_le {m n : Nat} (h : m ≤ n) {D : Nat → Prop} {w : World} {A : Option Addr} {c : Nat} {l : List CondT} (g : RowR (repCondT m) D w A c l) : RowR (repCondT n) D w A c l := g.imp (by rw [repCondT_size, repCondT_size]) (fun _ _ q => repCondT_le h q)
theorem lenCondT {cs : List Value} (h : cs.length = 7) : ∃ v0 v1 v2 v3 v4 v5 v6, cs = [v0, v1, v2, v3, v4, v5, v6] := by
 match cs, h with
 | [v0, v1, v2, v3, v4, v5, v6], _ => exact ⟨v0, v1, v2, v3, v4, v5, v6, rfl⟩
theorem openN_CondT {H : Type} (enc : TypeId × Value → H) (w : World) (base : Nat) (spare : Nat → Bool) (held : Bool) : ∀ (fuel : Nat) (cs : List Value) (x : DataW H × List MemPlace), DataW.trod enc Try.prog w base spare held fuel 60 cs = some x → ∃ a : CondT, (repCondT fuel).rep (· < w.heap.size) w a cs := by
 intro fuel
 induction fuel using Nat.strongRecOn with
 | _ fuel ih =>
   intro cs x h
   obtain ⟨n, rfl⟩ : ∃ n, fuel = n + 1 := ⟨fuel - 1, by have := trod_pos h; omega⟩
   have hl2 : cs.length = 7 := (trod_len Try.underlying60 h).trans (by kernel_rfl)
   obtain ⟨y0, h0⟩ := trod_fieldN Try.underlying60 h 0 rfl 3 0 1 rfl rfl (by kernel_rfl)
   obtain ⟨y1, h1⟩ := trod_fieldN Try.underlying60 h 1 rfl 4 1 1 rfl rfl (by kernel_rfl)
   obtain ⟨y2, h2⟩ := trod_fieldN Try.underlying60 h 2 rfl 9 2 1 rfl rfl (by kernel_rfl)
   obtain ⟨y3, h3⟩ := trod_fieldN Try.underlying60 h 3 rfl 57 3 1 rfl rfl (by kernel_rfl)
   obtain ⟨y4, h4⟩ := trod_fieldN Try.underlying60 h 4 rfl 57 4 1 rfl rfl (by kernel_rfl)
   obtain ⟨y5, h5⟩ := trod_fieldN Try.underlying60 h 5 rfl 4 5 1 rfl rfl (by kernel_rfl)
   obtain ⟨y6, h6⟩ := trod_fieldN Try.underlying60 h 6 rfl 58 6 1 rfl rfl (by kernel_rfl)
   obtain ⟨v0, v1, v2, v3, v4, v5, v6, rfl⟩ := lenCondT hl2
   simp at h0 h1 h2 h3 h4 h5 h6
   obtain ⟨a0, e0, _⟩ := DataW.trod_int Try.underlying3 h0
   simp at e0
   obtain ⟨a1, e1, _⟩ := DataW.trod_bool Try.underlying4 h1
   simp at e1
   obtain ⟨a2, e2, _⟩ := DataW.trod_string Try.underlying9 h2
   simp at e2
   obtain ⟨A3, c3, a3, e3, r3⟩ := row_of_trod (r := repTestT) Try.underlying57 (by decide) opens_TestT.1 (fun n cs x hx => opens_TestT.2 H enc w base spare held n cs x hx) h3
   simp at e3
   obtain ⟨A4, c4, a4, e4, r4⟩ := row_of_trod (r := repTestT) Try.underlying57 (by decide) opens_TestT.1 (fun n cs x hx => opens_TestT.2 H enc w base spare held n cs x hx) h4
   simp at e4
   obtain ⟨a5, e5, _⟩ := DataW.trod_bool Try.underlying4 h5
   simp at e5
   obtain ⟨A6, c6, a6, e6, r6⟩ := row_of_trodN (r := repCondT n) Try.underlying58 (by rw [repCondT_size]; decide) (by rw [repCondT_size]; kernel_rfl) (fun m hm cs x hx => (ih m (by omega) cs x hx).imp fun _ g => repCondT_le (by omega) g) h6
   simp at e6
   subst e0
   subst e1
   subst e2
   subst e3
   subst e4
   subst e5
   subst e6
   exact ⟨⟨a0, a1, a2, a3, a4, a5, a6⟩, A3, c3, A4, c4, A6, c6, rfl, r3, r4, r6⟩
structure BindT where
 var : ByteArray
 sym : Sym
def BindT.cells (x : BindT) : List Value := [.string x.var, .int .i64 x.sym.kind, .string x.sym.text, .int .i64 x.sym.n]
theorem BindT.cells_length (x : BindT) : x.cells.length = 4 := rfl
def repBindT : RepT BindT := RepT.flat 4 BindT.cells BindT.cells_length
theorem at_BindT {D : Nat → Prop} {w : World} {A : Option Addr} {c k : Nat} {l : List BindT} (h : RowR repBindT D w A c l) (hk : k < l.length) : ∃ g off, A = some ⟨g, off, none⟩ ∧ D g ∧ g < w.heap.size ∧ w.cell? ⟨g, off + k * 4, none⟩ = some (.string l[k].var) ∧ w.cell? ⟨g, off + k * 4 + 1, none⟩ = some (.int .i64 l[k].sym.kind) ∧ w.cell? ⟨g, off + k * 4 + 2, none⟩ = some (.string l[k].sym.text) ∧ w.cell? ⟨g, off + k * 4 + 3, none⟩ = some (.int .i64 l[k].sym.n) := by
 obtain ⟨g, off, cs, hA, hD, hg, hr, hc⟩ := h.at_ hk
 have hr2 : cs = BindT.cells l[k] := hr
 subst hr2
 refine ⟨g, off, hA, hD, hg, by simpa [repBindT, RepT.flat] using hc 0 _ rfl, by simpa [repBindT, RepT.flat] using hc 1 _ rfl, by simpa [repBindT, RepT.flat] using hc 2 _ rfl, by simpa [repBindT, RepT.flat] using hc 3 _ rfl⟩
theorem opens_BindT : Opens Try.prog 157 repBindT :=
 ⟨by kernel_rfl, fun H enc w base spare held n cs x h => by
  have hl2 : cs.length = 4 := (trod_len Try.underlying157 h).trans (by kernel_rfl)
  obtain ⟨m0, y0, h0⟩ := trod_field Try.underlying157 h 0 rfl 9 0 1 rfl rfl (by kernel_rfl)
  obtain ⟨m1, y1, h1⟩ := trod_field Try.underlying157 h 1 rfl 51 1 3 rfl rfl (by kernel_rfl)
  match cs, hl2 with
  | [v0, v1, v2, v3], _ =>
    simp at h0 h1
    obtain ⟨a0, e0, _⟩ := DataW.trod_string Try.underlying9 h0
    simp at e0
    obtain ⟨a1, e1⟩ := opens_Sym.2 H enc w base spare held _ _ _ h1
    have e1 : _ = Sym.cells a1 := e1
    simp [Sym.cells] at e1
    subst e0
    obtain ⟨rfl, rfl, rfl⟩ := e1
    exact ⟨⟨a0, a1⟩, rfl⟩⟩
structure TraceT where
 elem : Elem
 level : Int
 cause : Int
def TraceT.cells (x : TraceT) : List Value := [.int .i64 x.elem.id.kind, .string x.elem.id.text, .int .i64 x.elem.id.n, .int .i64 x.elem.attr.kind, .string x.elem.attr.text, .int .i64 x.elem.attr.n, .int .i64 x.elem.value.kind, .string x.elem.value.text, .int .i64 x.elem.value.n, .bool x.elem.acc, .bool x.elem.goal, .int .i64 x.elem.tag, .int .i64 x.level, .int .i64 x.cause]
theorem TraceT.cells_length (x : TraceT) : x.cells.length = 14 := rfl
def repTraceT : RepT TraceT := RepT.flat 14 TraceT.cells TraceT.cells_length
theorem at_TraceT {D : Nat → Prop} {w : World} {A : Option Addr} {c k : Nat} {l : List TraceT} (h : RowR repTraceT D w A c l) (hk : k < l.length) : ∃ g off, A = some ⟨g, off, none⟩ ∧ D g ∧ g < w.heap.size ∧ w.cell? ⟨g, off + k * 14, none⟩ = some (.int .i64 l[k].elem.id.kind) ∧ w.cell? ⟨g, off + k * 14 + 1, none⟩ = some (.string l[k].elem.id.text) ∧ w.cell? ⟨g, off + k * 14 + 2, none⟩ = some (.int .i64 l[k].elem.id.n) ∧ w.cell? ⟨g, off + k * 14 + 3, none⟩ = some (.int .i64 l[k].elem.attr.kind) ∧ w.cell? ⟨g, off + k * 14 + 4, none⟩ = some (.string l[k].elem.attr.text) ∧ w.cell? ⟨g, off + k * 14 + 5, none⟩ = some (.int .i64 l[k].elem.attr.n) ∧ w.cell? ⟨g, off + k * 14 + 6, none⟩ = some (.int .i64 l[k].elem.value.kind) ∧ w.cell? ⟨g, off + k * 14 + 7, none⟩ = some (.string l[k].elem.value.text) ∧ w.cell? ⟨g, off + k * 14 + 8, none⟩ = some (.int .i64 l[k].elem.value.n) ∧ w.cell? ⟨g, off + k * 14 + 9, none⟩ = some (.bool l[k].elem.acc) ∧ w.cell? ⟨g, off + k * 14 + 10, none⟩ = some (.bool l[k].elem.goal) ∧ w.cell? ⟨g, off + k * 14 + 11, none⟩ = some (.int .i64 l[k].elem.tag) ∧ w.cell? ⟨g, off + k * 14 + 12, none⟩ = some (.int .i64 l[k].level) ∧ w.cell? ⟨g, off + k * 14 + 13, none⟩ = some (.int .i64 l[k].cause) := by
 obtain ⟨g, off, cs, hA, hD, hg, hr, hc⟩ := h.at_ hk
 have hr2 : cs = TraceT.cells l[k] := hr
 subst hr2
 refine ⟨g, off, hA, hD, hg, by simpa [repTraceT, RepT.flat] using hc 0 _ rfl, by simpa [repTraceT, RepT.flat] using hc 1 _ rfl, by simpa [repTraceT, RepT.flat] using hc 2 _ rfl, by simpa [repTraceT, RepT.flat] using hc 3 _ rfl, by simpa [repTraceT, RepT.flat] using hc 4 _ rfl, by simpa [repTraceT, RepT.flat] using hc 5 _ rfl, by simpa [repTraceT, RepT.flat] using hc 6 _ rfl, by simpa [repTraceT, RepT.flat] using hc 7 _ rfl, by simpa [repTraceT, RepT.flat] using hc 8 _ rfl, by simpa [repTraceT, RepT.flat] using hc 9 _ rfl, by simpa [repTraceT, RepT.flat] using hc 10 _ rfl, by simpa [repTraceT, RepT.flat] using hc 11 _ rfl, by simpa [repTraceT, RepT.flat] using hc 12 _ rfl, by simpa [repTraceT, RepT.flat] using hc 13 _ rfl⟩
theorem opens_TraceT : Opens Try.prog 55 repTraceT :=
 ⟨by kernel_rfl, fun H enc w base spare held n cs x h => by
  have hl2 : cs.length = 14 := (trod_len Try.underlying55 h).trans (by kernel_rfl)
  obtain ⟨m0, y0, h0⟩ := trod_field Try.underlying55 h 0 rfl 53 0 12 rfl rfl (by kernel_rfl)
  obtain ⟨m1, y1, h1⟩ := trod_field Try.underlying55 h 1 rfl 3 12 1 rfl rfl (by kernel_rfl)
  obtain ⟨m2, y2, h2⟩ := trod_field Try.underlying55 h 2 rfl 3 13 1 rfl rfl (by kernel_rfl)
  match cs, hl2 with
  | [v0, v1, v2, v3, v4, v5, v6, v7, v8, v9, v10, v11, v12, v13], _ =>
    simp at h0 h1 h2
    obtain ⟨a0, e0⟩ := opens_Elem.2 H enc w base spare held _ _ _ h0
    have e0 : _ = Elem.cells a0 := e0
    simp [Elem.cells] at e0
    obtain ⟨a1, e1, _⟩ := DataW.trod_int Try.underlying3 h1
    simp at e1
    obtain ⟨a2, e2, _⟩ := DataW.trod_int Try.underlying3 h2
    simp at e2
    obtain ⟨rfl, rfl, rfl, rfl, rfl, rfl, rfl, rfl, rfl, rfl, rfl, rfl⟩ := e0
    subst e1
    subst e2
    exact ⟨⟨a0, a1, a2⟩, rfl⟩⟩
structure HoleT where
 cond : CondT
 binds : List BindT
def repHoleT (n : Nat) : RepT HoleT :=
 { size := 8, rep := fun D w x cs => ∃ A1 c1 A2 c2 A3 c3 A4 c4, cs = [.int .i64 x.cond.kind, .bool x.cond.goal, .string x.cond.id, .slice A1 x.cond.attr.length c1, .slice A2 x.cond.value.length c2, .bool x.cond.acc, .slice A3 x.cond.conds.length c3, .slice A4 x.binds.length c4] ∧ RowR repTestT D w A1 c1 x.cond.attr ∧ RowR repTestT D w A2 c2 x.cond.value ∧ RowR (repCondT n) D w A3 c3 x.cond.conds ∧ RowR repBindT D w A4 c4 x.binds,
   len := by rintro _ _ _ _ ⟨_, _, _, _, _, _, _, _, rfl, _⟩; rfl,
   keep := by
    rintro _ _ _ _ _ _ hs hk ⟨A1, c1, A2, c2, A3, c3, A4, c4, h0, h1, h2, h3, h4⟩
    exact ⟨A1, c1, A2, c2, A3, c3, A4, c4, h0, h1.keep hs hk, h2.keep hs hk, h3.keep hs hk, h4.keep hs hk⟩ }
theorem repHoleT_size (n : Nat) : (repHoleT n).size = 8 := rfl
theorem repHoleT_le {m n : Nat} (hmn : m ≤ n) {D : Nat → Prop} {w : World} {a : HoleT} {cs : List Value} (g : (repHoleT m).rep D w a cs) : (repHoleT n).rep D w a cs := by
 obtain ⟨A1, c1, A2, c2, A3, c3, A4, c4, h0, h1, h2, h3, h4⟩ := g
 exact ⟨A1, c1, A2, c2, A3, c3, A4, c4, h0, h1, h2, rowCondT_le hmn h3, h4⟩
theorem rowHoleT_le {m n : Nat} (h : m ≤ n) {D : Nat → Prop} {w : World} {A : Option Addr} {c : Nat} {l : List HoleT} (g : RowR (repHoleT m) D w A c l) : RowR (repHoleT n) D w A c l := g.imp (by rw [repHoleT_size, repHoleT_size]) (fun _ _ q => repHoleT_le h q)
theorem at_HoleT {n : Nat} {D : Nat → Prop} {w : World} {A : Option Addr} {c k : Nat} {l : List HoleT} (h : RowR (repHoleT n) D w A c l) (hk : k < l.length) : ∃ g off A1 c1 A2 c2 A3 c3 A4 c4, A = some ⟨g, off, none⟩ ∧ D g ∧ g < w.heap.size ∧ w.cell? ⟨g, off + k * 8, none⟩ = some (.int .i64 l[k].cond.kind) ∧ w.cell? ⟨g, off + k * 8 + 1, none⟩ = some (.bool l[k].cond.goal) ∧ w.cell? ⟨g, off + k * 8 + 2, none⟩ = some (.string l[k].cond.id) ∧ w.cell? ⟨g, off + k * 8 + 3, none⟩ = some (.slice A1 l[k].cond.attr.length c1) ∧ w.cell? ⟨g, off + k * 8 + 4, none⟩ = some (.slice A2 l[k].cond.value.length c2) ∧ w.cell? ⟨g, off + k * 8 + 5, none⟩ = some (.bool l[k].cond.acc) ∧ w.cell? ⟨g, off + k * 8 + 6, none⟩ = some (.slice A3 l[k].cond.conds.length c3) ∧ w.cell? ⟨g, off + k * 8 + 7, none⟩ = some (.slice A4 l[k].binds.length c4) ∧ RowR repTestT D w A1 c1 l[k].cond.attr ∧ RowR repTestT D w A2 c2 l[k].cond.value ∧ RowR (repCondT n) D w A3 c3 l[k].cond.conds ∧ RowR repBindT D w A4 c4 l[k].binds := by
 obtain ⟨g, off, cs, hA, hD, hg, ⟨A1, c1, A2, c2, A3, c3, A4, c4, rfl, hrs⟩, hc⟩ := h.at_ hk
 exact ⟨g, off, A1, c1, A2, c2, A3, c3, A4, c4, hA, hD, hg, by simpa [repHoleT] using hc 0 _ rfl, by simpa [repHoleT] using hc 1 _ rfl, by simpa [repHoleT] using hc 2 _ rfl, by simpa [repHoleT] using hc 3 _ rfl, by simpa [repHoleT] using hc 4 _ rfl, by simpa [repHoleT] using hc 5 _ rfl, by simpa [repHoleT] using hc 6 _ rfl, by simpa [repHoleT] using hc 7 _ rfl, hrs⟩
theorem lenHoleT {cs : List Value} (h : cs.length = 8) : ∃ v0 v1 v2 v3 v4 v5 v6 v7, cs = [v0, v1, v2, v3, v4, v5, v6, v7] := by
 match cs, h with
 | [v0, v1, v2, v3, v4, v5, v6, v7], _ => exact ⟨v0, v1, v2, v3, v4, v5, v6, v7, rfl⟩
theorem openN_HoleT {H : Type} (enc : TypeId × Value → H) (w : World) (base : Nat) (spare : Nat → Bool) (held : Bool) : ∀ (fuel : Nat) (cs : List Value) (x : DataW H × List MemPlace), DataW.trod enc Try.prog w base spare held fuel 76 cs = some x → ∃ a : HoleT, (repHoleT fuel).rep (· < w.heap.size) w a cs := by
 intro fuel
 induction fuel using Nat.strongRecOn with
 | _ fuel ih =>
   intro cs x h
   obtain ⟨n, rfl⟩ : ∃ n, fuel = n + 1 := ⟨fuel - 1, by have := trod_pos h; omega⟩
   have hl2 : cs.length = 8 := (trod_len Try.underlying76 h).trans (by kernel_rfl)
   obtain ⟨y0, h0⟩ := trod_fieldN Try.underlying76 h 0 rfl 60 0 7 rfl rfl (by kernel_rfl)
   obtain ⟨y1, h1⟩ := trod_fieldN Try.underlying76 h 1 rfl 74 7 1 rfl rfl (by kernel_rfl)
   obtain ⟨v0, v1, v2, v3, v4, v5, v6, v7, rfl⟩ := lenHoleT hl2
   simp at h0 h1
   obtain ⟨a0, e0⟩ := openN_CondT enc w base spare held _ _ _ h0
   have e0 := repCondT_mono n e0
   obtain ⟨A0_0, c0_0, A0_1, c0_1, A0_2, c0_2, q0, r0_0, r0_1, r0_2⟩ := e0
   simp at q0
   obtain ⟨A1, c1, a1, e1, r1⟩ := row_of_trod (r := repBindT) Try.underlying74 (by decide) opens_BindT.1 (fun n cs x hx => opens_BindT.2 H enc w base spare held n cs x hx) h1
   simp at e1
   obtain ⟨rfl, rfl, rfl, rfl, rfl, rfl, rfl⟩ := q0
   subst e1
   exact ⟨⟨a0, a1⟩, A0_0, c0_0, A0_1, c0_1, A0_2, c0_2, A1, c1, rfl, r0_0, r0_1, rowCondT_le (by omega) r0_2, r1⟩
structure ApartT where
 a : Sym
 b : Sym
 rel : Int
def ApartT.cells (x : ApartT) : List Value := [.int .i64 x.a.kind, .string x.a.text, .int .i64 x.a.n, .int .i64 x.b.kind, .string x.b.text, .int .i64 x.b.n, .int .i64 x.rel]
theorem ApartT.cells_length (x : ApartT) : x.cells.length = 7 := rfl
def repApartT : RepT ApartT := RepT.flat 7 ApartT.cells ApartT.cells_length
theorem at_ApartT {D : Nat → Prop} {w : World} {A : Option Addr} {c k : Nat} {l : List ApartT} (h : RowR repApartT D w A c l) (hk : k < l.length) : ∃ g off, A = some ⟨g, off, none⟩ ∧ D g ∧ g < w.heap.size ∧ w.cell? ⟨g, off + k * 7, none⟩ = some (.int .i64 l[k].a.kind) ∧ w.cell? ⟨g, off + k * 7 + 1, none⟩ = some (.string l[k].a.text) ∧ w.cell? ⟨g, off + k * 7 + 2, none⟩ = some (.int .i64 l[k].a.n) ∧ w.cell? ⟨g, off + k * 7 + 3, none⟩ = some (.int .i64 l[k].b.kind) ∧ w.cell? ⟨g, off + k * 7 + 4, none⟩ = some (.string l[k].b.text) ∧ w.cell? ⟨g, off + k * 7 + 5, none⟩ = some (.int .i64 l[k].b.n) ∧ w.cell? ⟨g, off + k * 7 + 6, none⟩ = some (.int .i64 l[k].rel) := by
 obtain ⟨g, off, cs, hA, hD, hg, hr, hc⟩ := h.at_ hk
 have hr2 : cs = ApartT.cells l[k] := hr
 subst hr2
 refine ⟨g, off, hA, hD, hg, by simpa [repApartT, RepT.flat] using hc 0 _ rfl, by simpa [repApartT, RepT.flat] using hc 1 _ rfl, by simpa [repApartT, RepT.flat] using hc 2 _ rfl, by simpa [repApartT, RepT.flat] using hc 3 _ rfl, by simpa [repApartT, RepT.flat] using hc 4 _ rfl, by simpa [repApartT, RepT.flat] using hc 5 _ rfl, by simpa [repApartT, RepT.flat] using hc 6 _ rfl⟩
theorem opens_ApartT : Opens Try.prog 111 repApartT :=
 ⟨by kernel_rfl, fun H enc w base spare held n cs x h => by
  have hl2 : cs.length = 7 := (trod_len Try.underlying111 h).trans (by kernel_rfl)
  obtain ⟨m0, y0, h0⟩ := trod_field Try.underlying111 h 0 rfl 51 0 3 rfl rfl (by kernel_rfl)
  obtain ⟨m1, y1, h1⟩ := trod_field Try.underlying111 h 1 rfl 51 3 3 rfl rfl (by kernel_rfl)
  obtain ⟨m2, y2, h2⟩ := trod_field Try.underlying111 h 2 rfl 3 6 1 rfl rfl (by kernel_rfl)
  match cs, hl2 with
  | [v0, v1, v2, v3, v4, v5, v6], _ =>
    simp at h0 h1 h2
    obtain ⟨a0, e0⟩ := opens_Sym.2 H enc w base spare held _ _ _ h0
    have e0 : _ = Sym.cells a0 := e0
    simp [Sym.cells] at e0
    obtain ⟨a1, e1⟩ := opens_Sym.2 H enc w base spare held _ _ _ h1
    have e1 : _ = Sym.cells a1 := e1
    simp [Sym.cells] at e1
    obtain ⟨a2, e2, _⟩ := DataW.trod_int Try.underlying3 h2
    simp at e2
    obtain ⟨rfl, rfl, rfl⟩ := e0
    obtain ⟨rfl, rfl, rfl⟩ := e1
    subst e2
    exact ⟨⟨a0, a1, a2⟩, rfl⟩⟩
structure RecordT where
 num : Int
 level : Int
 elems : List TraceT
 holes : List HoleT
 aparts : List ApartT
 news : List Sym
def repRecordT (n : Nat) : RepT RecordT :=
 { size := 6, rep := fun D w x cs => ∃ A1 c1 A2 c2 A3 c3 A4 c4, cs = [.int .i64 x.num, .int .i64 x.level, .slice A1 x.elems.length c1, .slice A2 x.holes.length c2, .slice A3 x.aparts.length c3, .slice A4 x.news.length c4] ∧ RowR repTraceT D w A1 c1 x.elems ∧ RowR (repHoleT n) D w A2 c2 x.holes ∧ RowR repApartT D w A3 c3 x.aparts ∧ RowR repSym D w A4 c4 x.news,
   len := by rintro _ _ _ _ ⟨_, _, _, _, _, _, _, _, rfl, _⟩; rfl,
   keep := by
    rintro _ _ _ _ _ _ hs hk ⟨A1, c1, A2, c2, A3, c3, A4, c4, h0, h1, h2, h3, h4⟩
    exact ⟨A1, c1, A2, c2, A3, c3, A4, c4, h0, h1.keep hs hk, h2.keep hs hk, h3.keep hs hk, h4.keep hs hk⟩ }
theorem repRecordT_size (n : Nat) : (repRecordT n).size = 6 := rfl
theorem repRecordT_le {m n : Nat} (hmn : m ≤ n) {D : Nat → Prop} {w : World} {a : RecordT} {cs : List Value} (g : (repRecordT m).rep D w a cs) : (repRecordT n).rep D w a cs := by
 obtain ⟨A1, c1, A2, c2, A3, c3, A4, c4, h0, h1, h2, h3, h4⟩ := g
 exact ⟨A1, c1, A2, c2, A3, c3, A4, c4, h0, h1, rowHoleT_le hmn h2, h3, h4⟩
theorem rowRecordT_le {m n : Nat} (h : m ≤ n) {D : Nat → Prop} {w : World} {A : Option Addr} {c : Nat} {l : List RecordT} (g : RowR (repRecordT m) D w A c l) : RowR (repRecordT n) D w A c l := g.imp (by rw [repRecordT_size, repRecordT_size]) (fun _ _ q => repRecordT_le h q)
theorem at_RecordT {n : Nat} {D : Nat → Prop} {w : World} {A : Option Addr} {c k : Nat} {l : List RecordT} (h : RowR (repRecordT n) D w A c l) (hk : k < l.length) : ∃ g off A1 c1 A2 c2 A3 c3 A4 c4, A = some ⟨g, off, none⟩ ∧ D g ∧ g < w.heap.size ∧ w.cell? ⟨g, off + k * 6, none⟩ = some (.int .i64 l[k].num) ∧ w.cell? ⟨g, off + k * 6 + 1, none⟩ = some (.int .i64 l[k].level) ∧ w.cell? ⟨g, off + k * 6 + 2, none⟩ = some (.slice A1 l[k].elems.length c1) ∧ w.cell? ⟨g, off + k * 6 + 3, none⟩ = some (.slice A2 l[k].holes.length c2) ∧ w.cell? ⟨g, off + k * 6 + 4, none⟩ = some (.slice A3 l[k].aparts.length c3) ∧ w.cell? ⟨g, off + k * 6 + 5, none⟩ = some (.slice A4 l[k].news.length c4) ∧ RowR repTraceT D w A1 c1 l[k].elems ∧ RowR (repHoleT n) D w A2 c2 l[k].holes ∧ RowR repApartT D w A3 c3 l[k].aparts ∧ RowR repSym D w A4 c4 l[k].news := by
 obtain ⟨g, off, cs, hA, hD, hg, ⟨A1, c1, A2, c2, A3, c3, A4, c4, rfl, hrs⟩, hc⟩ := h.at_ hk
 exact ⟨g, off, A1, c1, A2, c2, A3, c3, A4, c4, hA, hD, hg, by simpa [repRecordT] using hc 0 _ rfl, by simpa [repRecordT] using hc 1 _ rfl, by simpa [repRecordT] using hc 2 _ rfl, by simpa [repRecordT] using hc 3 _ rfl, by simpa [repRecordT] using hc 4 _ rfl, by simpa [repRecordT] using hc 5 _ rfl, hrs⟩
theorem lenRecordT {cs : List Value} (h : cs.length = 6) : ∃ v0 v1 v2 v3 v4 v5, cs = [v0, v1, v2, v3, v4, v5] := by
 match cs, h with
 | [v0, v1, v2, v3, v4, v5], _ => exact ⟨v0, v1, v2, v3, v4, v5, rfl⟩
theorem openN_RecordT {H : Type} (enc : TypeId × Value → H) (w : World) (base : Nat) (spare : Nat → Bool) (held : Bool) : ∀ (fuel : Nat) (cs : List Value) (x : DataW H × List MemPlace), DataW.trod enc Try.prog w base spare held fuel 47 cs = some x → ∃ a : RecordT, (repRecordT fuel).rep (· < w.heap.size) w a cs := by
 intro fuel
 induction fuel using Nat.strongRecOn with
 | _ fuel ih =>
   intro cs x h
   obtain ⟨n, rfl⟩ : ∃ n, fuel = n + 1 := ⟨fuel - 1, by have := trod_pos h; omega⟩
   have hl2 : cs.length = 6 := (trod_len Try.underlying47 h).trans (by kernel_rfl)
   obtain ⟨y0, h0⟩ := trod_fieldN Try.underlying47 h 0 rfl 3 0 1 rfl rfl (by kernel_rfl)
   obtain ⟨y1, h1⟩ := trod_fieldN Try.underlying47 h 1 rfl 3 1 1 rfl rfl (by kernel_rfl)
   obtain ⟨y2, h2⟩ := trod_fieldN Try.underlying47 h 2 rfl 27 2 1 rfl rfl (by kernel_rfl)
   obtain ⟨y3, h3⟩ := trod_fieldN Try.underlying47 h 3 rfl 28 3 1 rfl rfl (by kernel_rfl)
   obtain ⟨y4, h4⟩ := trod_fieldN Try.underlying47 h 4 rfl 29 4 1 rfl rfl (by kernel_rfl)
   obtain ⟨y5, h5⟩ := trod_fieldN Try.underlying47 h 5 rfl 30 5 1 rfl rfl (by kernel_rfl)
   obtain ⟨v0, v1, v2, v3, v4, v5, rfl⟩ := lenRecordT hl2
   simp at h0 h1 h2 h3 h4 h5
   obtain ⟨a0, e0, _⟩ := DataW.trod_int Try.underlying3 h0
   simp at e0
   obtain ⟨a1, e1, _⟩ := DataW.trod_int Try.underlying3 h1
   simp at e1
   obtain ⟨A2, c2, a2, e2, r2⟩ := row_of_trod (r := repTraceT) Try.underlying27 (by decide) opens_TraceT.1 (fun n cs x hx => opens_TraceT.2 H enc w base spare held n cs x hx) h2
   simp at e2
   obtain ⟨A3, c3, a3, e3, r3⟩ := row_of_trodN (r := repHoleT (n + 1)) Try.underlying28 (by rw [repHoleT_size]; decide) (by rw [repHoleT_size]; kernel_rfl) (fun m hm cs x hx => (openN_HoleT enc w base spare held m cs x hx).imp fun _ g => repHoleT_le (by omega) g) h3
   simp at e3
   obtain ⟨A4, c4, a4, e4, r4⟩ := row_of_trod (r := repApartT) Try.underlying29 (by decide) opens_ApartT.1 (fun n cs x hx => opens_ApartT.2 H enc w base spare held n cs x hx) h4
   simp at e4
   obtain ⟨A5, c5, a5, e5, r5⟩ := row_of_trod (r := repSym) Try.underlying30 (by decide) opens_Sym.1 (fun n cs x hx => opens_Sym.2 H enc w base spare held n cs x hx) h5
   simp at e5
   subst e0
   subst e1
   subst e2
   subst e3
   subst e4
   subst e5
   exact ⟨⟨a0, a1, a2, a3, a4, a5⟩, A2, c2, A3, c3, A4, c4, A5, c5, rfl, r2, r3, r4, r5⟩
end Go.Proofs.Ytnfgilbaglfkeaa
namespace Go.Proofs.Ytnfgilbaglfkeaa
open Go.RowKit
inductive Each2 {α β : Type} (R : α → β → Prop) : List α → List β → Prop
 | nil : Each2 R [] []
 | cons {a : α} {b : β} {l : List α} {m : List β} : R a b → Each2 R l m → Each2 R (a :: l) (b :: m)
section
variable {α β : Type} {R R' : α → β → Prop}
theorem Each2.length : ∀ {l : List α} {m : List β}, Each2 R l m → l.length = m.length
 | _, _, .nil => rfl
 | _, _, .cons _ h => by simp [h.length]
theorem Each2.imp (hr : ∀ a b, R a b → R' a b) : ∀ {l : List α} {m : List β}, Each2 R l m → Each2 R' l m
 | _, _, .nil => .nil
 | _, _, .cons h t => .cons (hr _ _ h) (t.imp hr)
theorem Each2.snoc {a : α} {b : β} (hr : R a b) : ∀ {l : List α} {m : List β}, Each2 R l m → Each2 R (l ++ [a]) (m ++ [b])
 | _, _, .nil => .cons hr .nil
 | _, _, .cons h t => .cons h (t.snoc hr)
theorem Each2.append : ∀ {l l' : List α} {m m' : List β}, Each2 R l m → Each2 R l' m' → Each2 R (l ++ l') (m ++ m')
 | _, _, _, _, .nil, h => h
 | _, _, _, _, .cons h t, k => .cons h (t.append k)
theorem Each2.get : ∀ {l : List α} {m : List β}, Each2 R l m → ∀ k, (h : k < l.length) → ∃ h' : k < m.length, R l[k] m[k]
 | _, _, .nil, _, h => absurd h (by simp)
 | _, _, .cons h _, 0, _ => ⟨by simp, h⟩
 | _, _, .cons _ t, k + 1, h => by
   obtain ⟨h1, h2⟩ := t.get k (by simpa using h)
   exact ⟨by simpa using h1, by simpa using h2⟩
end
theorem flatten_get {size : Nat} : ∀ (css : List (List Value)), (∀ cs ∈ css, cs.length = size) → ∀ k, (h : k < css.length) → ∀ j, j < size → css.flatten[k * size + j]? = css[k][j]?
 | [], _, _, h, _, _ => absurd h (by simp)
 | c :: css, hs, 0, _, j, hj => by
   rw [List.flatten_cons, List.getElem?_append_left (by rw [hs c (by simp)]; omega)]; simp
 | c :: css, hs, k + 1, h, j, hj => by
   have hc := hs c (by simp)
   rw [List.flatten_cons, List.getElem?_append_right (by rw [hc, Nat.add_mul]; omega), hc]
   rw [show (k + 1) * size + j - size = k * size + j by rw [Nat.add_mul]; omega]
   exact flatten_get css (fun cs h => hs cs (by simp [h])) k (by simpa using h) j hj
theorem sum_const {α : Type} (n : Nat) : ∀ l : List α, (l.map fun _ => n).sum = l.length * n
 | [] => by simp
 | _ :: l => by simp only [List.map_cons, List.sum_cons, List.length_cons, sum_const n l, Nat.add_mul]; omega
def Aside (w : World) (v : Value) : Nat → Prop := fun j => j < w.heap.size ∧ v.ownBlock ≠ some j
def OwnR {α : Type} (r : RepT α) (e : TypeId) (base : Nat) (w : World) (v : Value) (l : List α) : Prop :=
 ∃ css, w.ownsRow base e r.size v l.length css.flatten ∧ Each2 (fun a cs => r.rep (Aside w v) w a cs) l css
section
variable {α : Type} {r : RepT α} {e : TypeId} {base : Nat} {w w' : World} {v : Value} {l : List α}
theorem OwnR.nil (r : RepT α) (e : TypeId) (base : Nat) (w : World) : OwnR r e base w (.slice none 0 0) [] := ⟨[], ⟨by simp, .inl ⟨rfl, rfl⟩⟩, .nil⟩
theorem OwnR.form (h : OwnR r e base w v l) : ∃ A c, v = .slice A l.length c ∧ l.length ≤ c ∧ c ≤ maxLen ∧ AIn A (fun j => base ≤ j ∧ j < w.heap.size) := by
 obtain ⟨css, hown, _⟩ := h
 rcases hown.2 with ⟨rfl, hn⟩ | ⟨g, cap, cur, rfl, h0, hg, hn, hc, _⟩
 · exact ⟨none, 0, by rw [hn], by omega, Nat.zero_le _, AIn.none_ _⟩
 · exact ⟨_, cap, rfl, hn, hc, fun a ha => by cases ha; exact ⟨h0, Blk.lt (t := e) hg⟩⟩
theorem OwnR.block (h : OwnR r e base w v l) : ∀ k, v.ownBlock = some k → base ≤ k ∧ k < w.heap.size := by
 obtain ⟨A, c, rfl, _, _, hA⟩ := h.form
 intro k hk
 rcases A with _ | a
 · cases hk
 · simp only [Value.ownBlock, Option.some.injEq] at hk
   subst hk
   exact hA a rfl
theorem OwnR.keep (h : OwnR r e base w v l) (hs : w.heap.size ≤ w'.heap.size) (hk : ∀ k, k < w.heap.size → w'.heap[k]? = w.heap[k]?) : OwnR r e base w' v l := by
 obtain ⟨css, hown, he⟩ := h
 refine ⟨css, ⟨hown.1, hown.2.imp id fun ⟨g, cap, cur, hv, h0, hg, hr⟩ => ⟨g, cap, cur, hv, h0, (hk g (Blk.lt (t := e) hg)).trans hg, hr⟩⟩, he.imp fun a cs hr => r.keep hs (fun k hd hl => ⟨⟨by omega, hd.2⟩, hk k hl⟩) hr⟩
theorem OwnR.new_ (h : OwnR r e base w v l) (hb : Below w.heap.size w w') : OwnR r e base w' v l := h.keep hb.size hb.block
theorem OwnR.fr {M : Nat → Prop} (h : OwnR r e base w v l) (hF : Fr M w w') (hM : ∀ k, ¬ M k) : OwnR r e base w' v l := h.keep hF.size (fun k hk => hF.block k hk (hM k))
theorem OwnR.base_ {base' : Nat} (h : OwnR r e base w v l) (hb : base' ≤ base) : OwnR r e base' w v l := by
 obtain ⟨css, hown, he⟩ := h
 exact ⟨css, ⟨hown.1, hown.2.imp id fun ⟨g, cap, cur, hv, h0, hr⟩ => ⟨g, cap, cur, hv, Nat.le_trans hb h0, hr⟩⟩, he⟩
theorem OwnR.row {A : Option Addr} {n c : Nat} (h : OwnR r e base w (.slice A n c) l) : RowR r (· < w.heap.size) w A c l := by
 obtain ⟨A', c', hv, h1, h2, _⟩ := h.form
 injection hv with hA hn hc
 subst hA; subst hc
 obtain ⟨css, hown, he⟩ := h
 refine ⟨h1, h2, fun h0 => ?_⟩
 have hsz : ∀ cs ∈ css, cs.length = r.size := fun cs hcs => by
  obtain ⟨k, hk, rfl⟩ := List.getElem_of_mem hcs
  obtain ⟨_, h3⟩ := he.get k (by rw [he.length]; exact hk)
  exact r.len h3
 rcases hown.2 with ⟨hv, hn0⟩ | ⟨g, cap, cur, hv, _, hg, hn2, hc2, hs2, ht⟩
 · omega
 · injection hv with hA _ hc
   subst hA
   have hgl : g < w.heap.size := Blk.lt (t := e) hg
   refine ⟨g, 0, rfl, hgl, hgl, fun k hk => ?_⟩
   obtain ⟨hk2, hrep⟩ := he.get k hk
   refine ⟨css[k], r.keep (Nat.le_refl _) (fun j hj _ => ⟨hj.1, rfl⟩) hrep, fun j u hu => ?_⟩
   have hj : j < r.size := by rw [← r.len hrep]; exact (List.getElem?_eq_some_iff.1 hu).1
   have hf := flatten_get css hsz k hk2 j hj
   rw [hu, ← ht] at hf
   rw [Nat.zero_add, Blk.cell (t := e) hg]
   have hlt : k * r.size + j < l.length * r.size := by
    have : (k + 1) * r.size ≤ l.length * r.size := Nat.mul_le_mul_right _ hk
    rw [Nat.add_mul] at this; omega
   rw [List.getElem?_take_of_lt hlt] at hf
   rw [← hf]; simp
theorem OwnR.grown {v' : Value} {l2 : List α} {css2 : List (List Value)} (h : OwnR r e base w v l) (hown : w'.ownsRow base e r.size v' (l ++ l2).length ((Classical.choose h).flatten ++ css2.flatten)) (hg : w.grownBy w' v.ownBlock)
 (hv : v'.ownBlock = v.ownBlock ∨ v'.ownBlock = some w.heap.size) (he2 : Each2 (fun a cs => r.rep (Aside w v) w a cs) l2 css2) : OwnR r e base w' v' (l ++ l2) := by
 have hs := Classical.choose_spec h
 have up : ∀ a cs, r.rep (Aside w v) w a cs → r.rep (Aside w' v') w' a cs := fun a cs hr => r.keep hg.size (fun k hd hl => ⟨⟨Nat.lt_of_lt_of_le hd.1 hg.size, fun hk => by
  rcases hv with hv | hv
  · exact hd.2 (hv ▸ hk)
  · rw [hv] at hk; injection hk with hk; omega⟩, hg.block k hl (fun hk => hd.2 hk.symm)⟩) hr
 exact ⟨Classical.choose h ++ css2, by rw [List.flatten_append]; exact hown, (hs.2.imp up).append (he2.imp up)⟩
end
section
variable {P : Program} (w : World)
theorem run_append_srcB (t ty e : TypeId) (i : TypeInfo) (z : Value) (size bytes : Nat) (ht : P.underlying t = some (.slice e)) (hi : P.info? e = some i) (hz : i.zero = some z)
 (hsize : i.size = size) (hby : i.bytes = bytes) (hzs : z.cells.size = size) (hsz : 0 < size)
 (base : Nat) (hbase : base ≤ w.heap.size) (v : Value) (n : Nat) (xs : List Value) (hown : w.ownsRow base e size v n xs) (A : Option Addr) (m c : Nat) (news : List Value) (hl : news.length = m * size)
 (hnews : 0 < m → ∃ ad, A = some ad ∧ ∀ j u, news[j]? = some u → w.cell? (ad.add j) = some u) (h1 : ∀ u ∈ news, u.oneCell' = true)
 (h63 : n + m ≤ maxLen) (hbytes : (n + m) * bytes ≤ 140737488355328) :
 ∃ v' w', (Builtin.append_ #[t, t] ty #[v, .slice A m c]).run P w = .ok v' w' ∧ w'.ownsRow base e size v' (n + m) (xs ++ news) ∧ w.grownBy w' v.ownBlock ∧
   (v' = .slice none 0 0 ↔ v = .slice none 0 0 ∧ m = 0) ∧ (v'.ownBlock = v.ownBlock ∨ v'.ownBlock = some w.heap.size) := by
 rcases Nat.eq_zero_or_pos m with rfl | hm
 · have hn : news = [] := List.eq_nil_of_length_eq_zero (by simpa using hl)
   subst hn
   rcases A with _ | ad
   · refine ⟨v, w, ?_, by simpa using hown, World.grownBy.refl w _, by simp, .inl rfl⟩
     rcases hown.2 with ⟨rfl, rfl⟩ | ⟨g, cap, cur, rfl, _, _, hnc, _⟩
     · simp [Builtin.append_, run_underlying ht, sizeOf, typeInfo, hi, Builtin.lenOf, Builtin.firstCells]
     · simp [Builtin.append_, run_underlying ht, sizeOf, typeInfo, hi, Builtin.lenOf, Builtin.firstCells, hnc, storeCells]
   · exact run_append_own_at w base t ty e i z size bytes ht hi hz hsize hby hzs hsz v n xs hown ad 0 c [] (by simp) (by simp) (by simp) h63 hbytes hbase
 · obtain ⟨ad, rfl, hc⟩ := hnews hm
   exact run_append_own_at w base t ty e i z size bytes ht hi hz hsize hby hzs hsz v n xs hown ad m c news hl hc h1 h63 hbytes hbase
theorem wp_append_srcB {o : Oper} {a : Act} {K : Act → World → Prop} {Q : Exit → Act → World → Prop} (s x : Operand) (t : TypeId)
 (ho : o.op = .call { callee := .builtin .append, args := #[s, x], argTypes := #[t, t] })
 (e : TypeId) (i : TypeInfo) (z : Value) (size bytes : Nat) (ht : P.underlying t = some (.slice e)) (hi : P.info? e = some i) (hz : i.zero = some z)
 (hsize : i.size = size) (hby : i.bytes = bytes) (hzs : z.cells.size = size) (hsz : 0 < size)
 (base : Nat) (hbase : base ≤ w.heap.size) (v : Value) (n : Nat) (xs : List Value) (hs : a.eval s = v) (hown : w.ownsRow base e size v n xs)
 (A : Option Addr) (m c : Nat) (news : List Value) (hx : a.eval x = .slice A m c) (hl : news.length = m * size)
 (hnews : 0 < m → ∃ ad, A = some ad ∧ ∀ j u, news[j]? = some u → w.cell? (ad.add j) = some u) (h1 : ∀ u ∈ news, u.oneCell' = true)
 (h63 : n + m ≤ maxLen) (hbytes : (n + m) * bytes ≤ 140737488355328)
 (h : ∀ v' w', w'.ownsRow base e size v' (n + m) (xs ++ news) → w.grownBy w' v.ownBlock → (v' = .slice none 0 0 ↔ v = .slice none 0 0 ∧ m = 0) → (v'.ownBlock = v.ownBlock ∨ v'.ownBlock = some w.heap.size) → K (a.put o.dst v') w') :
 Oper.wp P o a w K Q := by
 obtain ⟨v', w', hr, h2, h3, h4, h5⟩ := run_append_srcB (P := P) w t o.type e i z size bytes ht hi hz hsize hby hzs hsz base hbase v n xs hown A m c news hl hnews h1 h63 hbytes
 unfold Oper.wp execOp
 simp only [ho, resolve, invoke, builtin, Sem.run_bind, Sem.run_pure, Result.andThen_ok, List.map_toArray, List.map_cons, List.map_nil, hs, hx, hr]
 exact h v' w' h2 h3 h4 h5
theorem step_append_srcB {ops : Array Oper} {o : Oper} {a : Act} {K : Act → World → Prop} {Q : Exit → Act → World → Prop} {E : Prop} (hgd : o.guard = none) (s x : Operand) (t : TypeId)
 (ho : o.op = .call { callee := .builtin .append, args := #[s, x], argTypes := #[t, t] })
 (e : TypeId) (i : TypeInfo) (z : Value) (size bytes : Nat) (ht : P.underlying t = some (.slice e)) (hi : P.info? e = some i) (hz : i.zero = some z)
 (hsize : i.size = size) (hby : i.bytes = bytes) (hzs : z.cells.size = size) (hsz : 0 < size)
 (base : Nat) (hbase : base ≤ w.heap.size) (v : Value) (n : Nat) (xs : List Value) (hs : a.eval s = v) (hown : w.ownsRow base e size v n xs)
 (A : Option Addr) (m c : Nat) (news : List Value) (hx : a.eval x = .slice A m c) (hl : news.length = m * size)
 (hnews : 0 < m → ∃ ad, A = some ad ∧ ∀ j u, news[j]? = some u → w.cell? (ad.add j) = some u) (h1 : ∀ u ∈ news, u.oneCell' = true)
 (h63 : n + m ≤ maxLen) (hbytes : (n + m) * bytes ≤ 140737488355328)
 (h : ∀ v' w', w'.ownsRow base e size v' (n + m) (xs ++ news) → w.grownBy w' v.ownBlock → (v' = .slice none 0 0 ↔ v = .slice none 0 0 ∧ m = 0) → (v'.ownBlock = v.ownBlock ∨ v'.ownBlock = some w.heap.size) → K (a.put o.dst v') w') :
 if Region.wanted o (yielded ops a.tmps) = true then Oper.wp P o a w K Q else E := by
 rw [if_pos (by simp [Region.wanted, hgd])]
 exact wp_append_srcB w s x t ho e i z size bytes ht hi hz hsize hby hzs hsz base hbase v n xs hs hown A m c news hx hl hnews h1 h63 hbytes h
theorem wpList_append_srcB {ops : Array Oper} {rest : List Oper} {o : Oper} {a : Act} {Q : Exit → Act → World → Prop} (hgd : o.guard = none) (s x : Operand) (t : TypeId)
 (ho : o.op = .call { callee := .builtin .append, args := #[s, x], argTypes := #[t, t] })
 (e : TypeId) (i : TypeInfo) (z : Value) (size bytes : Nat) (ht : P.underlying t = some (.slice e)) (hi : P.info? e = some i) (hz : i.zero = some z)
 (hsize : i.size = size) (hby : i.bytes = bytes) (hzs : z.cells.size = size) (hsz : 0 < size)
 (base : Nat) (hbase : base ≤ w.heap.size) (v : Value) (n : Nat) (xs : List Value) (hs : a.eval s = v) (hown : w.ownsRow base e size v n xs)
 (A : Option Addr) (m c : Nat) (news : List Value) (hx : a.eval x = .slice A m c) (hl : news.length = m * size)
 (hnews : 0 < m → ∃ ad, A = some ad ∧ ∀ j u, news[j]? = some u → w.cell? (ad.add j) = some u) (h1 : ∀ u ∈ news, u.oneCell' = true)
 (h63 : n + m ≤ maxLen) (hbytes : (n + m) * bytes ≤ 140737488355328)
 (h : ∀ v' w', w'.ownsRow base e size v' (n + m) (xs ++ news) → w.grownBy w' v.ownBlock → (v' = .slice none 0 0 ↔ v = .slice none 0 0 ∧ m = 0) → (v'.ownBlock = v.ownBlock ∨ v'.ownBlock = some w.heap.size) → wpList P ops Q rest (a.put o.dst v') w') :
 wpList P ops Q (o :: rest) a w :=
 wpList_plain hgd fun _ hK => wp_append_srcB w s x t ho e i z size bytes ht hi hz hsize hby hzs hsz base hbase v n xs hs hown A m c news hx hl hnews h1 h63 hbytes (fun v' w' a b c d => hK _ _ (h v' w' a b c d))
end
section
variable {P : Program} {α : Type} {r : RepT α} (w : World)
theorem wpList_append_R {ops : Array Oper} {rest : List Oper} {o : Oper} {a : Act} {Q : Exit → Act → World → Prop} (hgd : o.guard = none) (s x : Operand) (t : TypeId)
 (ho : o.op = .call { callee := .builtin .append, args := #[s, x], argTypes := #[t, t] })
 (e : TypeId) (i : TypeInfo) (z : Value) (bytes : Nat) (ht : P.underlying t = some (.slice e)) (hi : P.info? e = some i) (hz : i.zero = some z)
 (hsize : i.size = r.size) (hby : i.bytes = bytes) (hzs : z.cells.size = r.size) (hsz : 0 < r.size)
 (base : Nat) (hbase : base ≤ w.heap.size) (v : Value) (l : List α) (hs : a.eval s = v) (hown : OwnR r e base w v l)
 (A : Option Addr) (m c : Nat) (l2 : List α) (css2 : List (List Value)) (hx : a.eval x = .slice A m c) (hm : m = l2.length)
 (hnews : 0 < m → ∃ ad, A = some ad ∧ ∀ j u, css2.flatten[j]? = some u → w.cell? (ad.add j) = some u) (h1 : ∀ u ∈ css2.flatten, u.oneCell' = true)
 (he2 : Each2 (fun a cs => r.rep (Aside w v) w a cs) l2 css2)
 (h63 : l.length + m ≤ maxLen) (hbytes : (l.length + m) * bytes ≤ 140737488355328)
 (h : ∀ v' w', OwnR r e base w' v' (l ++ l2) → w.grownBy w' v.ownBlock → (v'.ownBlock = v.ownBlock ∨ v'.ownBlock = some w.heap.size) → wpList P ops Q rest (a.put o.dst v') w') :
 wpList P ops Q (o :: rest) a w := by
 have hown' := hown
 have hcs := Classical.choose_spec hown
 have hl2 : css2.flatten.length = m * r.size := by
  have hall : ∀ cs ∈ css2, cs.length = r.size := fun cs hcs => by
   obtain ⟨k, hk, rfl⟩ := List.getElem_of_mem hcs
   obtain ⟨_, h3⟩ := he2.get k (by rw [he2.length]; exact hk)
   exact r.len h3
  rw [hm, he2.length, List.length_flatten, List.map_congr_left hall]
  exact sum_const _ _
 refine wpList_append_srcB w hgd s x t ho e i z r.size bytes ht hi hz hsize hby hzs hsz base hbase v l.length _ hs hcs.1 A m c css2.flatten hx hl2 hnews h1 h63 hbytes (fun v' w' g1 g2 g3 g4 => h v' w' ?_ g2 g4)
 subst hm
 exact OwnR.grown hown' (by rw [List.length_append]; exact g1) g2 g4 he2
end
end Go.Proofs.Ytnfgilbaglfkeaa
namespace Go.Proofs.Ytnfgilbaglfkeaa
open Go.RowKit
variable {P : Program}
structure Kept (B : Nat) (F X Y : World) : Prop where
 from_ : KeepsFrom B X Y
 own : ∀ k, B ≤ k → k < F.heap.size → Y.heap[k]? = X.heap[k]?
section
variable {B C : Nat} {F X Y Z : World}
theorem Kept.refl (B : Nat) (F X : World) : Kept B F X X := ⟨⟨Nat.le_refl _, fun _ _ _ h _ => h⟩, fun _ _ _ => rfl⟩
theorem Kept.trans (h : Kept B F X Y) (k : Kept B F Y Z) : Kept B F X Z := ⟨h.1.trans k.1, fun i h1 h2 => (k.2 i h1 h2).trans (h.2 i h1 h2)⟩
theorem Kept.up (h : Kept B F X Y) (hB : B ≤ C) : Kept C F X Y := ⟨KeepsFrom.up h.1 hB, fun i h1 h2 => h.2 i (by omega) h2⟩
theorem Kept.put_ {l : Nat} (h : Kept B F X Y) (hl : l < B) (o : Obj) : Kept B F X (Y.putObj l o) := ⟨KeepsFrom.put_ h.1 hl o, fun i h1 h2 => (World.putObj_heap_other (by omega)).trans (h.2 i h1 h2)⟩
theorem Kept.new_ (h : Below X.heap.size X Y) (hs : F.heap.size ≤ X.heap.size) : Kept B F X Y :=
 ⟨⟨h.size, fun k o _ hk _ => (h.block k (Array.getElem?_eq_some_iff.1 hk).1).trans hk⟩, fun k _ hk => h.block k (by omega)⟩
theorem Kept.of_fr {M : Nat → Prop} (h : Fr M X Y) (hm : ∀ k, B ≤ k → M k → F.heap.size ≤ k ∧ (k < X.heap.size → cellsAt X k)) (hs : F.heap.size ≤ X.heap.size) : Kept B F X Y :=
 ⟨⟨h.size, fun k o hB hk hc => (h.block k (Array.getElem?_eq_some_iff.1 hk).1 (fun hM => by
   obtain ⟨c, t, f, hh⟩ := (hm k hB hM).2 (Array.getElem?_eq_some_iff.1 hk).1
   rw [hh] at hk
   cases hk
   cases hc)).trans hk⟩, fun k h1 h2 => h.block k (by omega) (fun hM => by have := (hm k h1 hM).1; omega)⟩
end
def IterP {α : Type} (P : Program) (gf : Nat) (lb : Array Value) (encs : α → Array Value) (xs : List α) (W : World) (start Kp : World → World → Prop) : Prop :=
 ∀ (l : Nat) (J Jx : World → List α → World → Prop), (∀ F p X Y, J F p X → Priv W.heap.size X Y → J F p Y) → (∀ F p X Y, Jx F p X → Priv W.heap.size X Y → Jx F p Y) →
   (∀ F, start W F → J F [] F) →
   (∀ F pre x post W1, start W F → xs = pre ++ x :: post → J F pre W1 → YieldAt Fence.wide 0 P l (encs x) W1 fun e W' =>
     (e = .returned (.bool true) ∧ J F (pre ++ [x]) W' ∧ Kp W1 W' ∧ Kept W.heap.size F W1 W') ∨ (e = .returned (.bool false) ∧ Jx F (pre ++ [x]) W' ∧ Kept W.heap.size F W1 W')) →
   CallsIn Fence.wide 0 P gf (#[.func (.yield l) #[] #[]] ++ lb) W fun e W' => (∃ v, e = .returned v) ∧ ∃ F, start W F ∧ (J F xs W' ∨ ∃ pre post, xs = pre ++ post ∧ Jx F pre W')
theorem Iter.p {α : Type} {gf : Nat} {lb : Array Value} {encs : α → Array Value} {xs : List α} {W : World} {start Kp : World → World → Prop} (h : Iter P gf lb encs xs W start (fun X Y => Kp X Y ∧ KeepsFrom W.heap.size X Y)) : IterP P gf lb encs xs W start Kp := by
 intro l J Jx h1 h2 h3 h4
 refine (h l (fun p X => ∃ F, start W F ∧ J F p X) (fun p X => ∃ F, start W F ∧ Jx F p X) (fun p X Y ⟨F, a, b⟩ hp => ⟨F, a, h1 F p X Y b hp⟩) (fun p X Y ⟨F, a, b⟩ hp => ⟨F, a, h2 F p X Y b hp⟩) (fun F hF => ⟨F, hF, h3 F hF⟩) ?_).mono ?_
 · rintro pre x post W1 hx ⟨F, hF, hJ⟩
   obtain ⟨fn, tmps, assign, body, hy, hR⟩ := h4 F pre x post W1 hF hx hJ
   refine ⟨fn, tmps, assign, body, hy, hR.mono ?_⟩
   rintro e W' (⟨g1, g2, g3, g4⟩ | ⟨g1, g2, _⟩)
   · exact .inl ⟨g1, ⟨F, hF, g2⟩, g3, g4.1⟩
   · exact .inr ⟨g1, F, hF, g2⟩
 · rintro e W' ⟨hv, (⟨F, hF, hJ⟩ | ⟨pre, post, hx, F, hF, hJ⟩)⟩
   · exact ⟨hv, F, hF, .inl hJ⟩
   · exact ⟨hv, F, hF, .inr ⟨pre, post, hx, hJ⟩⟩
def rPostP {α : Type} (KpW : World → Prop) (B : Nat) (F : World) (I : World → List α → World → Prop) (Ix : World → Code → List α → World → Prop) (p : List α) (W : World) : Exit → Act → World → Prop
 | .normal, _, W' => Kept B F W W' ∧ KpW W' ∧ I F p W'
 | .ret, _, W' => Kept B F W W' ∧ Ix F .ret p W'
 | .exit id, _, W' => Kept B F W W' ∧ Ix F (.exit id) p W'
 | .goto t, _, W' => Kept B F W W' ∧ Ix F (.goto t) p W'
 | .panic _, _, _ => False
 | .outgrown, _, _ => False
theorem wpIn_rangeP {α : Type} {g : Operand} {ps : Array Tmp} {assign body : Code} {Q : Exit → Act → World → Prop} {a : Act} {w : World} {gf : Nat} {lb : Array Value}
 (hg : a.eval g = .func (.func gf) #[] lb) (eg : ∀ args w, (callFunc gf args).run P w = .ok (.enter gf args) w)
 {encs : α → Array Value} {xs : List α} {start Kp : World → World → Prop} (hseq : ∀ W, Below w.heap.size w W → IterP P gf lb encs xs W start Kp)
 (hps : ∀ x, (encs x).size = ps.size) (hKt : ∀ A B C, Kp A B → Kp B C → Kp A C) (hKp : ∀ A B, Priv w.heap.size A B → Kp A B) (hst : ∀ W W1, start W W1 → KeepsFrom w.heap.size W W1)
 (I : World → List α → World → Prop) (Ix : World → Code → List α → World → Prop) (hI : ∀ F p X Y, I F p X → Priv w.heap.size X Y → I F p Y) (hIx : ∀ F c p X Y, Ix F c p X → Priv w.heap.size X Y → Ix F c p Y)
 (h0 : ∀ W F, Below w.heap.size w W → start W F → I F [] F)
 (hround : ∀ (F : World) (l : Nat) (pre : List α) (x : α) (post : List α) (W : World), xs = pre ++ x :: post → w.heap.size ≤ l → I F pre W →
   assign.wpIn (Fence.wide.inRound l) 0 P (Exit.then (fun a1 W1 => Kept w.heap.size F W W1 ∧ ∀ W2, Priv w.heap.size W1 W2 → W2.heap.size = W1.heap.size → (∃ r, W2.heap[l]? = some (.loop r)) →
    body.wpIn (Fence.wide.inRound l) 0 P (rPostP (Kp W) w.heap.size F I Ix (pre ++ [x]) W2) a1 W2) (fun _ _ _ => False))
    { tmps := (ps.zip (encs x)).foldl (fun t (p, v) => t.setIfInBounds p v) a.tmps, defers := [] } W)
 (hdone : ∀ (F : World) (D : Nat) (W : World), w.heap.size ≤ D → I F xs W → W.heap[D]? = some (.deferred (some [])) → Q .normal { a with defers := { target := .collected D, args := #[] } :: a.defers } W)
 (hstop : ∀ (F : World) (D : Nat) (c : Code) (pre post : List α) (W : World), w.heap.size ≤ D → xs = pre ++ post → Ix F c pre W → W.heap[D]? = some (.deferred (some [])) → c.wpIn Fence.wide 0 P Q { a with defers := { target := .collected D, args := #[] } :: a.defers } W) :
 (Code.rangeFunc g ps assign body).wpIn Fence.wide 0 P Q a w := by
 refine wpIn_rangeFunc ?_
 intro fn hfn
 obtain ⟨rec, hrec⟩ : ∃ rec : LoopState → Option Code → Loop, rec = fun st pe => { state := st, pending := pe, fn, tmps := a.tmps, params := ps, assign, body, defers := w.heap.size } := ⟨_, rfl⟩
 obtain ⟨W1, hW1⟩ : ∃ W1, (w.alloc (.deferred (some []))).alloc (.loop (rec .ready none)) = W1 := ⟨_, rfl⟩
 have hL1 : W1.heap[w.heap.size + 1]? = some (.loop (rec .ready none)) := by
  rw [← hW1]; have := World.alloc_heap_new (w.alloc (.deferred (some []))) (.loop (rec .ready none)); rwa [World.size_alloc] at this
 have hK1 : W1.heap[w.heap.size]? = some (.deferred (some [])) := by
  rw [← hW1]; exact (Below.heap_alloc _ _ _ (by simp)).trans (World.alloc_heap_new w _)
 have hb1 : Below w.heap.size w W1 := by
  rw [← hW1]; exact ((Below.refl _ w).alloc (Nat.le_refl _) _).alloc (by simp) _
 have hz1 : W1.heap.size = w.heap.size + 2 := by rw [← hW1]; simp
 refine ⟨w.heap.size + 1, [{ target := .collected w.heap.size, args := #[] }], W1, { target := .fn (.func gf) lb, args := #[.func (.yield (w.heap.size + 1)) #[] #[]] }, W1, gf,
  #[.func (.yield (w.heap.size + 1)) #[] #[]] ++ lb, W1, ?_, ?_, fun _ _ => trivial, ?_, fun h => by simp [Fence.wide] at h, ?_⟩
 · rw [← hW1, hrec]; exact run_enterLoop_outer _ _ _ _ _
 · simp only [resolve, hg]
   simp [go_sem]
 · simp [invoke, go_sem, eg]
 · have keep : ∀ {X Y : World} {k : Nat} {o : Obj}, Priv W1.heap.size X Y → X.heap[k]? = some o → k < W1.heap.size → Y.heap[k]? = some o := fun hp hk hlt =>
    (hp.block _ (Array.getElem?_eq_some_iff.1 hk).1 (.inl hlt)).trans hk
   refine (hseq W1 hb1 (w.heap.size + 1)
    (fun F pre W => (∃ W0, Below w.heap.size w W0 ∧ start W0 F) ∧ I F pre W ∧ W.heap[w.heap.size + 1]? = some (.loop (rec .ready none)) ∧ W.heap[w.heap.size]? = some (.deferred (some [])))
    (fun F pre W => ∃ c, Ix F c pre W ∧ W.heap[w.heap.size + 1]? = some (.loop (rec .done (some c))) ∧ W.heap[w.heap.size]? = some (.deferred (some [])))
    (fun F p X Y ⟨h0, h1, h2, h3⟩ hp => ⟨h0, hI F p X Y h1 (hp.mono (by omega)), keep hp h2 (by omega), keep hp h3 (by omega)⟩)
    (fun F p X Y ⟨c, h1, h2, h3⟩ hp => ⟨c, hIx F c p X Y h1 (hp.mono (by omega)), keep hp h2 (by omega), keep hp h3 (by omega)⟩)
    (fun W2 hs => ⟨⟨W1, hb1, hs⟩, h0 W1 W2 hb1 hs, (hst _ _ hs).same _ _ (by omega) hL1 rfl, (hst _ _ hs).same _ _ (by omega) hK1 rfl⟩) ?_).mono ?_
   · rintro F pre x post W hst0 hx ⟨hw0, hi, hl, hk⟩
     have hy := run_yield (P := P) (args := encs x) hl (by rw [hrec]; exact hps x)
     rw [hrec] at hy
     refine ⟨fn, _, assign, body, hy, roundIn_of_wpIn hfn ?_⟩
     refine wpIn_mono (hround F (w.heap.size + 1) pre x post W hx (by omega) hi) ?_
     rintro e a1 Wa hp
     cases e with
     | normal =>
       obtain ⟨hka, hbody⟩ := hp
       have hla := hka.1.same _ _ (by omega) hl rfl
       have hkd := hka.1.same _ _ (by omega) hk rfl
       have hlt : w.heap.size + 1 < Wa.heap.size := (Array.getElem?_eq_some_iff.1 hla).1
       have hbr := run_beginRound (P := P) hla (by rw [hrec])
       refine ⟨_, hbr, ?_⟩
       have hl2 : (Wa.putObj (w.heap.size + 1) (.loop { rec .ready none with state := .busy })).heap[w.heap.size + 1]? = some (.loop { rec .ready none with state := .busy }) := World.putObj_heap_same hlt
       have hk2 : (Wa.putObj (w.heap.size + 1) (.loop { rec .ready none with state := .busy })).heap[w.heap.size]? = some (.deferred (some [])) := (World.putObj_heap_other (by omega)).trans hkd
       refine wpIn_mono (hbody _ ((Priv.refl _ Wa).putObj (by omega) hla rfl _) (by simp) ⟨_, hl2⟩) ?_
       have fin : ∀ (jump : Option Code) (W3 : World), Kept w.heap.size F (Wa.putObj (w.heap.size + 1) (.loop { rec .ready none with state := .busy })) W3 →
        (Instr.endRound (w.heap.size + 1) jump).run P W3 = .ok (.bool jump.isNone) (W3.putObj (w.heap.size + 1) (.loop (rec (if jump.isNone then .ready else .done) jump))) ∧
        Priv w.heap.size W3 (W3.putObj (w.heap.size + 1) (.loop (rec (if jump.isNone then .ready else .done) jump))) ∧
        (W3.putObj (w.heap.size + 1) (.loop (rec (if jump.isNone then .ready else .done) jump))).heap[w.heap.size + 1]? = some (.loop (rec (if jump.isNone then .ready else .done) jump)) ∧
        (W3.putObj (w.heap.size + 1) (.loop (rec (if jump.isNone then .ready else .done) jump))).heap[w.heap.size]? = some (.deferred (some [])) := fun jump W3 hk3 => by
        have hl3 := hk3.1.same _ _ (by omega) hl2 rfl
        have := run_endRound (P := P) jump hl3
        rw [hrec] at this ⊢
        exact ⟨this, (Priv.refl _ _).putObj (by omega) hl3 rfl _, World.putObj_heap_same (Array.getElem?_eq_some_iff.1 hl3).1, (World.putObj_heap_other (by omega)).trans (hk3.1.same _ _ (Nat.le_refl _) hk2 rfl)⟩
       rintro e a3 W3 hp
       cases e with
       | normal =>
         obtain ⟨hk3, hkp3, hi3⟩ := hp
         obtain ⟨hr, hpv, hl4, hk4⟩ := fin none W3 hk3
         refine ⟨_, _, hr, .inl ⟨rfl, ⟨hw0, hI _ _ _ _ hi3 hpv, hl4, hk4⟩, hKt _ _ _ hkp3 (hKp _ _ hpv), ?_⟩⟩
         exact (((hka.up (by omega)).put_ (by omega) _).trans (hk3.up (by omega))).put_ (by omega) _
       | ret =>
         obtain ⟨hk3, hi3⟩ := hp
         obtain ⟨hr, hpv, hl4, hk4⟩ := fin (some .ret) W3 hk3
         exact ⟨_, _, hr, .inr ⟨rfl, ⟨.ret, hIx _ _ _ _ _ hi3 hpv, hl4, hk4⟩, (((hka.up (by omega)).put_ (by omega) _).trans (hk3.up (by omega))).put_ (by omega) _⟩⟩
       | exit id =>
         obtain ⟨hk3, hi3⟩ := hp
         obtain ⟨hr, hpv, hl4, hk4⟩ := fin (some (.exit id)) W3 hk3
         exact ⟨_, _, hr, .inr ⟨rfl, ⟨.exit id, hIx _ _ _ _ _ hi3 hpv, hl4, hk4⟩, (((hka.up (by omega)).put_ (by omega) _).trans (hk3.up (by omega))).put_ (by omega) _⟩⟩
       | goto t =>
         obtain ⟨hk3, hi3⟩ := hp
         obtain ⟨hr, hpv, hl4, hk4⟩ := fin (some (.goto t)) W3 hk3
         exact ⟨_, _, hr, .inr ⟨rfl, ⟨.goto t, hIx _ _ _ _ _ hi3 hpv, hl4, hk4⟩, (((hka.up (by omega)).put_ (by omega) _).trans (hk3.up (by omega))).put_ (by omega) _⟩⟩
       | panic ch => exact hp.elim
       | outgrown => exact hp.elim
     | exit id => exact hp.elim
     | goto l => exact hp.elim
     | ret => exact hp.elim
     | panic ch => exact hp.elim
     | outgrown => exact hp.elim
   · rintro e W2 ⟨⟨v, rfl⟩, F, _, (⟨_, hi, hl, hk⟩ | ⟨pre, post, hS, c, hi, hl, hk⟩)⟩
     · exact ⟨none, _, by have := run_endLoop (P := P) hl (by rw [hrec]; simp); rw [hrec] at this; exact this, hdone F _ _ (Nat.le_refl _) (hI _ _ _ _ hi ((Priv.refl _ _).putObj (by omega) hl rfl _)) ((World.putObj_heap_other (by omega)).trans hk)⟩
     · exact ⟨some c, _, by have := run_endLoop (P := P) hl (by rw [hrec]; simp); rw [hrec] at this; exact this, hstop F _ c pre post _ (Nat.le_refl _) hS (hIx _ c _ _ _ hi ((Priv.refl _ _).putObj (by omega) hl rfl _)) ((World.putObj_heap_other (by omega)).trans hk)⟩
end Go.Proofs.Ytnfgilbaglfkeaa
namespace Go.Proofs.Ytnfgilbaglfkeaa
open Go.RowKit
variable {P : Program}
def Plus (D : Nat → Prop) (X Y : World) : Nat → Prop := fun k => D k ∨ (X.heap.size ≤ k ∧ k < Y.heap.size)
def FromB (B : Nat) (D : Nat → Prop) : Nat → Prop := fun k => D k ∧ B ≤ k
theorem Plus.same {D : Nat → Prop} {X Y : World} (h : Y.heap.size = X.heap.size) : Plus D X Y = D := by
 funext k; apply propext; unfold Plus; constructor
 · rintro (h | h)
   · exact h
   · omega
 · exact .inl
theorem Plus.sub {D : Nat → Prop} {X Y : World} : ∀ k, D k → Plus D X Y k := fun _ h => .inl h
def Steady {α : Type} (B : Nat) (J : (Nat → Prop) → List α → World → Prop) : Prop := ∀ D p X Y, J D p X → Fr (FromB B D) X Y → J (Plus D X Y) p Y
theorem Steady.same {α : Type} {B : Nat} {J : (Nat → Prop) → List α → World → Prop} (h : Steady B J) {D : Nat → Prop} {p : List α} {X Y : World} (hJ : J D p X) (hF : Fr (FromB B D) X Y) (hz : Y.heap.size = X.heap.size) : J D p Y := by
 have := h D p X Y hJ hF
 rwa [Plus.same hz] at this
def RoundsO {α : Type} (P : Program) (l : Nat) (encs : α → Array Value) (xs : List α) (J Jx : (Nat → Prop) → List α → World → Prop) : Prop :=
 ∀ D pre x post W1, xs = pre ++ x :: post → J D pre W1 → YieldAt Fence.wide 0 P l (encs x) W1 fun e W' =>
   (e = .returned (.bool true) ∧ J D (pre ++ [x]) W' ∧ Fr (fun k => ¬ D k) W1 W') ∨ (e = .returned (.bool false) ∧ Jx D (pre ++ [x]) W' ∧ Fr (fun k => ¬ D k) W1 W')
def ToldO {α : Type} (xs : List α) (J Jx : (Nat → Prop) → List α → World → Prop) (W' : World) : Prop := ∃ D, J D xs W' ∨ ∃ pre post, xs = pre ++ post ∧ Jx D pre W'
def IterO {α : Type} (P : Program) (gf : Nat) (lb : Array Value) (encs : α → Array Value) (xs : List α) (W : World) (D : Nat → Prop) : Prop :=
 ∀ (l : Nat) (J Jx : (Nat → Prop) → List α → World → Prop), Steady W.heap.size J → Steady W.heap.size Jx → J D [] W → RoundsO P l encs xs J Jx →
   CallsIn Fence.wide 0 P gf (#[.func (.yield l) #[] #[]] ++ lb) W fun e W' => (∃ v, e = .returned v) ∧ ToldO xs J Jx W'
theorem Fr.putObj {M : Nat → Prop} {X Y : World} (h : Fr M X Y) {l : Nat} (hl : M l ∨ X.heap.size ≤ l) (o : Obj) : Fr M X (Y.putObj l o) :=
 ⟨h.os, h.tape, h.output, by simpa using h.size, fun k hk hn => (World.putObj_heap_other (by
  rintro rfl
  rcases hl with hl | hl
  · exact hn hl
  · omega)).trans (h.block k hk hn)⟩
def rPostO {α : Type} (D : Nat → Prop) (I : (Nat → Prop) → List α → World → Prop) (Ix : Code → (Nat → Prop) → List α → World → Prop) (p : List α) (W : World) : Exit → Act → World → Prop
 | .normal, _, W' => Fr (fun k => ¬ D k) W W' ∧ I D p W'
 | .ret, _, W' => Fr (fun k => ¬ D k) W W' ∧ Ix .ret D p W'
 | .exit id, _, W' => Fr (fun k => ¬ D k) W W' ∧ Ix (.exit id) D p W'
 | .goto t, _, W' => Fr (fun k => ¬ D k) W W' ∧ Ix (.goto t) D p W'
 | .panic _, _, _ => False
 | .outgrown, _, _ => False
theorem wpIn_rangeO {α : Type} {g : Operand} {ps : Array Tmp} {assign body : Code} {Q : Exit → Act → World → Prop} {a : Act} {w : World} {gf : Nat} {lb : Array Value}
 (hg : a.eval g = .func (.func gf) #[] lb) (eg : ∀ args w, (callFunc gf args).run P w = .ok (.enter gf args) w)
 {encs : α → Array Value} {xs : List α} {D : Nat → Prop} (hD : ∀ k, D k → k < w.heap.size) (hseq : ∀ W, Below w.heap.size w W → IterO P gf lb encs xs W D)
 (hps : ∀ x, (encs x).size = ps.size)
 (I : (Nat → Prop) → List α → World → Prop) (Ix : Code → (Nat → Prop) → List α → World → Prop) (hI : Steady w.heap.size I) (hIx : ∀ c, Steady w.heap.size (Ix c))
 (h0 : I D [] w)
 (hround : ∀ (D : Nat → Prop) (l : Nat) (pre : List α) (x : α) (post : List α) (W : World), xs = pre ++ x :: post → w.heap.size ≤ l → D l → I D pre W →
   assign.wpIn (Fence.wide.inRound l) 0 P (Exit.then (fun a1 W1 => Fr (fun k => ¬ D k) W W1 ∧ ∀ W2, Fr (· = l) W1 W2 → W2.heap.size = W1.heap.size → (∃ r, W2.heap[l]? = some (.loop r)) →
    body.wpIn (Fence.wide.inRound l) 0 P (rPostO D I Ix (pre ++ [x]) W2) a1 W2) (fun _ _ _ => False))
    { tmps := (ps.zip (encs x)).foldl (fun t (p, v) => t.setIfInBounds p v) a.tmps, defers := [] } W)
 (hdone : ∀ (D : Nat → Prop) (d : Nat) (W : World), w.heap.size ≤ d → D d → I D xs W → W.heap[d]? = some (.deferred (some [])) → Q .normal { a with defers := { target := .collected d, args := #[] } :: a.defers } W)
 (hstop : ∀ (D : Nat → Prop) (d : Nat) (c : Code) (pre post : List α) (W : World), w.heap.size ≤ d → D d → xs = pre ++ post → Ix c D pre W → W.heap[d]? = some (.deferred (some [])) → c.wpIn Fence.wide 0 P Q { a with defers := { target := .collected d, args := #[] } :: a.defers } W) :
 (Code.rangeFunc g ps assign body).wpIn Fence.wide 0 P Q a w := by
 refine wpIn_rangeFunc ?_
 intro fn hfn
 obtain ⟨rec, hrec⟩ : ∃ rec : LoopState → Option Code → Loop, rec = fun st pe => { state := st, pending := pe, fn, tmps := a.tmps, params := ps, assign, body, defers := w.heap.size } := ⟨_, rfl⟩
 obtain ⟨W1, hW1⟩ : ∃ W1, (w.alloc (.deferred (some []))).alloc (.loop (rec .ready none)) = W1 := ⟨_, rfl⟩
 have hL1 : W1.heap[w.heap.size + 1]? = some (.loop (rec .ready none)) := by
  rw [← hW1]; have := World.alloc_heap_new (w.alloc (.deferred (some []))) (.loop (rec .ready none)); rwa [World.size_alloc] at this
 have hK1 : W1.heap[w.heap.size]? = some (.deferred (some [])) := by
  rw [← hW1]; exact (Below.heap_alloc _ _ _ (by simp)).trans (World.alloc_heap_new w _)
 have hb1 : Below w.heap.size w W1 := by
  rw [← hW1]; exact ((Below.refl _ w).alloc (Nat.le_refl _) _).alloc (by simp) _
 have hz1 : W1.heap.size = w.heap.size + 2 := by rw [← hW1]; simp
 obtain ⟨U, hU⟩ : ∃ U : (Nat → Prop) → Nat → Prop, U = fun D' k => D' k ∨ (w.heap.size ≤ k ∧ k < w.heap.size + 2) := ⟨_, rfl⟩
 have u0 : ∀ D', U D' w.heap.size := fun D' => by rw [hU]; exact .inr ⟨by omega, by omega⟩
 have u1 : ∀ D', U D' (w.heap.size + 1) := fun D' => by rw [hU]; exact .inr ⟨by omega, by omega⟩
 have us : ∀ D' k, D' k → U D' k := fun D' k h => by rw [hU]; exact .inl h
 have up : ∀ D' (X Y : World), Plus (U D') X Y = U (Plus D' X Y) := fun D' X Y => by
  funext k; apply propext; rw [hU]; unfold Plus; dsimp only; constructor
  · rintro ((h | h) | h)
    · exact .inl (.inl h)
    · exact .inr h
    · exact .inl (.inr h)
  · rintro ((h | h) | h)
    · exact .inl (.inl h)
    · exact .inr h
    · exact .inl (.inr h)
 have hstart : I (U D) [] W1 := by
  have h9 := hI D [] w W1 h0 (Fr.of_new hb1)
  have e : Plus D w W1 = U D := by funext k; rw [hU]; unfold Plus; rw [hz1]
  rwa [e] at h9
 refine ⟨w.heap.size + 1, [{ target := .collected w.heap.size, args := #[] }], W1, { target := .fn (.func gf) lb, args := #[.func (.yield (w.heap.size + 1)) #[] #[]] }, W1, gf,
  #[.func (.yield (w.heap.size + 1)) #[] #[]] ++ lb, W1, ?_, ?_, fun _ _ => trivial, ?_, fun h => by simp [Fence.wide] at h, ?_⟩
 · rw [← hW1, hrec]; exact run_enterLoop_outer _ _ _ _ _
 · simp only [resolve, hg]
   simp [go_sem]
 · simp [invoke, go_sem, eg]
 · refine (hseq W1 hb1 (w.heap.size + 1)
    (fun D' pre W => I (U D') pre W ∧ ¬ D' w.heap.size ∧ ¬ D' (w.heap.size + 1) ∧ W.heap[w.heap.size + 1]? = some (.loop (rec .ready none)) ∧ W.heap[w.heap.size]? = some (.deferred (some [])))
    (fun D' pre W => ¬ D' w.heap.size ∧ ¬ D' (w.heap.size + 1) ∧ ∃ c, Ix c (U D') pre W ∧ W.heap[w.heap.size + 1]? = some (.loop (rec .done (some c))) ∧ W.heap[w.heap.size]? = some (.deferred (some [])))
    (fun D' p X Y ⟨h1, h2, h3, h4, h5⟩ hF => ?_) (fun D' p X Y ⟨h2, h3, c, h1, h4, h5⟩ hF => ?_)
    ⟨hstart, fun h => by have := hD _ h; omega, fun h => by have := hD _ h; omega, hL1, hK1⟩ ?_).mono ?_
   · have z4 := (Array.getElem?_eq_some_iff.1 h4).1
     have z5 := (Array.getElem?_eq_some_iff.1 h5).1
     refine ⟨by rw [← up]; exact hI _ _ _ _ h1 (hF.mono (fun k _ hk => ⟨us _ _ hk.1, by have := hk.2; omega⟩)), ?_, ?_, (hF.block _ z4 (fun hk => h3 hk.1)).trans h4, (hF.block _ z5 (fun hk => h2 hk.1)).trans h5⟩
     · rintro (h | h)
       · exact h2 h
       · omega
     · rintro (h | h)
       · exact h3 h
       · omega
   · have z4 := (Array.getElem?_eq_some_iff.1 h4).1
     have z5 := (Array.getElem?_eq_some_iff.1 h5).1
     refine ⟨?_, ?_, c, by rw [← up]; exact hIx c _ _ _ _ h1 (hF.mono (fun k _ hk => ⟨us _ _ hk.1, by have := hk.2; omega⟩)), (hF.block _ z4 (fun hk => h3 hk.1)).trans h4, (hF.block _ z5 (fun hk => h2 hk.1)).trans h5⟩
     · rintro (h | h)
       · exact h2 h
       · omega
     · rintro (h | h)
       · exact h3 h
       · omega
   · rintro D' pre x post W hx ⟨hi, nd, nl, hl, hk⟩
     have hy := run_yield (P := P) (args := encs x) hl (by rw [hrec]; exact hps x)
     rw [hrec] at hy
     refine ⟨fn, _, assign, body, hy, roundIn_of_wpIn hfn ?_⟩
     refine wpIn_mono (hround (U D') (w.heap.size + 1) pre x post W hx (by omega) (u1 _) hi) ?_
     rintro e a1 Wa hp
     have lu : ∀ {X Y : World}, Fr (fun k => ¬ U D' k) X Y → Fr (fun k => ¬ D' k) X Y := fun h => h.mono (fun k _ hk hd => hk (us _ _ hd))
     cases e with
     | normal =>
       obtain ⟨hfa, hbody⟩ := hp
       have zl := (Array.getElem?_eq_some_iff.1 hl).1
       have zk := (Array.getElem?_eq_some_iff.1 hk).1
       have hla := (hfa.block _ zl (fun hn => hn (u1 _))).trans hl
       have hkd := (hfa.block _ zk (fun hn => hn (u0 _))).trans hk
       have hlt : w.heap.size + 1 < Wa.heap.size := (Array.getElem?_eq_some_iff.1 hla).1
       have hbr := run_beginRound (P := P) hla (by rw [hrec])
       refine ⟨_, hbr, ?_⟩
       have hl2 : (Wa.putObj (w.heap.size + 1) (.loop { rec .ready none with state := .busy })).heap[w.heap.size + 1]? = some (.loop { rec .ready none with state := .busy }) := World.putObj_heap_same hlt
       have hk2 : (Wa.putObj (w.heap.size + 1) (.loop { rec .ready none with state := .busy })).heap[w.heap.size]? = some (.deferred (some [])) := (World.putObj_heap_other (by omega)).trans hkd
       have hfb : Fr (fun k => ¬ D' k) W (Wa.putObj (w.heap.size + 1) (.loop { rec .ready none with state := .busy })) := (lu hfa).trans ((Fr.refl _ Wa).putObj (.inl nl) _)
       refine wpIn_mono (hbody _ ((Fr.refl (· = w.heap.size + 1) Wa).putObj (.inl rfl) _) (by simp) ⟨_, hl2⟩) ?_
       have fin : ∀ (jump : Option Code) (W3 : World), Fr (fun k => ¬ U D' k) (Wa.putObj (w.heap.size + 1) (.loop { rec .ready none with state := .busy })) W3 →
        (Instr.endRound (w.heap.size + 1) jump).run P W3 = .ok (.bool jump.isNone) (W3.putObj (w.heap.size + 1) (.loop (rec (if jump.isNone then .ready else .done) jump))) ∧
        Fr (FromB w.heap.size (U D')) W3 (W3.putObj (w.heap.size + 1) (.loop (rec (if jump.isNone then .ready else .done) jump))) ∧
        Fr (fun k => ¬ D' k) W (W3.putObj (w.heap.size + 1) (.loop (rec (if jump.isNone then .ready else .done) jump))) ∧
        (W3.putObj (w.heap.size + 1) (.loop (rec (if jump.isNone then .ready else .done) jump))).heap[w.heap.size + 1]? = some (.loop (rec (if jump.isNone then .ready else .done) jump)) ∧
        (W3.putObj (w.heap.size + 1) (.loop (rec (if jump.isNone then .ready else .done) jump))).heap[w.heap.size]? = some (.deferred (some [])) := fun jump W3 hk3 => by
        have hl3 := (hk3.block _ (by simpa using hlt) (fun hn => hn (u1 _))).trans hl2
        have hd3 := (hk3.block _ (by have := hlt; simp; omega) (fun hn => hn (u0 _))).trans hk2
        have := run_endRound (P := P) jump hl3
        rw [hrec] at this ⊢
        exact ⟨this, (Fr.refl _ W3).putObj (.inl ⟨u1 _, by omega⟩) _, (hfb.trans (lu hk3)).trans ((Fr.refl _ W3).putObj (.inl nl) _), World.putObj_heap_same (Array.getElem?_eq_some_iff.1 hl3).1, (World.putObj_heap_other (by omega)).trans hd3⟩
       rintro e a3 W3 hp
       cases e with
       | normal =>
         obtain ⟨hk3, hi3⟩ := hp
         obtain ⟨hr, hst, hfr, hl4, hk4⟩ := fin none W3 hk3
         exact ⟨_, _, hr, .inl ⟨rfl, ⟨hI.same hi3 hst (by simp), nd, nl, hl4, hk4⟩, hfr⟩⟩
       | ret =>
         obtain ⟨hk3, hi3⟩ := hp
         obtain ⟨hr, hst, hfr, hl4, hk4⟩ := fin (some .ret) W3 hk3
         exact ⟨_, _, hr, .inr ⟨rfl, ⟨nd, nl, .ret, (hIx .ret).same hi3 hst (by simp), hl4, hk4⟩, hfr⟩⟩
       | exit id =>
         obtain ⟨hk3, hi3⟩ := hp
         obtain ⟨hr, hst, hfr, hl4, hk4⟩ := fin (some (.exit id)) W3 hk3
         exact ⟨_, _, hr, .inr ⟨rfl, ⟨nd, nl, .exit id, (hIx (.exit id)).same hi3 hst (by simp), hl4, hk4⟩, hfr⟩⟩
       | goto t =>
         obtain ⟨hk3, hi3⟩ := hp
         obtain ⟨hr, hst, hfr, hl4, hk4⟩ := fin (some (.goto t)) W3 hk3
         exact ⟨_, _, hr, .inr ⟨rfl, ⟨nd, nl, .goto t, (hIx (.goto t)).same hi3 hst (by simp), hl4, hk4⟩, hfr⟩⟩
       | panic ch => exact hp.elim
       | outgrown => exact hp.elim
     | exit id => exact hp.elim
     | goto l => exact hp.elim
     | ret => exact hp.elim
     | panic ch => exact hp.elim
     | outgrown => exact hp.elim
   · have pst : ∀ (D' : Nat → Prop) (X : World) (o : Obj), Fr (FromB w.heap.size (U D')) X (X.putObj (w.heap.size + 1) o) := fun D' X o => (Fr.refl _ X).putObj (.inl ⟨u1 _, by omega⟩) _
     rintro e W2 ⟨⟨v, rfl⟩, D', (⟨hi, nd, nl, hl, hk⟩ | ⟨pre, post, hS, nd, nl, c, hi, hl, hk⟩)⟩
     · exact ⟨none, _, by have := run_endLoop (P := P) hl (by rw [hrec]; simp); rw [hrec] at this; exact this, hdone (U D') _ _ (Nat.le_refl _) (u0 _) (hI.same hi (pst _ _ _) (by simp)) ((World.putObj_heap_other (by omega)).trans hk)⟩
     · exact ⟨some c, _, by have := run_endLoop (P := P) hl (by rw [hrec]; simp); rw [hrec] at this; exact this, hstop (U D') _ c pre post _ (Nat.le_refl _) (u0 _) hS ((hIx c).same hi (pst _ _ _) (by simp)) ((World.putObj_heap_other (by omega)).trans hk)⟩
end Go.Proofs.Ytnfgilbaglfkeaa
