/-
  Texts put together: Plain, SetLeaf, RowSym, Types, SymWord, EagerT.
-/
import Derived.WalkKit
import Derived.Lib.Strings
import Derived.Test.YtffemfglngikbaaGreatRows
import Derived.Test.YtffemfglngikbaaGreatBa
import Derived.Deep.Cut
namespace Go.Proofs.YtffemfglngikbaaGreat
structure TC {α : Type} (cmp : α → α → Int) : Prop where
 refl : ∀ x, cmp x x = 0
 symm : ∀ x y, cmp x y < 0 ↔ 0 < cmp y x
 trans : ∀ x y z, cmp x y ≤ 0 → cmp y z ≤ 0 → cmp x z ≤ 0
section
variable {α : Type} {cmp : α → α → Int}
theorem TC.eq_symm (h : TC cmp) {x y : α} (e : cmp x y = 0) : cmp y x = 0 := by
 have a := h.symm x y
 have b := h.symm y x
 omega
theorem TC.lt_of_lt_of_le (h : TC cmp) {x y z : α} (a : cmp x y < 0) (b : cmp y z ≤ 0) : cmp x z < 0 := by
 have c := h.symm x z
 have d := h.symm z x
 have e := h.symm x y
 have g := h.symm y x
 by_cases hz : cmp x z < 0
 · exact hz
 · have t := h.trans y z x b (by omega)
   omega
theorem TC.lt_of_le_of_lt (h : TC cmp) {x y z : α} (a : cmp x y ≤ 0) (b : cmp y z < 0) : cmp x z < 0 := by
 have c := h.symm x z
 have d := h.symm z x
 have e := h.symm y z
 have g := h.symm z y
 by_cases hz : cmp x z < 0
 · exact hz
 · have t := h.trans z x y (by omega) a
   omega
theorem TC.lt_trans (h : TC cmp) {x y z : α} (a : cmp x y < 0) (b : cmp y z < 0) : cmp x z < 0 := h.lt_of_lt_of_le a (by omega)
def Srt (cmp : α → α → Int) (l : List α) : Prop := l.Pairwise (fun a b => cmp a b < 0)
def has (cmp : α → α → Int) (l : List α) (x : α) : Bool := l.any (fun y => cmp y x == 0)
def below (cmp : α → α → Int) (l : List α) (x : α) : List α := l.filter (fun y => decide (cmp y x < 0))
def above (cmp : α → α → Int) (l : List α) (x : α) : List α := l.filter (fun y => decide (0 < cmp y x))
def rank (cmp : α → α → Int) (l : List α) (x : α) : Nat := (below cmp l x).length
def put (cmp : α → α → Int) (l : List α) (x : α) : List α := if has cmp l x then l else below cmp l x ++ x :: above cmp l x
def drop (cmp : α → α → Int) (l : List α) (x : α) : List α := l.filter (fun y => !(cmp y x == 0))
def puts (cmp : α → α → Int) (l xs : List α) : List α := xs.foldl (put cmp) l
theorem has_iff {l : List α} {x : α} : has cmp l x = true ↔ ∃ y ∈ l, cmp y x = 0 := by simp [has]
theorem has_false {l : List α} {x : α} : has cmp l x = false ↔ ∀ y ∈ l, cmp y x ≠ 0 := by simp [has]
theorem at_none {l : List α} {x : α} {k : Nat} (h1 : ∀ i, (h : i < l.length) → i < k → cmp l[i] x < 0) (h2 : ∀ i, (h : i < l.length) → k ≤ i → 0 < cmp l[i] x) :
 below cmp l x = l.take k ∧ above cmp l x = l.drop k ∧ has cmp l x = false := by
 have e1 : ∀ y ∈ l.take k, cmp y x < 0 := by
  intro y hy
  obtain ⟨i, hi, rfl⟩ := List.getElem_of_mem hy
  rw [List.getElem_take]
  simp at hi
  exact h1 i (by omega) (by omega)
 have e2 : ∀ y ∈ l.drop k, 0 < cmp y x := by
  intro y hy
  obtain ⟨i, hi, rfl⟩ := List.getElem_of_mem hy
  rw [List.getElem_drop]
  simp at hi
  exact h2 (k + i) (by omega) (by omega)
 refine ⟨?_, ?_, ?_⟩
 · unfold below
   conv => lhs; rw [← List.take_append_drop k l]
   rw [List.filter_append, List.filter_eq_self.2 (fun y hy => by simpa using e1 y hy), List.filter_eq_nil_iff.2 (fun y hy => by have := e2 y hy; simp; omega), List.append_nil]
 · unfold above
   conv => lhs; rw [← List.take_append_drop k l]
   rw [List.filter_append, (List.filter_eq_self (l := l.drop k)).2 (fun y hy => by simpa using e2 y hy), List.filter_eq_nil_iff.2 (fun y hy => by have := e1 y hy; simp; omega), List.nil_append]
 · rw [has_false]
   intro y hy
   rw [← List.take_append_drop k l] at hy
   rcases List.mem_append.1 hy with hy | hy
   · have := e1 y hy; omega
   · have := e2 y hy; omega
theorem Srt.lt {l : List α} (h : Srt cmp l) {i j : Nat} (hij : i < j) (hj : j < l.length) : cmp (l[i]'(by omega)) l[j] < 0 :=
 List.pairwise_iff_getElem.1 h i j (by omega) hj hij
theorem at_some (t : TC cmp) {l : List α} (hs : Srt cmp l) {x : α} {k : Nat} (hk : k < l.length) (e : cmp l[k] x = 0) :
 below cmp l x = l.take k ∧ above cmp l x = l.drop (k + 1) ∧ has cmp l x = true ∧ drop cmp l x = l.take k ++ l.drop (k + 1) := by
 have e1 : ∀ y ∈ l.take k, cmp y x < 0 := by
  intro y hy
  obtain ⟨i, hi, rfl⟩ := List.getElem_of_mem hy
  rw [List.getElem_take]
  simp at hi
  exact t.lt_of_lt_of_le (hs.lt (by omega) hk) (by omega)
 have e2 : ∀ y ∈ l.drop (k + 1), 0 < cmp y x := by
  intro y hy
  obtain ⟨i, hi, rfl⟩ := List.getElem_of_mem hy
  rw [List.getElem_drop]
  simp at hi
  have h1 : cmp x (l[k + 1 + i]'(by omega)) < 0 := t.lt_of_le_of_lt (y := l[k]) (by have := t.eq_symm e; omega) (hs.lt (by omega) (by omega))
  exact (t.symm _ _).1 h1
 have hl : l = l.take k ++ l[k] :: l.drop (k + 1) := by
  rw [List.getElem_cons_drop, List.take_append_drop]
 refine ⟨?_, ?_, ?_, ?_⟩
 · unfold below
   conv => lhs; rw [hl]
   rw [List.filter_append, List.filter_cons, List.filter_eq_self.2 (fun y hy => by simpa using e1 y hy), List.filter_eq_nil_iff.2 (fun y hy => by have := e2 y hy; simp; omega)]
   simp [e]
 · unfold above
   conv => lhs; rw [hl]
   rw [List.filter_append, List.filter_cons, List.filter_eq_nil_iff.2 (fun y hy => by have := e1 y hy; simp; omega), (List.filter_eq_self (l := l.drop (k + 1))).2 (fun y hy => by simpa using e2 y hy)]
   simp [e]
 · rw [has_iff]; exact ⟨_, List.getElem_mem hk, e⟩
 · unfold drop
   conv => lhs; rw [hl]
   rw [List.filter_append, List.filter_cons, List.filter_eq_self.2 (fun y hy => by have := e1 y hy; simp; omega), (List.filter_eq_self (l := l.drop (k + 1))).2 (fun y hy => by have := e2 y hy; simp; omega)]
   simp [e]
theorem rank_none {l : List α} {x : α} {k : Nat} (hk : k ≤ l.length) (h1 : ∀ i, (h : i < l.length) → i < k → cmp l[i] x < 0) (h2 : ∀ i, (h : i < l.length) → k ≤ i → 0 < cmp l[i] x) : rank cmp l x = k := by
 unfold rank; rw [(at_none h1 h2).1]; simp; omega
theorem rank_some (t : TC cmp) {l : List α} (hs : Srt cmp l) {x : α} {k : Nat} (hk : k < l.length) (e : cmp l[k] x = 0) : rank cmp l x = k := by
 unfold rank; rw [(at_some t hs hk e).1]; simp; omega
theorem place (t : TC cmp) {l : List α} (hs : Srt cmp l) (x : α) :
 (has cmp l x = false ∧ l = below cmp l x ++ above cmp l x) ∨ (∃ y, has cmp l x = true ∧ cmp y x = 0 ∧ l = below cmp l x ++ y :: above cmp l x) := by
 induction l with
 | nil => exact .inl ⟨rfl, rfl⟩
 | cons a r ih =>
   have hr : Srt cmp r := (List.pairwise_cons.1 hs).2
   have ha : ∀ y ∈ r, cmp a y < 0 := (List.pairwise_cons.1 hs).1
   by_cases h1 : cmp a x < 0
   · rcases ih hr with ⟨h2, h3⟩ | ⟨y, h2, h3, h4⟩
     · left
       refine ⟨?_, ?_⟩
       · simp only [has, List.any_cons, Bool.or_eq_false_iff]; exact ⟨by simp; omega, h2⟩
       · have e1 : below cmp (a :: r) x = a :: below cmp r x := by simp [below, h1]
         have e2 : above cmp (a :: r) x = above cmp r x := by unfold above; rw [List.filter_cons, if_neg (by simp; omega)]
         rw [e1, e2, List.cons_append, ← h3]
     · right
       refine ⟨y, ?_, h3, ?_⟩
       · simp only [has, List.any_cons, Bool.or_eq_true]; exact .inr h2
       · have e1 : below cmp (a :: r) x = a :: below cmp r x := by simp [below, h1]
         have e2 : above cmp (a :: r) x = above cmp r x := by unfold above; rw [List.filter_cons, if_neg (by simp; omega)]
         rw [e1, e2, List.cons_append, ← h4]
   · have hall : ∀ y ∈ r, 0 < cmp y x := fun y hy => (t.symm x y).1 (t.lt_of_le_of_lt (y := a) (by have := t.symm a x; have := t.symm x a; omega) (ha y hy))
     have b0 : below cmp r x = [] := List.filter_eq_nil_iff.2 (fun y hy => by have := hall y hy; simp; omega)
     have a0 : above cmp r x = r := List.filter_eq_self.2 (fun y hy => by simpa using hall y hy)
     have n0 : has cmp r x = false := has_false.2 (fun y hy => by have := hall y hy; omega)
     have e1 : below cmp (a :: r) x = [] := by unfold below; rw [List.filter_cons, if_neg (by simpa using h1)]; exact b0
     by_cases h2 : cmp a x = 0
     · right
       refine ⟨a, has_iff.2 ⟨a, by simp, h2⟩, h2, ?_⟩
       have e2 : above cmp (a :: r) x = r := by unfold above; rw [List.filter_cons, if_neg (by simp; omega)]; exact a0
       rw [e1, e2]; rfl
     · left
       refine ⟨?_, ?_⟩
       · simp only [has, List.any_cons, Bool.or_eq_false_iff]; exact ⟨by simpa using h2, n0⟩
       · have e2 : above cmp (a :: r) x = a :: r := by unfold above; rw [List.filter_cons, if_pos (by simp; omega)]; exact congrArg _ a0
         rw [e1, e2]; rfl
theorem mem_below {l : List α} {x y : α} : y ∈ below cmp l x ↔ y ∈ l ∧ cmp y x < 0 := by simp [below]
theorem mem_above {l : List α} {x y : α} : y ∈ above cmp l x ↔ y ∈ l ∧ 0 < cmp y x := by simp [above]
theorem Srt.put (t : TC cmp) {l : List α} (hs : Srt cmp l) (x : α) : Srt cmp (put cmp l x) := by
 unfold YtffemfglngikbaaGreat.put
 split
 · exact hs
 · refine List.pairwise_append.2 ⟨hs.sublist List.filter_sublist, List.pairwise_cons.2 ⟨fun y hy => ?_, hs.sublist List.filter_sublist⟩, fun y hy z hz => ?_⟩
   · exact (t.symm x y).2 (mem_above.1 hy).2
   · rcases List.mem_cons.1 hz with rfl | hz
     · exact (mem_below.1 hy).2
     · exact t.lt_trans (mem_below.1 hy).2 ((t.symm x z).2 (mem_above.1 hz).2)
theorem Srt.drop {l : List α} (hs : Srt cmp l) (x : α) : Srt cmp (drop cmp l x) := hs.sublist List.filter_sublist
theorem Srt.nil : Srt cmp ([] : List α) := List.Pairwise.nil
theorem Srt.puts (t : TC cmp) : ∀ (xs : List α) {l : List α}, Srt cmp l → Srt cmp (puts cmp l xs)
 | [], _, h => h
 | x :: xs, _, h => Srt.puts t xs (h.put t x)
theorem puts_snoc (l xs : List α) (x : α) : puts cmp l (xs ++ [x]) = put cmp (puts cmp l xs) x := by simp [puts]
theorem length_below_above {l : List α} {x : α} (t : TC cmp) (hs : Srt cmp l) (h : has cmp l x = false) : (below cmp l x).length + (above cmp l x).length = l.length := by
 rcases place t hs x with ⟨_, e⟩ | ⟨y, h', _⟩
 · conv => rhs; rw [e]
   simp
 · rw [h] at h'; cases h'
theorem length_put_le (t : TC cmp) {l : List α} (hs : Srt cmp l) (x : α) : (put cmp l x).length ≤ l.length + 1 := by
 unfold YtffemfglngikbaaGreat.put
 by_cases h : has cmp l x = true
 · rw [if_pos h]; omega
 · rw [if_neg h]
   have := length_below_above t hs (x := x) (by simpa using h)
   simp; omega
theorem length_puts_le (t : TC cmp) : ∀ (xs : List α) {l : List α}, Srt cmp l → (puts cmp l xs).length ≤ l.length + xs.length
 | [], _, _ => by simp [puts]
 | x :: xs, l, h => by
   have h1 := length_puts_le t xs (h.put t x)
   have h2 := length_put_le t h x
   have e : puts cmp l (x :: xs) = puts cmp (put cmp l x) xs := rfl
   rw [e]; simp; omega
theorem rank_le (l : List α) (x : α) : rank cmp l x ≤ l.length := List.length_filter_le _ _
theorem take_of_app {l B A : List α} (e : l = B ++ A) : l.take B.length = B := by subst e; simp
theorem drop_of_app {l B A : List α} (e : l = B ++ A) : l.drop B.length = A := by subst e; simp
theorem get_of_app {l B A : List α} {y : α} (e : l = B ++ y :: A) : l[B.length]? = some y := by subst e; simp
theorem put_eq (t : TC cmp) {l : List α} (hs : Srt cmp l) {x : α} (h : has cmp l x = false) : put cmp l x = l.take (rank cmp l x) ++ x :: l.drop (rank cmp l x) := by
 rcases place t hs x with ⟨_, e⟩ | ⟨y, h', _⟩
 · have e1 : l.take (rank cmp l x) = below cmp l x := take_of_app e
   have e2 : l.drop (rank cmp l x) = above cmp l x := drop_of_app e
   rw [e1, e2]
   unfold YtffemfglngikbaaGreat.put
   rw [if_neg (by rw [h]; simp)]
 · rw [h] at h'; cases h'
theorem put_has {l : List α} {x : α} (h : has cmp l x = true) : put cmp l x = l := by unfold YtffemfglngikbaaGreat.put; rw [if_pos h]
theorem length_put (t : TC cmp) {l : List α} (hs : Srt cmp l) {x : α} (h : has cmp l x = false) : (put cmp l x).length = l.length + 1 := by
 rw [put_eq t hs h]
 have := rank_le (cmp := cmp) l x
 simp; omega
theorem drop_eq (t : TC cmp) {l : List α} (hs : Srt cmp l) {x : α} (h : has cmp l x = true) : rank cmp l x < l.length ∧ drop cmp l x = l.take (rank cmp l x) ++ l.drop (rank cmp l x + 1) ∧ ∃ hk : rank cmp l x < l.length, cmp l[rank cmp l x] x = 0 := by
 rcases place t hs x with ⟨h', _⟩ | ⟨y, _, ey, e⟩
 · rw [h] at h'; cases h'
 · have hk : rank cmp l x < l.length := by
    have h2 : l[rank cmp l x]? = some y := get_of_app e
    exact (List.getElem?_eq_some_iff.1 h2).1
   have hy : l[rank cmp l x] = y := by
    have h1 : l[rank cmp l x]? = some y := get_of_app e
    rw [List.getElem?_eq_getElem hk] at h1
    exact Option.some.inj h1
   have e0 : cmp l[rank cmp l x] x = 0 := by rw [hy]; exact ey
   exact ⟨hk, (at_some t hs hk e0).2.2.2, hk, e0⟩
def shiftAt (l : List α) (x : α) (i : Nat) : List α := l.take i ++ (l ++ [x]).getD i x :: l.drop i
theorem shiftAt_length (l : List α) (x : α) {i : Nat} (h : i ≤ l.length) : (shiftAt l x i).length = l.length + 1 := by simp [shiftAt]; omega
theorem shiftAt_start (l : List α) (x : α) : shiftAt l x l.length = l ++ [x] := by simp [shiftAt]
theorem shiftAt_read (l : List α) (x : α) {j : Nat} (h : j < l.length) (h' : j < (shiftAt l x (j + 1)).length) : (shiftAt l x (j + 1))[j] = l[j] := by
 apply Option.some.inj
 rw [← List.getElem?_eq_getElem]
 unfold shiftAt
 rw [List.getElem?_append_left (by simp; omega)]
 simp [h]
theorem shiftAt_step (l : List α) (x : α) {j : Nat} (h : j < l.length) : (shiftAt l x (j + 1)).set (j + 1) l[j] = shiftAt l x j := by
 unfold shiftAt
 rw [List.set_append_right _ _ (by simp; omega)]
 have e : (j + 1 - (l.take (j + 1)).length) = 0 := by simp; omega
 rw [e, List.set_cons_zero, List.take_succ_eq_append_getElem h, List.append_assoc]
 have e2 : (l ++ [x]).getD j x = l[j] := by rw [List.getD_eq_getElem?_getD, List.getElem?_append_left h, List.getElem?_eq_getElem h]; rfl
 rw [e2, ← List.getElem_cons_drop h]
 rfl
theorem shiftAt_end (l : List α) (x : α) {k : Nat} (h : k ≤ l.length) : (shiftAt l x k).set k x = l.take k ++ x :: l.drop k := by
 unfold shiftAt
 rw [List.set_append_right _ _ (by simp; omega)]
 have e : (k - (l.take k).length) = 0 := by simp; omega
 rw [e, List.set_cons_zero]
end
theorem bytesLess_irrefl : ∀ x : List UInt8, Op.bytesLess x x = false
 | [] => rfl
 | a :: x => by simp [Op.bytesLess, bytesLess_irrefl x]
theorem bytesLess_trans : ∀ {x y z : List UInt8}, Op.bytesLess x y = true → Op.bytesLess y z = true → Op.bytesLess x z = true
 | _, [], _, h, _ => by simp [Op.bytesLess] at h
 | _, _ :: _, [], _, h => by simp [Op.bytesLess] at h
 | [], _ :: _, _ :: _, _, _ => by simp [Op.bytesLess]
 | a :: x, b :: y, c :: z, h1, h2 => by
   simp only [Op.bytesLess, Bool.or_eq_true, Bool.and_eq_true, decide_eq_true_eq, beq_iff_eq] at h1 h2 ⊢
   rcases h1 with h1 | ⟨rfl, h1⟩
   · rcases h2 with h2 | ⟨rfl, h2⟩
     · exact .inl (UInt8.lt_trans h1 h2)
     · exact .inl h1
   · rcases h2 with h2 | ⟨rfl, h2⟩
     · exact .inl h2
     · exact .inr ⟨rfl, bytesLess_trans h1 h2⟩
theorem bytesLess_total : ∀ (x y : List UInt8), Op.bytesLess x y = false → Op.bytesLess y x = false → x = y
 | [], [], _, _ => rfl
 | [], _ :: _, h, _ => by simp [Op.bytesLess] at h
 | _ :: _, [], _, h => by simp [Op.bytesLess] at h
 | a :: x, b :: y, h1, h2 => by
   simp only [Op.bytesLess, Bool.or_eq_false_iff, decide_eq_false_iff_not, Bool.and_eq_false_iff, beq_eq_false_iff_ne] at h1 h2
   obtain ⟨h1, h3⟩ := h1
   obtain ⟨h2, h4⟩ := h2
   have e : a = b := by
    apply UInt8.toNat_inj.1
    simp only [UInt8.lt_iff_toNat_lt] at h1 h2
    omega
   subst e
   rw [bytesLess_total x y (h3.resolve_left (fun h => h rfl)) (h4.resolve_left (fun h => h rfl))]
theorem bytesLess_asymm {x y : List UInt8} (h : Op.bytesLess x y = true) : Op.bytesLess y x = false := by
 cases e : Op.bytesLess y x
 · rfl
 · have := bytesLess_trans h e; rw [bytesLess_irrefl] at this; cases this
def cmpStr (a b : ByteArray) : Int := if Op.bytesLess a.toList b.toList = true then -1 else if a.toList = b.toList then 0 else 1
theorem tc_str : TC cmpStr := by
 have key : ∀ a b : ByteArray, (cmpStr a b = -1 ∧ Op.bytesLess a.toList b.toList = true ∧ Op.bytesLess b.toList a.toList = false ∧ a.toList ≠ b.toList) ∨
  (cmpStr a b = 0 ∧ Op.bytesLess a.toList b.toList = false ∧ Op.bytesLess b.toList a.toList = false ∧ a.toList = b.toList) ∨
  (cmpStr a b = 1 ∧ Op.bytesLess a.toList b.toList = false ∧ Op.bytesLess b.toList a.toList = true ∧ a.toList ≠ b.toList) := by
  intro a b
  unfold cmpStr
  cases h1 : Op.bytesLess a.toList b.toList
  · cases h2 : Op.bytesLess b.toList a.toList
    · have e := bytesLess_total _ _ h1 h2
      simp [e]
    · have hne : a.toList ≠ b.toList := fun e => by rw [e, bytesLess_irrefl] at h2; cases h2
      simp [hne]
  · have h2 := bytesLess_asymm h1
    have hne : a.toList ≠ b.toList := fun e => by rw [e, bytesLess_irrefl] at h1; cases h1
    simp [h2, hne]
 constructor
 · intro x; simp [cmpStr, bytesLess_irrefl]
 · intro x y
   rcases key x y with ⟨e, a, b, c⟩ | ⟨e, a, b, c⟩ | ⟨e, a, b, c⟩ <;> rcases key y x with ⟨e', a', b', c'⟩ | ⟨e', a', b', c'⟩ | ⟨e', a', b', c'⟩ <;> rw [e, e'] <;> simp_all
 · intro x y z h1 h2
   rcases key x y with ⟨e, a, b, c⟩ | ⟨e, a, b, c⟩ | ⟨e, a, b, c⟩ <;> rcases key y z with ⟨e', a', b', c'⟩ | ⟨e', a', b', c'⟩ | ⟨e', a', b', c'⟩ <;> rw [e] at h1 <;> rw [e'] at h2 <;> (try omega)
   · have := bytesLess_trans a a'; unfold cmpStr; rw [if_pos this]; omega
   · rw [c'] at a; unfold cmpStr; rw [if_pos a]; omega
   · rw [← c] at a'; unfold cmpStr; rw [if_pos a']; omega
   · unfold cmpStr; rw [c, c', if_neg (by rw [bytesLess_irrefl]; simp), if_pos rfl]; omega
theorem toList_inj {a b : ByteArray} (h : a.toList = b.toList) : a = b := by
 have e : ∀ x : ByteArray, x.toList = x.data.toList := Lib.toList_data
 rw [e, e] at h
 cases a; cases b
 simp only [ByteArray.mk.injEq]
 exact Array.toList_inj.1 h
theorem cmpStr_eq {a b : ByteArray} : cmpStr a b = 0 ↔ a = b := by
 constructor
 · intro h
   unfold cmpStr at h
   split at h
   · omega
   · split at h
     · exact toList_inj ‹_›
     · omega
 · rintro rfl; simp [cmpStr, bytesLess_irrefl]
structure Sym where
 kind : Int
 text : ByteArray
 n : Int
theorem Sym.ext' {a b : Sym} (h1 : a.kind = b.kind) (h2 : a.text = b.text) (h3 : a.n = b.n) : a = b := by cases a; cases b; simp_all
instance : DecidableEq Sym := fun a b => decidable_of_iff (a.kind = b.kind ∧ a.text = b.text ∧ a.n = b.n) ⟨fun ⟨h1, h2, h3⟩ => Sym.ext' h1 h2 h3, fun h => by subst h; exact ⟨rfl, rfl, rfl⟩⟩
instance : Inhabited Sym := ⟨⟨0, ⟨#[]⟩, 0⟩⟩
end Go.Proofs.YtffemfglngikbaaGreat
namespace Go.Proofs.YtffemfglngikbaaGreat
open Go.RowKit
def Sym.cells (s : Sym) : List Value := [.int .i64 s.kind, .string s.text, .int .i64 s.n]
theorem Sym.cells_length (s : Sym) : s.cells.length = 3 := rfl
end Go.Proofs.YtffemfglngikbaaGreat
namespace Go.Proofs.YtffemfglngikbaaGreat
open Go.RowKit Go.ChangeShapes Go.WideShapes Go.Deep
theorem reads_Sym : Reads Tryz.prog 38 3 Sym.cells :=
 ⟨by kernel_rfl, fun H enc w base spare held n cs x h => by
  obtain ⟨y0, y1, y2, n', _, hl, h0, h1, h2⟩ := trod_struct3 Tryz.underlying38 h
  have hl3 : cs.length = 3 := hl.trans (by kernel_rfl)
  have c3 : Tryz.prog.cellsOf 3 = 1 := by kernel_rfl
  have c9 : Tryz.prog.cellsOf 9 = 1 := by kernel_rfl
  simp only [c3, c9] at h0 h1 h2
  match cs, hl3 with
  | [v0, v1, v2], _ =>
    simp at h0 h1 h2
    obtain ⟨a, e0, _⟩ := DataW.trod_int Tryz.underlying3 h0
    obtain ⟨b, e1, _⟩ := DataW.trod_string Tryz.underlying9 h1
    obtain ⟨c, e2, _⟩ := DataW.trod_int Tryz.underlying3 h2
    simp at e0 e1 e2
    subst e0; subst e1; subst e2
    exact ⟨⟨a, b, c⟩, rfl⟩⟩
end Go.Proofs.YtffemfglngikbaaGreat
namespace Go.Proofs.YtffemfglngikbaaGreat
open Go.RowKit Go.ChangeShapes Go.WideShapes Go.Deep
def repStr : RepT ByteArray := RepT.flat 1 (fun s : ByteArray => [Value.string s]) (fun _ => rfl)
def repSym : RepT Sym := RepT.flat 3 Sym.cells Sym.cells_length
theorem opens_Sym : Opens Tryz.prog 38 repSym := opens_of_reads Sym.cells_length reads_Sym
theorem at_Sym {D : Nat → Prop} {w : World} {A : Option Addr} {c k : Nat} {l : List Sym} (h : RowR repSym D w A c l) (hk : k < l.length) : ∃ g off, A = some ⟨g, off, none⟩ ∧ D g ∧ g < w.heap.size ∧ w.cell? ⟨g, off + k * 3, none⟩ = some (.int .i64 l[k].kind) ∧ w.cell? ⟨g, off + k * 3 + 1, none⟩ = some (.string l[k].text) ∧ w.cell? ⟨g, off + k * 3 + 2, none⟩ = some (.int .i64 l[k].n) := by
 obtain ⟨g, off, cs, hA, hD, hg, hr, hc⟩ := h.at_ hk
 have hr2 : cs = Sym.cells l[k] := hr
 subst hr2
 refine ⟨g, off, hA, hD, hg, by simpa [repSym, RepT.flat] using hc 0 _ rfl, by simpa [repSym, RepT.flat] using hc 1 _ rfl, by simpa [repSym, RepT.flat] using hc 2 _ rfl⟩
structure Elem where
 id : Sym
 attr : Sym
 value : Sym
 acc : Bool
 goal : Bool
 tag : Int
def Elem.cells (x : Elem) : List Value := [.int .i64 x.id.kind, .string x.id.text, .int .i64 x.id.n, .int .i64 x.attr.kind, .string x.attr.text, .int .i64 x.attr.n, .int .i64 x.value.kind, .string x.value.text, .int .i64 x.value.n, .bool x.acc, .bool x.goal, .int .i64 x.tag]
theorem Elem.cells_length (x : Elem) : x.cells.length = 12 := rfl
structure TestT where
 rel : Int
 var : ByteArray
 sym : Sym
 list : List Sym
def repTestT : RepT TestT :=
 { size := 6, rep := fun D w x cs => ∃ A1 c1, cs = [.int .i64 x.rel, .string x.var, .int .i64 x.sym.kind, .string x.sym.text, .int .i64 x.sym.n, .slice A1 x.list.length c1] ∧ RowR repSym D w A1 c1 x.list,
   len := by rintro _ _ _ _ ⟨_, _, rfl, _⟩; rfl,
   keep := by
    rintro _ _ _ _ _ _ hs hk ⟨A1, c1, h0, h1⟩
    exact ⟨A1, c1, h0, h1.keep hs hk⟩ }
theorem at_TestT {D : Nat → Prop} {w : World} {A : Option Addr} {c k : Nat} {l : List TestT} (h : RowR repTestT D w A c l) (hk : k < l.length) : ∃ g off A1 c1, A = some ⟨g, off, none⟩ ∧ D g ∧ g < w.heap.size ∧ w.cell? ⟨g, off + k * 6, none⟩ = some (.int .i64 l[k].rel) ∧ w.cell? ⟨g, off + k * 6 + 1, none⟩ = some (.string l[k].var) ∧ w.cell? ⟨g, off + k * 6 + 2, none⟩ = some (.int .i64 l[k].sym.kind) ∧ w.cell? ⟨g, off + k * 6 + 3, none⟩ = some (.string l[k].sym.text) ∧ w.cell? ⟨g, off + k * 6 + 4, none⟩ = some (.int .i64 l[k].sym.n) ∧ w.cell? ⟨g, off + k * 6 + 5, none⟩ = some (.slice A1 l[k].list.length c1) ∧ RowR repSym D w A1 c1 l[k].list := by
 obtain ⟨g, off, cs, hA, hD, hg, ⟨A1, c1, rfl, hrs⟩, hc⟩ := h.at_ hk
 exact ⟨g, off, A1, c1, hA, hD, hg, by simpa [repTestT] using hc 0 _ rfl, by simpa [repTestT] using hc 1 _ rfl, by simpa [repTestT] using hc 2 _ rfl, by simpa [repTestT] using hc 3 _ rfl, by simpa [repTestT] using hc 4 _ rfl, by simpa [repTestT] using hc 5 _ rfl, hrs⟩
theorem opens_TestT : Opens Tryz.prog 141 repTestT :=
 ⟨by kernel_rfl, fun H enc w base spare held n cs x h => by
  have hl2 : cs.length = 6 := (trod_len Tryz.underlying141 h).trans (by kernel_rfl)
  obtain ⟨m0, y0, h0⟩ := trod_field Tryz.underlying141 h 0 rfl 3 0 1 rfl rfl (by kernel_rfl)
  obtain ⟨m1, y1, h1⟩ := trod_field Tryz.underlying141 h 1 rfl 9 1 1 rfl rfl (by kernel_rfl)
  obtain ⟨m2, y2, h2⟩ := trod_field Tryz.underlying141 h 2 rfl 38 2 3 rfl rfl (by kernel_rfl)
  obtain ⟨m3, y3, h3⟩ := trod_field Tryz.underlying141 h 3 rfl 27 5 1 rfl rfl (by kernel_rfl)
  match cs, hl2 with
  | [v0, v1, v2, v3, v4, v5], _ =>
    simp at h0 h1 h2 h3
    obtain ⟨a0, e0, _⟩ := DataW.trod_int Tryz.underlying3 h0
    simp at e0
    obtain ⟨a1, e1, _⟩ := DataW.trod_string Tryz.underlying9 h1
    simp at e1
    obtain ⟨a2, e2⟩ := opens_Sym.2 H enc w base spare held _ _ _ h2
    have e2 : _ = Sym.cells a2 := e2
    simp [Sym.cells] at e2
    obtain ⟨a3, A3, c3, e3, r3⟩ := (opens_slice Tryz.underlying27 (by kernel_rfl) (by decide) opens_Sym).2 H enc w base spare held _ _ _ h3
    simp at e3
    subst e0
    subst e1
    obtain ⟨rfl, rfl, rfl⟩ := e2
    subst e3
    exact ⟨⟨a0, a1, a2, a3⟩, A3, c3, rfl, r3⟩⟩
inductive CondT where
 | mk (kind : Int) (goal : Bool) (id : ByteArray) (attr : List TestT) (value : List TestT) (acc : Bool) (conds : List CondT)
def CondT.kind : CondT → Int
 | .mk x _ _ _ _ _ _ => x
def CondT.goal : CondT → Bool
 | .mk _ x _ _ _ _ _ => x
def CondT.id : CondT → ByteArray
 | .mk _ _ x _ _ _ _ => x
def CondT.attr : CondT → List TestT
 | .mk _ _ _ x _ _ _ => x
def CondT.value : CondT → List TestT
 | .mk _ _ _ _ x _ _ => x
def CondT.acc : CondT → Bool
 | .mk _ _ _ _ _ x _ => x
def CondT.conds : CondT → List CondT
 | .mk _ _ _ _ _ _ x => x
def repCondT : Nat → RepT CondT
 | 0 => { size := 7, rep := fun _ _ _ _ => False, len := fun h => h.elim, keep := fun _ _ h => h }
 | n + 1 =>
 { size := 7, rep := fun D w x cs => ∃ A1 c1 A2 c2 A3 c3, cs = [.int .i64 x.kind, .bool x.goal, .string x.id, .slice A1 x.attr.length c1, .slice A2 x.value.length c2, .bool x.acc, .slice A3 x.conds.length c3] ∧ RowR repTestT D w A1 c1 x.attr ∧ RowR repTestT D w A2 c2 x.value ∧ RowR (repCondT n) D w A3 c3 x.conds,
   len := by rintro _ _ _ _ ⟨_, _, _, _, _, _, rfl, _⟩; rfl,
   keep := by
    rintro _ _ _ _ _ _ hs hk ⟨A1, c1, A2, c2, A3, c3, h0, h1, h2, h3⟩
    exact ⟨A1, c1, A2, c2, A3, c3, h0, h1.keep hs hk, h2.keep hs hk, h3.keep hs hk⟩ }
theorem repCondT_size (n : Nat) : (repCondT n).size = 7 := by cases n <;> rfl
theorem at_CondT {n : Nat} {D : Nat → Prop} {w : World} {A : Option Addr} {c k : Nat} {l : List CondT} (h : RowR (repCondT (n + 1)) D w A c l) (hk : k < l.length) : ∃ g off A1 c1 A2 c2 A3 c3, A = some ⟨g, off, none⟩ ∧ D g ∧ g < w.heap.size ∧ w.cell? ⟨g, off + k * 7, none⟩ = some (.int .i64 l[k].kind) ∧ w.cell? ⟨g, off + k * 7 + 1, none⟩ = some (.bool l[k].goal) ∧ w.cell? ⟨g, off + k * 7 + 2, none⟩ = some (.string l[k].id) ∧ w.cell? ⟨g, off + k * 7 + 3, none⟩ = some (.slice A1 l[k].attr.length c1) ∧ w.cell? ⟨g, off + k * 7 + 4, none⟩ = some (.slice A2 l[k].value.length c2) ∧ w.cell? ⟨g, off + k * 7 + 5, none⟩ = some (.bool l[k].acc) ∧ w.cell? ⟨g, off + k * 7 + 6, none⟩ = some (.slice A3 l[k].conds.length c3) ∧ RowR repTestT D w A1 c1 l[k].attr ∧ RowR repTestT D w A2 c2 l[k].value ∧ RowR (repCondT n) D w A3 c3 l[k].conds := by
 obtain ⟨g, off, cs, hA, hD, hg, ⟨A1, c1, A2, c2, A3, c3, rfl, hrs⟩, hc⟩ := h.at_ hk
 exact ⟨g, off, A1, c1, A2, c2, A3, c3, hA, hD, hg, by simpa [repCondT] using hc 0 _ rfl, by simpa [repCondT] using hc 1 _ rfl, by simpa [repCondT] using hc 2 _ rfl, by simpa [repCondT] using hc 3 _ rfl, by simpa [repCondT] using hc 4 _ rfl, by simpa [repCondT] using hc 5 _ rfl, by simpa [repCondT] using hc 6 _ rfl, hrs⟩
theorem repCondT_mono : ∀ (n : Nat) {D : Nat → Prop} {w : World} {a : CondT} {cs : List Value}, (repCondT n).rep D w a cs → (repCondT (n + 1)).rep D w a cs
 | 0, _, _, _, _, h => h.elim
 | n + 1, _, _, _, _, h => by
   obtain ⟨A1, c1, A2, c2, A3, c3, h0, h1, h2, h3⟩ := h
   exact ⟨A1, c1, A2, c2, A3, c3, h0, h1, h2, h3.imp (by rw [repCondT_size, repCondT_size]) (fun _ _ g => repCondT_mono n g)⟩
theorem repCondT_le {m n : Nat} (h : m ≤ n) {D : Nat → Prop} {w : World} {a : CondT} {cs : List Value} (g : (repCondT m).rep D w a cs) : (repCondT n).rep D w a cs := by
 induction n with
 | zero => obtain rfl : m = 0 := by omega
           exact g
 | succ n ih =>
   by_cases e : m = n + 1
   · subst e; exact g
   · exact repCondT_mono n (ih (by omega))
theorem lenCondT {cs : List Value} (h : cs.length = 7) : ∃ v0 v1 v2 v3 v4 v5 v6, cs = [v0, v1, v2, v3, v4, v5, v6] := by
 match cs, h with
 | [v0, v1, v2, v3, v4, v5, v6], _ => exact ⟨v0, v1, v2, v3, v4, v5, v6, rfl⟩
theorem openN_CondT {H : Type} (enc : TypeId × Value → H) (w : World) (base : Nat) (spare : Nat → Bool) (held : Bool) : ∀ (fuel : Nat) (cs : List Value) (x : DataW H × List MemPlace), DataW.trod enc Tryz.prog w base spare held fuel 59 cs = some x → ∃ a : CondT, (repCondT fuel).rep (· < w.heap.size) w a cs := by
 intro fuel
 induction fuel using Nat.strongRecOn with
 | _ fuel ih =>
   intro cs x h
   obtain ⟨n, rfl⟩ : ∃ n, fuel = n + 1 := ⟨fuel - 1, by have := trod_pos h; omega⟩
   have hl2 : cs.length = 7 := (trod_len Tryz.underlying59 h).trans (by kernel_rfl)
   obtain ⟨y0, h0⟩ := trod_fieldN Tryz.underlying59 h 0 rfl 3 0 1 rfl rfl (by kernel_rfl)
   obtain ⟨y1, h1⟩ := trod_fieldN Tryz.underlying59 h 1 rfl 4 1 1 rfl rfl (by kernel_rfl)
   obtain ⟨y2, h2⟩ := trod_fieldN Tryz.underlying59 h 2 rfl 9 2 1 rfl rfl (by kernel_rfl)
   obtain ⟨y3, h3⟩ := trod_fieldN Tryz.underlying59 h 3 rfl 57 3 1 rfl rfl (by kernel_rfl)
   obtain ⟨y4, h4⟩ := trod_fieldN Tryz.underlying59 h 4 rfl 57 4 1 rfl rfl (by kernel_rfl)
   obtain ⟨y5, h5⟩ := trod_fieldN Tryz.underlying59 h 5 rfl 4 5 1 rfl rfl (by kernel_rfl)
   obtain ⟨y6, h6⟩ := trod_fieldN Tryz.underlying59 h 6 rfl 22 6 1 rfl rfl (by kernel_rfl)
   obtain ⟨v0, v1, v2, v3, v4, v5, v6, rfl⟩ := lenCondT hl2
   simp at h0 h1 h2 h3 h4 h5 h6
   obtain ⟨a0, e0, _⟩ := DataW.trod_int Tryz.underlying3 h0
   simp at e0
   obtain ⟨a1, e1, _⟩ := DataW.trod_bool Tryz.underlying4 h1
   simp at e1
   obtain ⟨a2, e2, _⟩ := DataW.trod_string Tryz.underlying9 h2
   simp at e2
   obtain ⟨A3, c3, a3, e3, r3⟩ := row_of_trod (r := repTestT) Tryz.underlying57 (by decide) opens_TestT.1 (fun n cs x hx => opens_TestT.2 H enc w base spare held n cs x hx) h3
   simp at e3
   obtain ⟨A4, c4, a4, e4, r4⟩ := row_of_trod (r := repTestT) Tryz.underlying57 (by decide) opens_TestT.1 (fun n cs x hx => opens_TestT.2 H enc w base spare held n cs x hx) h4
   simp at e4
   obtain ⟨a5, e5, _⟩ := DataW.trod_bool Tryz.underlying4 h5
   simp at e5
   obtain ⟨A6, c6, a6, e6, r6⟩ := row_of_trodN (r := repCondT n) Tryz.underlying22 (by rw [repCondT_size]; decide) (by rw [repCondT_size]; kernel_rfl) (fun m hm cs x hx => (ih m (by omega) cs x hx).imp fun _ g => repCondT_le (by omega) g) h6
   simp at e6
   subst e0
   subst e1
   subst e2
   subst e3
   subst e4
   subst e5
   subst e6
   exact ⟨⟨a0, a1, a2, a3, a4, a5, a6⟩, A3, c3, A4, c4, A6, c6, rfl, r3, r4, r6⟩
structure AtomT where
 var : ByteArray
 sym : Sym
def AtomT.cells (x : AtomT) : List Value := [.string x.var, .int .i64 x.sym.kind, .string x.sym.text, .int .i64 x.sym.n]
theorem AtomT.cells_length (x : AtomT) : x.cells.length = 4 := rfl
def repAtomT : RepT AtomT := RepT.flat 4 AtomT.cells AtomT.cells_length
theorem opens_AtomT : Opens Tryz.prog 94 repAtomT :=
 ⟨by kernel_rfl, fun H enc w base spare held n cs x h => by
  have hl2 : cs.length = 4 := (trod_len Tryz.underlying94 h).trans (by kernel_rfl)
  obtain ⟨m0, y0, h0⟩ := trod_field Tryz.underlying94 h 0 rfl 9 0 1 rfl rfl (by kernel_rfl)
  obtain ⟨m1, y1, h1⟩ := trod_field Tryz.underlying94 h 1 rfl 38 1 3 rfl rfl (by kernel_rfl)
  match cs, hl2 with
  | [v0, v1, v2, v3], _ =>
    simp at h0 h1
    obtain ⟨a0, e0, _⟩ := DataW.trod_string Tryz.underlying9 h0
    simp at e0
    obtain ⟨a1, e1⟩ := opens_Sym.2 H enc w base spare held _ _ _ h1
    have e1 : _ = Sym.cells a1 := e1
    simp [Sym.cells] at e1
    subst e0
    obtain ⟨rfl, rfl, rfl⟩ := e1
    exact ⟨⟨a0, a1⟩, rfl⟩⟩
structure TermT where
 op : Int
 a : AtomT
 b : AtomT
def TermT.cells (x : TermT) : List Value := [.int .i64 x.op, .string x.a.var, .int .i64 x.a.sym.kind, .string x.a.sym.text, .int .i64 x.a.sym.n, .string x.b.var, .int .i64 x.b.sym.kind, .string x.b.sym.text, .int .i64 x.b.sym.n]
theorem TermT.cells_length (x : TermT) : x.cells.length = 9 := rfl
def repTermT : RepT TermT := RepT.flat 9 TermT.cells TermT.cells_length
theorem opens_TermT : Opens Tryz.prog 96 repTermT :=
 ⟨by kernel_rfl, fun H enc w base spare held n cs x h => by
  have hl2 : cs.length = 9 := (trod_len Tryz.underlying96 h).trans (by kernel_rfl)
  obtain ⟨m0, y0, h0⟩ := trod_field Tryz.underlying96 h 0 rfl 3 0 1 rfl rfl (by kernel_rfl)
  obtain ⟨m1, y1, h1⟩ := trod_field Tryz.underlying96 h 1 rfl 94 1 4 rfl rfl (by kernel_rfl)
  obtain ⟨m2, y2, h2⟩ := trod_field Tryz.underlying96 h 2 rfl 94 5 4 rfl rfl (by kernel_rfl)
  match cs, hl2 with
  | [v0, v1, v2, v3, v4, v5, v6, v7, v8], _ =>
    simp at h0 h1 h2
    obtain ⟨a0, e0, _⟩ := DataW.trod_int Tryz.underlying3 h0
    simp at e0
    obtain ⟨a1, e1⟩ := opens_AtomT.2 H enc w base spare held _ _ _ h1
    have e1 : _ = AtomT.cells a1 := e1
    simp [AtomT.cells] at e1
    obtain ⟨a2, e2⟩ := opens_AtomT.2 H enc w base spare held _ _ _ h2
    have e2 : _ = AtomT.cells a2 := e2
    simp [AtomT.cells] at e2
    subst e0
    obtain ⟨rfl, rfl, rfl, rfl⟩ := e1
    obtain ⟨rfl, rfl, rfl, rfl⟩ := e2
    exact ⟨⟨a0, a1, a2⟩, rfl⟩⟩
structure ActT where
 id : ByteArray
 attr : AtomT
 value : TermT
 pref : Int
 other : AtomT
def ActT.cells (x : ActT) : List Value := [.string x.id, .string x.attr.var, .int .i64 x.attr.sym.kind, .string x.attr.sym.text, .int .i64 x.attr.sym.n, .int .i64 x.value.op, .string x.value.a.var, .int .i64 x.value.a.sym.kind, .string x.value.a.sym.text, .int .i64 x.value.a.sym.n, .string x.value.b.var, .int .i64 x.value.b.sym.kind, .string x.value.b.sym.text, .int .i64 x.value.b.sym.n, .int .i64 x.pref, .string x.other.var, .int .i64 x.other.sym.kind, .string x.other.sym.text, .int .i64 x.other.sym.n]
theorem ActT.cells_length (x : ActT) : x.cells.length = 19 := rfl
def repActT : RepT ActT := RepT.flat 19 ActT.cells ActT.cells_length
theorem at_ActT {D : Nat → Prop} {w : World} {A : Option Addr} {c k : Nat} {l : List ActT} (h : RowR repActT D w A c l) (hk : k < l.length) : ∃ g off, A = some ⟨g, off, none⟩ ∧ D g ∧ g < w.heap.size ∧ w.cell? ⟨g, off + k * 19, none⟩ = some (.string l[k].id) ∧ w.cell? ⟨g, off + k * 19 + 1, none⟩ = some (.string l[k].attr.var) ∧ w.cell? ⟨g, off + k * 19 + 2, none⟩ = some (.int .i64 l[k].attr.sym.kind) ∧ w.cell? ⟨g, off + k * 19 + 3, none⟩ = some (.string l[k].attr.sym.text) ∧ w.cell? ⟨g, off + k * 19 + 4, none⟩ = some (.int .i64 l[k].attr.sym.n) ∧ w.cell? ⟨g, off + k * 19 + 5, none⟩ = some (.int .i64 l[k].value.op) ∧ w.cell? ⟨g, off + k * 19 + 6, none⟩ = some (.string l[k].value.a.var) ∧ w.cell? ⟨g, off + k * 19 + 7, none⟩ = some (.int .i64 l[k].value.a.sym.kind) ∧ w.cell? ⟨g, off + k * 19 + 8, none⟩ = some (.string l[k].value.a.sym.text) ∧ w.cell? ⟨g, off + k * 19 + 9, none⟩ = some (.int .i64 l[k].value.a.sym.n) ∧ w.cell? ⟨g, off + k * 19 + 10, none⟩ = some (.string l[k].value.b.var) ∧ w.cell? ⟨g, off + k * 19 + 11, none⟩ = some (.int .i64 l[k].value.b.sym.kind) ∧ w.cell? ⟨g, off + k * 19 + 12, none⟩ = some (.string l[k].value.b.sym.text) ∧ w.cell? ⟨g, off + k * 19 + 13, none⟩ = some (.int .i64 l[k].value.b.sym.n) ∧ w.cell? ⟨g, off + k * 19 + 14, none⟩ = some (.int .i64 l[k].pref) ∧ w.cell? ⟨g, off + k * 19 + 15, none⟩ = some (.string l[k].other.var) ∧ w.cell? ⟨g, off + k * 19 + 16, none⟩ = some (.int .i64 l[k].other.sym.kind) ∧ w.cell? ⟨g, off + k * 19 + 17, none⟩ = some (.string l[k].other.sym.text) ∧ w.cell? ⟨g, off + k * 19 + 18, none⟩ = some (.int .i64 l[k].other.sym.n) := by
 obtain ⟨g, off, cs, hA, hD, hg, hr, hc⟩ := h.at_ hk
 have hr2 : cs = ActT.cells l[k] := hr
 subst hr2
 refine ⟨g, off, hA, hD, hg, by simpa [repActT, RepT.flat] using hc 0 _ rfl, by simpa [repActT, RepT.flat] using hc 1 _ rfl, by simpa [repActT, RepT.flat] using hc 2 _ rfl, by simpa [repActT, RepT.flat] using hc 3 _ rfl, by simpa [repActT, RepT.flat] using hc 4 _ rfl, by simpa [repActT, RepT.flat] using hc 5 _ rfl, by simpa [repActT, RepT.flat] using hc 6 _ rfl, by simpa [repActT, RepT.flat] using hc 7 _ rfl, by simpa [repActT, RepT.flat] using hc 8 _ rfl, by simpa [repActT, RepT.flat] using hc 9 _ rfl, by simpa [repActT, RepT.flat] using hc 10 _ rfl, by simpa [repActT, RepT.flat] using hc 11 _ rfl, by simpa [repActT, RepT.flat] using hc 12 _ rfl, by simpa [repActT, RepT.flat] using hc 13 _ rfl, by simpa [repActT, RepT.flat] using hc 14 _ rfl, by simpa [repActT, RepT.flat] using hc 15 _ rfl, by simpa [repActT, RepT.flat] using hc 16 _ rfl, by simpa [repActT, RepT.flat] using hc 17 _ rfl, by simpa [repActT, RepT.flat] using hc 18 _ rfl⟩
theorem opens_ActT : Opens Tryz.prog 99 repActT :=
 ⟨by kernel_rfl, fun H enc w base spare held n cs x h => by
  have hl2 : cs.length = 19 := (trod_len Tryz.underlying99 h).trans (by kernel_rfl)
  obtain ⟨m0, y0, h0⟩ := trod_field Tryz.underlying99 h 0 rfl 9 0 1 rfl rfl (by kernel_rfl)
  obtain ⟨m1, y1, h1⟩ := trod_field Tryz.underlying99 h 1 rfl 94 1 4 rfl rfl (by kernel_rfl)
  obtain ⟨m2, y2, h2⟩ := trod_field Tryz.underlying99 h 2 rfl 96 5 9 rfl rfl (by kernel_rfl)
  obtain ⟨m3, y3, h3⟩ := trod_field Tryz.underlying99 h 3 rfl 3 14 1 rfl rfl (by kernel_rfl)
  obtain ⟨m4, y4, h4⟩ := trod_field Tryz.underlying99 h 4 rfl 94 15 4 rfl rfl (by kernel_rfl)
  match cs, hl2 with
  | [v0, v1, v2, v3, v4, v5, v6, v7, v8, v9, v10, v11, v12, v13, v14, v15, v16, v17, v18], _ =>
    simp at h0 h1 h2 h3 h4
    obtain ⟨a0, e0, _⟩ := DataW.trod_string Tryz.underlying9 h0
    simp at e0
    obtain ⟨a1, e1⟩ := opens_AtomT.2 H enc w base spare held _ _ _ h1
    have e1 : _ = AtomT.cells a1 := e1
    simp [AtomT.cells] at e1
    obtain ⟨a2, e2⟩ := opens_TermT.2 H enc w base spare held _ _ _ h2
    have e2 : _ = TermT.cells a2 := e2
    simp [TermT.cells] at e2
    obtain ⟨a3, e3, _⟩ := DataW.trod_int Tryz.underlying3 h3
    simp at e3
    obtain ⟨a4, e4⟩ := opens_AtomT.2 H enc w base spare held _ _ _ h4
    have e4 : _ = AtomT.cells a4 := e4
    simp [AtomT.cells] at e4
    subst e0
    obtain ⟨rfl, rfl, rfl, rfl⟩ := e1
    obtain ⟨rfl, rfl, rfl, rfl, rfl, rfl, rfl, rfl, rfl⟩ := e2
    subst e3
    obtain ⟨rfl, rfl, rfl, rfl⟩ := e4
    exact ⟨⟨a0, a1, a2, a3, a4⟩, rfl⟩⟩
structure ProdT where
 name : ByteArray
 conds : List CondT
 acts : List ActT
def repProdT (n : Nat) : RepT ProdT :=
 { size := 3, rep := fun D w x cs => ∃ A1 c1 A2 c2, cs = [.string x.name, .slice A1 x.conds.length c1, .slice A2 x.acts.length c2] ∧ RowR (repCondT n) D w A1 c1 x.conds ∧ RowR repActT D w A2 c2 x.acts,
   len := by rintro _ _ _ _ ⟨_, _, _, _, rfl, _⟩; rfl,
   keep := by
    rintro _ _ _ _ _ _ hs hk ⟨A1, c1, A2, c2, h0, h1, h2⟩
    exact ⟨A1, c1, A2, c2, h0, h1.keep hs hk, h2.keep hs hk⟩ }
theorem lenProdT {cs : List Value} (h : cs.length = 3) : ∃ v0 v1 v2, cs = [v0, v1, v2] := by
 match cs, h with
 | [v0, v1, v2], _ => exact ⟨v0, v1, v2, rfl⟩
theorem openN_ProdT {H : Type} (enc : TypeId × Value → H) (w : World) (base : Nat) (spare : Nat → Bool) (held : Bool) : ∀ (fuel : Nat) (cs : List Value) (x : DataW H × List MemPlace), DataW.trod enc Tryz.prog w base spare held fuel 25 cs = some x → ∃ a : ProdT, (repProdT fuel).rep (· < w.heap.size) w a cs := by
 intro fuel
 induction fuel using Nat.strongRecOn with
 | _ fuel ih =>
   intro cs x h
   obtain ⟨n, rfl⟩ : ∃ n, fuel = n + 1 := ⟨fuel - 1, by have := trod_pos h; omega⟩
   have hl2 : cs.length = 3 := (trod_len Tryz.underlying25 h).trans (by kernel_rfl)
   obtain ⟨y0, h0⟩ := trod_fieldN Tryz.underlying25 h 0 rfl 9 0 1 rfl rfl (by kernel_rfl)
   obtain ⟨y1, h1⟩ := trod_fieldN Tryz.underlying25 h 1 rfl 22 1 1 rfl rfl (by kernel_rfl)
   obtain ⟨y2, h2⟩ := trod_fieldN Tryz.underlying25 h 2 rfl 23 2 1 rfl rfl (by kernel_rfl)
   obtain ⟨v0, v1, v2, rfl⟩ := lenProdT hl2
   simp at h0 h1 h2
   obtain ⟨a0, e0, _⟩ := DataW.trod_string Tryz.underlying9 h0
   simp at e0
   obtain ⟨A1, c1, a1, e1, r1⟩ := row_of_trodN (r := repCondT (n + 1)) Tryz.underlying22 (by rw [repCondT_size]; decide) (by rw [repCondT_size]; kernel_rfl) (fun m hm cs x hx => (openN_CondT enc w base spare held m cs x hx).imp fun _ g => repCondT_le (by omega) g) h1
   simp at e1
   obtain ⟨A2, c2, a2, e2, r2⟩ := row_of_trod (r := repActT) Tryz.underlying23 (by decide) opens_ActT.1 (fun n cs x hx => opens_ActT.2 H enc w base spare held n cs x hx) h2
   simp at e2
   subst e0
   subst e1
   subst e2
   exact ⟨⟨a0, a1, a2⟩, A1, c1, A2, c2, rfl, r1, r2⟩
structure BindT where
 var : ByteArray
 sym : Sym
def BindT.cells (x : BindT) : List Value := [.string x.var, .int .i64 x.sym.kind, .string x.sym.text, .int .i64 x.sym.n]
theorem BindT.cells_length (x : BindT) : x.cells.length = 4 := rfl
structure PrefT where
 id : Sym
 attr : Sym
 value : Sym
 other : Sym
 kind : Int
 o : Bool
 level : Int
 by_ : Int
def PrefT.cells (x : PrefT) : List Value := [.int .i64 x.id.kind, .string x.id.text, .int .i64 x.id.n, .int .i64 x.attr.kind, .string x.attr.text, .int .i64 x.attr.n, .int .i64 x.value.kind, .string x.value.text, .int .i64 x.value.n, .int .i64 x.other.kind, .string x.other.text, .int .i64 x.other.n, .int .i64 x.kind, .bool x.o, .int .i64 x.level, .int .i64 x.by_]
theorem PrefT.cells_length (x : PrefT) : x.cells.length = 16 := rfl
structure TraceT where
 elem : Elem
 level : Int
 cause : Int
def TraceT.cells (x : TraceT) : List Value := [.int .i64 x.elem.id.kind, .string x.elem.id.text, .int .i64 x.elem.id.n, .int .i64 x.elem.attr.kind, .string x.elem.attr.text, .int .i64 x.elem.attr.n, .int .i64 x.elem.value.kind, .string x.elem.value.text, .int .i64 x.elem.value.n, .bool x.elem.acc, .bool x.elem.goal, .int .i64 x.elem.tag, .int .i64 x.level, .int .i64 x.cause]
theorem TraceT.cells_length (x : TraceT) : x.cells.length = 14 := rfl
structure HoleT where
 cond : CondT
 binds : List BindT
structure ApartT where
 a : Sym
 b : Sym
 rel : Int
def ApartT.cells (x : ApartT) : List Value := [.int .i64 x.a.kind, .string x.a.text, .int .i64 x.a.n, .int .i64 x.b.kind, .string x.b.text, .int .i64 x.b.n, .int .i64 x.rel]
theorem ApartT.cells_length (x : ApartT) : x.cells.length = 7 := rfl
structure RecordT where
 num : Int
 level : Int
 elems : List TraceT
 holes : List HoleT
 aparts : List ApartT
 news : List Sym
end Go.Proofs.YtffemfglngikbaaGreat
namespace Go.Proofs.YtffemfglngikbaaGreat
open Go.RowKit
def smallB (c : UInt8) : Bool := decide (97 ≤ c.toNat) && decide (c.toNat ≤ 122)
def greatB (c : UInt8) : Bool := decide (65 ≤ c.toNat) && decide (c.toNat ≤ 90)
def digitB (c : UInt8) : Bool := decide (48 ≤ c.toNat) && decide (c.toNat ≤ 57)
def partB (c : UInt8) : Bool := smallB c || digitB c || c.toNat == 45 || c.toNat == 95
def isWord (t : ByteArray) : Bool := decide (1 ≤ t.size) && decide (t.size ≤ 32) && t.data.toList.head?.any smallB && t.data.toList.all partB
theorem isWord_iff {t : ByteArray} : isWord t = true ↔ ∃ h : 0 < t.size, t.size ≤ 32 ∧ smallB t[0] = true ∧ ∀ k, (h : k < t.size) → partB t[k] = true := by
 unfold isWord
 rw [Bool.and_eq_true, Bool.and_eq_true, Bool.and_eq_true, decide_eq_true_iff, decide_eq_true_iff, List.all_eq_true]
 have hs : t.data.toList.length = t.size := Array.length_toList
 constructor
 · rintro ⟨⟨⟨h1, h2⟩, h3⟩, h4⟩
   refine ⟨h1, h2, ?_, fun k h => h4 _ ?_⟩
   · rw [List.head?_eq_getElem?, List.getElem?_eq_getElem (by omega)] at h3
     exact (by simpa only [Option.any_some, Array.getElem_toList] using h3 : smallB t.data[0] = true)
   · have : t[k] = t.data.toList[k]'(by omega) := by rw [Array.getElem_toList]; rfl
     rw [this]; exact List.getElem_mem _
 · rintro ⟨h1, h2, h3, h4⟩
   refine ⟨⟨⟨h1, h2⟩, ?_⟩, fun x hx => ?_⟩
   · rw [List.head?_eq_getElem?, List.getElem?_eq_getElem (by omega)]
     rw [Option.any_some, Array.getElem_toList]
     exact h3
   · obtain ⟨k, hk, rfl⟩ := List.getElem_of_mem hx
     have := h4 k (by omega)
     rw [Array.getElem_toList]
     exact this
theorem isWord_no {t : ByteArray} (h : ¬ ∃ h : 0 < t.size, t.size ≤ 32 ∧ smallB t[0] = true ∧ ∀ k, (h : k < t.size) → partB t[k] = true) : isWord t = false := by
 cases e : isWord t
 · rfl
 · exact absurd (isWord_iff.1 e) h
set_option maxHeartbeats 400000 in
theorem small_is (c : UInt8) (w : World) : Calls Tryz.prog 189 #[.int .u8 (c.toNat : Int)] w fun e w' => e = .returned (.bool (smallB c)) ∧ w = w' := by
 by_cases h1 : 97 ≤ c.toNat
 · have t1 : decide ((97 : Int) ≤ (c.toNat : Int)) = true := by simp; omega
   by_cases h2 : c.toNat ≤ 122
   · have t2 : decide ((c.toNat : Int) ≤ 122) = true := by simp; omega
     have HF : Hid (smallB c = true) := by simp [Hid, smallB, h1, h2]
     clear h1 h2
     go_enter Tryz.func189, Tryz.ntmps189
     go_wp2
     go_ret
     exact ⟨by rw [HF.out]; rfl, rfl⟩
   · have t2 : decide ((c.toNat : Int) ≤ 122) = false := by simp; omega
     have HF : Hid (smallB c = false) := by simp [Hid, smallB, h2]
     clear h1 h2
     go_enter Tryz.func189, Tryz.ntmps189
     go_wp2
     go_ret
     exact ⟨by rw [HF.out]; rfl, rfl⟩
 · have t1 : decide ((97 : Int) ≤ (c.toNat : Int)) = false := by simp; omega
   have HF : Hid (smallB c = false) := by simp [Hid, smallB, h1]
   clear h1
   go_enter Tryz.func189, Tryz.ntmps189
   go_wp2
   go_ret
   exact ⟨by rw [HF.out]; rfl, rfl⟩
set_option maxHeartbeats 400000 in
theorem great_is (c : UInt8) (w : World) : Calls Tryz.prog 124 #[.int .u8 (c.toNat : Int)] w fun e w' => e = .returned (.bool (greatB c)) ∧ w = w' := by
 by_cases h1 : 65 ≤ c.toNat
 · have t1 : decide ((65 : Int) ≤ (c.toNat : Int)) = true := by simp; omega
   by_cases h2 : c.toNat ≤ 90
   · have t2 : decide ((c.toNat : Int) ≤ 90) = true := by simp; omega
     have HF : Hid (greatB c = true) := by simp [Hid, greatB, h1, h2]
     clear h1 h2
     go_enter Tryz.func124, Tryz.ntmps124
     go_wp2
     go_ret
     exact ⟨by rw [HF.out]; rfl, rfl⟩
   · have t2 : decide ((c.toNat : Int) ≤ 90) = false := by simp; omega
     have HF : Hid (greatB c = false) := by simp [Hid, greatB, h2]
     clear h1 h2
     go_enter Tryz.func124, Tryz.ntmps124
     go_wp2
     go_ret
     exact ⟨by rw [HF.out]; rfl, rfl⟩
 · have t1 : decide ((65 : Int) ≤ (c.toNat : Int)) = false := by simp; omega
   have HF : Hid (greatB c = false) := by simp [Hid, greatB, h1]
   clear h1
   go_enter Tryz.func124, Tryz.ntmps124
   go_wp2
   go_ret
   exact ⟨by rw [HF.out]; rfl, rfl⟩
set_option maxHeartbeats 400000 in
theorem digit_is (c : UInt8) (w : World) : Calls Tryz.prog 190 #[.int .u8 (c.toNat : Int)] w fun e w' => e = .returned (.bool (digitB c)) ∧ w = w' := by
 by_cases h1 : 48 ≤ c.toNat
 · have t1 : decide ((48 : Int) ≤ (c.toNat : Int)) = true := by simp; omega
   by_cases h2 : c.toNat ≤ 57
   · have t2 : decide ((c.toNat : Int) ≤ 57) = true := by simp; omega
     have HF : Hid (digitB c = true) := by simp [Hid, digitB, h1, h2]
     clear h1 h2
     go_enter Tryz.func190, Tryz.ntmps190
     go_wp2
     go_ret
     exact ⟨by rw [HF.out]; rfl, rfl⟩
   · have t2 : decide ((c.toNat : Int) ≤ 57) = false := by simp; omega
     have HF : Hid (digitB c = false) := by simp [Hid, digitB, h2]
     clear h1 h2
     go_enter Tryz.func190, Tryz.ntmps190
     go_wp2
     go_ret
     exact ⟨by rw [HF.out]; rfl, rfl⟩
 · have t1 : decide ((48 : Int) ≤ (c.toNat : Int)) = false := by simp; omega
   have HF : Hid (digitB c = false) := by simp [Hid, digitB, h1]
   clear h1
   go_enter Tryz.func190, Tryz.ntmps190
   go_wp2
   go_ret
   exact ⟨by rw [HF.out]; rfl, rfl⟩
set_option maxHeartbeats 1000000 in
theorem part_is (c : UInt8) (w : World) : Calls Tryz.prog 175 #[.int .u8 (c.toNat : Int)] w fun e w' => e = .returned (.bool (partB c)) ∧ w = w' := by
 have HF : Hid (partB c = (((decide (97 ≤ c.toNat) && decide (c.toNat ≤ 122)) || (decide (48 ≤ c.toNat) && decide (c.toNat ≤ 57))) || decide (c.toNat = 45) || decide (c.toNat = 95))) := rfl
 have t1 : decide ((97 : Int) ≤ (c.toNat : Int)) = decide (97 ≤ c.toNat) := by apply decide_eq_decide.2; omega
 have t2 : decide ((c.toNat : Int) ≤ 122) = decide (c.toNat ≤ 122) := by apply decide_eq_decide.2; omega
 have t3 : decide ((48 : Int) ≤ (c.toNat : Int)) = decide (48 ≤ c.toNat) := by apply decide_eq_decide.2; omega
 have t4 : decide ((c.toNat : Int) ≤ 57) = decide (c.toNat ≤ 57) := by apply decide_eq_decide.2; omega
 have t5 : ((c.toNat : Int) == 45) = decide (c.toNat = 45) := by rw [Bool.eq_iff_iff]; simp; omega
 have t6 : ((c.toNat : Int) == 95) = decide (c.toNat = 95) := by rw [Bool.eq_iff_iff]; simp; omega
 cases h1 : decide (97 ≤ c.toNat) <;> cases h2 : decide (c.toNat ≤ 122) <;> cases h3 : decide (48 ≤ c.toNat) <;> cases h4 : decide (c.toNat ≤ 57) <;> cases h5 : decide (c.toNat = 45) <;> cases h6 : decide (c.toNat = 95)
 all_goals
  rw [h1] at t1; rw [h2] at t2; rw [h3] at t3; rw [h4] at t4; rw [h5] at t5; rw [h6] at t6
  have HF2 := HF.out
  rw [h1, h2, h3, h4, h5, h6] at HF2
  have HF3 := Lib.hid HF2
  clear h1 h2 h3 h4 h5 h6 HF HF2
  go_enter Tryz.func175, Tryz.ntmps175
  go_wp2
  go_ret
  exact ⟨by rw [HF3.out]; rfl, rfl⟩
set_option maxRecDepth 100000 in
set_option maxHeartbeats 2000000 in
theorem word_is (t : ByteArray) (w : World) : Calls Tryz.prog 126 #[.string t] w fun e w' => e = .returned (.bool (isWord t)) ∧ w = w' := by
 by_cases h1 : t.size < 1
 · have t1 : decide ((t.size : Int) < 1) = true := by simp; omega
   have HF := Lib.hid (isWord_no (t := t) (fun ⟨h, _⟩ => by omega))
   clear h1
   go_enter Tryz.func126, Tryz.ntmps126
   go_wp2
   go_ret
   exact ⟨by rw [HF.out]; rfl, rfl⟩
 have t1 : decide ((t.size : Int) < 1) = false := by simp; omega
 by_cases h2 : 32 < t.size
 · have t2 : decide ((32 : Int) < (t.size : Int)) = true := by simp; omega
   have HF := Lib.hid (isWord_no (t := t) (fun ⟨h, h3, _⟩ => by omega))
   clear h1 h2
   go_enter Tryz.func126, Tryz.ntmps126
   go_wp2
   go_ret
   exact ⟨by rw [HF.out]; rfl, rfl⟩
 have t2 : decide ((32 : Int) < (t.size : Int)) = false := by simp; omega
 have h0 : 0 < t.size := by omega
 have h32 : t.size ≤ 32 := by omega
 clear h1 h2
 cases h3 : smallB t[0]
 · have HF := Lib.hid (isWord_no (t := t) (fun ⟨h, _, h4, _⟩ => by rw [h3] at h4; cases h4))
   go_enter Tryz.func126, Tryz.ntmps126
   go_wp2_with (go_at_call 189; refine (small_is _ _).mono ?_; rintro e w' ⟨rfl, rfl⟩)
   go_ret
   exact ⟨by rw [HF.out]; rfl, rfl⟩
 go_enter Tryz.func126, Tryz.ntmps126
 go_wp2_with (go_at_call 189; refine (small_is _ _).mono ?_; rintro e w' ⟨rfl, rfl⟩)
 have H3 := Lib.hid h3
 clear h3 t1 t2
 go_loop [3] (fun s => ∃ i : Nat, s = .int .i64 i ∧ 1 ≤ i ∧ i ≤ t.size ∧ ∀ k, (h : k < t.size) → k < i → partB t[k] = true) (fun s => t.size - (intOf s).toNat)
 case atStart => exact ⟨1, rfl, Nat.le_refl _, h0, fun k h hk => by obtain rfl : k = 0 := by omega
                                                                    simp [partB, H3.out]⟩
 case round =>
  obtain ⟨i, rfl, hi1, hi, hall⟩ := hrel
  have HALL := Lib.hid hall
  clear hall
  by_cases hlt : i < t.size
  · have HP : Hid (partB t[i] = (smallB t[i] || digitB t[i] || decide (t[i].toNat = 45) || decide (t[i].toNat = 95))) := rfl
    have t5 : ((t[i].toNat : Int) != 45) = !decide (t[i].toNat = 45) := by rw [Bool.eq_iff_iff]; simp; omega
    have t6 : ((t[i].toNat : Int) != 95) = !decide (t[i].toNat = 95) := by rw [Bool.eq_iff_iff]; simp; omega
    cases hs : smallB t[i] <;> cases hd : digitB t[i] <;> cases h5 : decide (t[i].toNat = 45) <;> cases h6 : decide (t[i].toNat = 95)
    all_goals
     rw [h5] at t5; rw [h6] at t6
     simp only [Bool.not_true, Bool.not_false] at t5 t6
     have HF1 := HP.out
     rw [hs, hd, h5, h6] at HF1
     have HF2 := Lib.hid HF1
     clear h5 h6 HP HF1
     go_wp2_with (first | (go_at_call 189; refine (small_is _ _).mono ?_; rintro e w' ⟨rfl, rfl⟩) | (go_at_call 190; refine (digit_is _ _).mono ?_; rintro e w' ⟨rfl, rfl⟩))
     first
      | (go_ret
         refine ⟨?_, rfl⟩
         rw [isWord_no (t := t) (fun ⟨_, _, _, h⟩ => by have h2 := h i hlt; rw [HF2.out] at h2; exact absurd h2 (by decide))]; rfl)
      | (go_round
         case rel => exact ⟨i + 1, by go_num, by omega, by omega, fun k h hk => by
          rcases Nat.lt_or_ge k i with h3 | h3
          · exact HALL.out k h h3
          · obtain rfl : k = i := by omega
            rw [HF2.out]; rfl⟩
         case measure => simp [intOf] <;> omega)
  · have hie : i = t.size := by omega
    subst hie
    go_wp2
    go_ret
    exact ⟨by rw [isWord_iff.2 ⟨h0, h32, H3.out, fun k h => HALL.out k h h⟩]; rfl, rfl⟩
set_option maxRecDepth 100000 in
set_option maxHeartbeats 2000000 in
theorem rword_is (t : ByteArray) (w : World) : Calls Tryz.prog 104 #[.string t] w fun e w' => e = .returned (.bool (isWord t)) ∧ w = w' := by
 by_cases h1 : t.size < 1
 · have t1 : decide ((t.size : Int) < 1) = true := by simp; omega
   have HF := Lib.hid (isWord_no (t := t) (fun ⟨h, _⟩ => by omega))
   clear h1
   go_enter Tryz.func104, Tryz.ntmps104
   go_wp2
   go_ret
   exact ⟨by rw [HF.out]; rfl, rfl⟩
 have t1 : decide ((t.size : Int) < 1) = false := by simp; omega
 by_cases h2 : 32 < t.size
 · have t2 : decide ((32 : Int) < (t.size : Int)) = true := by simp; omega
   have HF := Lib.hid (isWord_no (t := t) (fun ⟨h, h3, _⟩ => by omega))
   clear h1 h2
   go_enter Tryz.func104, Tryz.ntmps104
   go_wp2
   go_ret
   exact ⟨by rw [HF.out]; rfl, rfl⟩
 have t2 : decide ((32 : Int) < (t.size : Int)) = false := by simp; omega
 have h0 : 0 < t.size := by omega
 have h32 : t.size ≤ 32 := by omega
 clear h1 h2
 by_cases h3 : t[0].toNat < 97
 · have t3 : decide ((t[0].toNat : Int) < 97) = true := by simp; omega
   have HF := Lib.hid (isWord_no (t := t) (fun ⟨h, _, h4, _⟩ => by simp [smallB] at h4; omega))
   clear h3
   go_enter Tryz.func104, Tryz.ntmps104
   go_wp2
   go_ret
   exact ⟨by rw [HF.out]; rfl, rfl⟩
 have t3 : decide ((t[0].toNat : Int) < 97) = false := by simp; omega
 by_cases h4 : 122 < t[0].toNat
 · have t4 : decide ((122 : Int) < (t[0].toNat : Int)) = true := by simp; omega
   have HF := Lib.hid (isWord_no (t := t) (fun ⟨h, _, h4, _⟩ => by simp [smallB] at h4; omega))
   clear h3 h4
   go_enter Tryz.func104, Tryz.ntmps104
   go_wp2
   go_ret
   exact ⟨by rw [HF.out]; rfl, rfl⟩
 have t4 : decide ((122 : Int) < (t[0].toNat : Int)) = false := by simp; omega
 have h5 : smallB t[0] = true := by simp [smallB]; omega
 have H5 := Lib.hid h5
 clear h3 h4 h5
 go_enter Tryz.func104, Tryz.ntmps104
 go_wp2
 clear t1 t2 t3 t4
 go_loop [3] (fun s => ∃ i : Nat, s = .int .i64 i ∧ i ≤ t.size ∧ ∀ k, (h : k < t.size) → k < i → partB t[k] = true) (fun s => t.size - (intOf s).toNat)
 case atStart => exact ⟨0, rfl, Nat.zero_le _, fun k h hk => by omega⟩
 case round =>
  obtain ⟨i, rfl, hi, hall⟩ := hrel
  have HALL := Lib.hid hall
  clear hall
  by_cases hlt : i < t.size
  · cases hp : partB t[i]
    · go_wp2_with (go_at_call 175; refine (part_is _ _).mono ?_; rintro e w' ⟨rfl, rfl⟩)
      go_ret
      refine ⟨?_, rfl⟩
      rw [isWord_no (t := t) (fun ⟨_, _, _, h⟩ => by have h2 := h i hlt; rw [hp] at h2; cases h2)]; rfl
    · have HP := Lib.hid hp
      go_wp2_with (go_at_call 175; refine (part_is _ _).mono ?_; rintro e w' ⟨rfl, rfl⟩)
      go_round
      case rel => exact ⟨i + 1, by go_num, by omega, fun k h hk => by
               rcases Nat.lt_or_ge k i with h3 | h3
               · exact HALL.out k h h3
               · obtain rfl : k = i := by omega
                 exact HP.out⟩
      case measure => simp [intOf] <;> omega
  · have hie : i = t.size := by omega
    subst hie
    go_wp2
    go_ret
    exact ⟨by rw [isWord_iff.2 ⟨h0, h32, H5.out, fun k h => HALL.out k h h⟩]; rfl, rfl⟩
end Go.Proofs.YtffemfglngikbaaGreat
namespace Go.Proofs.YtffemfglngikbaaGreat
section
variable {P : Program} {ops : Array Oper} {Q : Exit → Act → World → Prop} {S : World → Prop}
inductive Pl where
 | fin (l : List (Nat × Cls))
 | fork (l : List (Nat × Cls)) (i : Nat) (r : Pl) (j : Nat) (s : Pl)
def setL (listed : Array Bool) (l : List (Nat × Cls)) : Array Bool := l.foldl (fun g x => g.setIfInBounds x.1 true) listed
def okL (ops : Array Oper) : List (Nat × Cls) → Array Bool → Bool
 | [], _ => true
 | (k, c) :: rest, listed => (if c == 2 then Region.ready .any ops listed == [k] else (Region.ready .any ops listed).contains k && Region.free .any ops listed k) && okL ops rest (listed.setIfInBounds k true)
def chkL (qs ls : List Nat) (l : List (Nat × Cls)) : Bool := l.all fun (k, c) => (c != 2) == qs.contains k && (c != 1 || ls.contains k)
def okPl (ops : Array Oper) (qs ls : List Nat) : Pl → Nat → Array Bool → Bool
 | .fin l, n, listed => n == l.length && chkL qs ls l && okL ops l listed && (Region.ready .any ops (setL listed l)).isEmpty && l.all fun x => x.1 < ops.size
 | .fork l i r j s, n, listed => decide (l.length + 1 ≤ n) && chkL qs ls l && okL ops l listed && (l.all fun x => x.1 < ops.size) && Region.ready .any ops (setL listed l) == [i, j] && !qs.contains i && !qs.contains j &&
  okPl ops qs ls r (n - l.length - 1) ((setL listed l).setIfInBounds i true) && okPl ops qs ls s (n - l.length - 1) ((setL listed l).setIfInBounds j true)
def wpY (P : Program) (ops : Array Oper) (Q : Exit → Act → World → Prop) (S : World → Prop) (ns : Nat → Bool) (R : Act → World → Prop) : List (Nat × Cls × Oper) → Act → World → Prop
 | [], a, w => R a w
 | (i, c, o) :: rest, a, w =>
   if c = 2 then (if Region.wanted o (yielded ops a.tmps) = true then o.wp P a w (fun a' w' => (ns i = true → S w') ∧ wpY P ops Q S ns R rest a' w') Q else (ns i = true → S w) ∧ wpY P ops Q S ns R rest (a.put o.dst undef) w)
   else ∃ v, (if c = 1 then YieldsIf P ops S o v a ∧ S w else Yields P ops o v a) ∧ wpY P ops Q S ns R rest (a.put o.dst v) w
def wpPl (P : Program) (ops : Array Oper) (Q : Exit → Act → World → Prop) (S : World → Prop) (ns : Nat → Bool) : Pl → Act → World → Prop
 | .fin l, a, w => wpY P ops Q S ns (fun a w => Q .normal a w) (beside ops l) a w
 | .fork l i r j s, a, w => wpY P ops Q S ns (fun a w => wpOp P ops Q i (fun a' w' => (ns i = true → S w') ∧ wpPl P ops Q S ns r a' w') a w ∧ wpOp P ops Q j (fun a' w' => (ns j = true → S w') ∧ wpPl P ops Q S ns s a' w') a w) (beside ops l) a w
theorem closed_setL : ∀ (l : List (Nat × Cls)) (listed : Array Bool), Closed ops listed → okL ops l listed = true → Closed ops (setL listed l)
 | [], _, h, _ => h
 | (k, c) :: rest, listed, h, hB => by
   simp only [okL, Bool.and_eq_true] at hB
   refine closed_setL rest _ (closed_ready h ?_) hB.2
   by_cases hc : c = 2
   · subst hc
     have hB1 := hB.1
     simp only [beq_self_eq_true, if_true] at hB1
     have hr : Region.ready .any ops listed = [k] := by simpa using hB1
     rw [hr]; simp
   · have hB1 := hB.1
     rw [if_neg (by simpa using hc)] at hB1
     simp only [Bool.and_eq_true] at hB1
     simpa using hB1.1
theorem wpAnyE_list {qt ns : Nat → Bool} {R : Act → World → Prop} {n : Nat} (hsel : Region.noSelect ops = true) (hQ : ∀ c a a' w, Q (.panic c) a w → Q (.panic c) a' w) :
 ∀ (rest : List (Nat × Cls)) (listed : Array Bool) (a : Act) (w : World), Closed ops listed → okL ops rest listed = true → (∀ x ∈ rest, x.1 < ops.size) →
   (∀ k c, (k, c) ∈ rest → (qt k = true ↔ c ≠ 2)) → (∀ k, (k, 1) ∈ rest → ∀ j, waitsT ops ops.size j k = false → j ≠ k → j < ops.size → ns j = true) →
   (∀ a w, R a w → wpAnyE P ops Q S qt ns n (setL listed rest) a w) → wpY P ops Q S ns R (beside ops rest) a w → wpAnyE P ops Q S qt ns (rest.length + n) listed a w
 | [], listed, a, w, _, _, _, _, _, hR, h => by
   have := hR a w h
   simpa [setL] using this
 | (k, c) :: rest, listed, a, w, hcl, hB, hl, hqt, hns, hR, h => by
   simp only [okL, Bool.and_eq_true] at hB
   obtain ⟨hB1, hB2⟩ := hB
   have hi : k < ops.size := hl (k, c) (by simp)
   have ho : ops[k]? = some ops[k] := Array.getElem?_eq_getElem hi
   have hb : beside ops ((k, c) :: rest) = (k, c, ops[k]) :: beside ops rest := by simp [beside, ho]
   have ih := fun listed' a w hcl' hB' hR' h' => wpAnyE_list (R := R) (n := n) hsel hQ rest listed' a w hcl' hB' (fun x hx => hl x (by simp [hx])) (fun k c hk => hqt k c (by simp [hk])) (fun k hk => hns k (by simp [hk])) hR' h'
   rw [hb] at h
   simp only [wpY] at h
   have hlen : ((k, c) :: rest).length + n = (rest.length + n) + 1 := by simp; omega
   rw [hlen]
   by_cases hc : c = 2
   · subst hc
     simp only [beq_self_eq_true, if_true] at hB1
     have hr : Region.ready .any ops listed = [k] := by simpa using hB1
     simp only [if_true] at h
     have hcl2 := closed_ready hcl (i := k) (by rw [hr]; simp)
     refine ⟨fun h0 => (by rw [hr] at h0; cases h0), fun i hi' => ?_⟩
     rw [hr] at hi'
     obtain rfl : i = k := by simpa using hi'
     have hbh : ∀ w', (ns i = true → S w') → behind S qt ns i w w' := fun w' hs => by
      unfold behind
      rw [if_neg (fun hq => (hqt i 2 (by simp)).1 hq rfl)]
      exact hs
     unfold wpOp
     simp only [ho]
     split
     · rename_i hw
       rw [if_pos hw] at h
       exact .inl (Oper.wp_mono (fun a' w' h' => ⟨hbh w' h'.1, ih _ a' w' hcl2 hB2 hR h'.2⟩) h)
     · rename_i hw
       rw [if_neg hw] at h
       exact ⟨hbh w h.1, ih _ _ w hcl2 hB2 hR h.2⟩
   · rw [if_neg (by simpa using hc)] at hB1
     simp only [Bool.and_eq_true] at hB1
     rw [if_neg hc] at h
     obtain ⟨v, hy, hk⟩ := h
     have hrdy : k ∈ Region.ready .any ops listed := by simpa using hB1.1
     have hrest := ih _ _ w (closed_ready hcl hrdy) hB2 hR hk
     by_cases h1 : c = 1
     · subst h1
       rw [if_pos rfl] at hy
       exact wpAnyE_first ho (Region.noSelect_spec hsel) (fun c a w => hQ c _ _ w) true ((hqt k 1 (by simp)).2 hc) (fun _ => hns k (by simp)) (rest.length + n) listed a w hcl (Region.free_spec ho hB1.2) hrdy
        (hy.1.imp (fun ⟨p, q⟩ => ⟨p, fun w' hw' => q w' (hw' rfl)⟩) id) (fun _ => hy.2) hrest
     · rw [if_neg h1] at hy
       exact wpAnyE_first ho (Region.noSelect_spec hsel) (fun c a w => hQ c _ _ w) false ((hqt k c (by simp)).2 hc) (fun h => by cases h) (rest.length + n) listed a w hcl (Region.free_spec ho hB1.2) hrdy
        (hy.imp (fun ⟨p, q⟩ => ⟨p, fun w' _ => q w'⟩) id) (fun h => by cases h) hrest
theorem wpAnyE_pl {qs ls : List Nat} (hsel : Region.noSelect ops = true) (hQ : ∀ c a a' w, Q (.panic c) a w → Q (.panic c) a' w) (p : Pl) :
 ∀ (n : Nat) (listed : Array Bool) (a : Act) (w : World), Closed ops listed → okPl ops qs ls p n listed = true →
   wpPl P ops Q S (fun j => ls.any fun k => k != j && !waitsT ops ops.size j k) p a w → wpAnyE P ops Q S (fun k => qs.contains k) (fun j => ls.any fun k => k != j && !waitsT ops ops.size j k) n listed a w := by
 have hq : ∀ l, chkL qs ls l = true → ∀ k c, (k, c) ∈ l → (qs.contains k = true ↔ c ≠ 2) := fun l hl k c hk => by
  have := List.all_eq_true.1 hl (k, c) hk
  simp only [Bool.and_eq_true, beq_iff_eq] at this
  rw [← this.1]; simp
 have hn : ∀ l, chkL qs ls l = true → ∀ k, (k, 1) ∈ l → ∀ j, waitsT ops ops.size j k = false → j ≠ k → j < ops.size → (ls.any fun k => k != j && !waitsT ops ops.size j k) = true := fun l hl k hk j hw hjk _ => by
  have := List.all_eq_true.1 hl (k, 1) hk
  simp only [Bool.and_eq_true] at this
  have h2 : ls.contains k = true := by simpa using this.2
  rw [List.any_eq_true]
  exact ⟨k, by simpa using h2, by rw [hw]; simp [Ne.symm hjk]⟩
 induction p with
 | fin l =>
   intro n listed a w hcl hB h
   simp only [okPl, Bool.and_eq_true, beq_iff_eq] at hB
   obtain ⟨⟨⟨⟨rfl, hc⟩, hL⟩, he⟩, hlt⟩ := hB
   have := wpAnyE_list (P := P) (Q := Q) (S := S) (qt := fun k => qs.contains k) (ns := fun j => ls.any fun k => k != j && !waitsT ops ops.size j k) (R := fun a w => Q .normal a w) (n := 0) hsel hQ l listed a w hcl hL (by simpa [List.all_eq_true] using hlt) (hq l hc) (hn l hc)
    (fun a w h => ⟨by simpa using he, h⟩) h
   simpa using this
 | fork l i r j s ihr ihs =>
   intro n listed a w hcl hB h
   simp only [okPl, Bool.and_eq_true, beq_iff_eq, decide_eq_true_eq, Bool.not_eq_true'] at hB
   obtain ⟨⟨⟨⟨⟨⟨⟨⟨hlen, hc⟩, hL⟩, hlt⟩, hrd⟩, hqi⟩, hqj⟩, hr⟩, hs⟩ := hB
   obtain ⟨m, rfl⟩ : ∃ m, n = l.length + (m + 1) := ⟨n - l.length - 1, by omega⟩
   have em : l.length + (m + 1) - l.length - 1 = m := by omega
   rw [em] at hr hs
   have hcl2 := closed_setL l listed hcl hL
   refine wpAnyE_list (P := P) (Q := Q) (S := S) (qt := fun k => qs.contains k) (ns := fun j => ls.any fun k => k != j && !waitsT ops ops.size j k) (n := m + 1) hsel hQ l listed a w hcl hL (by simpa [List.all_eq_true] using hlt) (hq l hc) (hn l hc) (fun a w hR => ?_) h
   refine ⟨fun h0 => (by rw [hrd] at h0; cases h0), fun k hk => ?_⟩
   have hcl3 := closed_ready hcl2 hk
   rw [hrd] at hk
   simp only [List.mem_cons, List.not_mem_nil, or_false] at hk
   rcases hk with rfl | rfl
   · refine wpOp_mono (fun a' w' h' => ⟨?_, ihr m _ a' w' hcl3 hr h'.2⟩) hR.1
     unfold behind
     rw [if_neg (by simp only [hqi]; simp)]
     exact h'.1
   · refine wpOp_mono (fun a' w' h' => ⟨?_, ihs m _ a' w' hcl3 hs h'.2⟩) hR.2
     unfold behind
     rw [if_neg (by simp only [hqj]; simp)]
     exact h'.1
theorem wp_region_Pl {id : Nat} {l : List Oper} {a : Act} {w : World} (S : World → Prop) (qs ls : List Nat) (p : Pl) (hm : P.follows .mixedOrders = true) (hsel : Region.noSelect l.toArray = true)
 (hB : okPl l.toArray qs ls p l.toArray.size (Array.replicate l.toArray.size false) = true)
 (h : ∀ K : Act → World → Prop, (∀ a w, Q .normal a w → K a w) → wpPl P l.toArray (OnlyN K) S (fun j => ls.any fun k => k != j && !waitsT l.toArray l.toArray.size j k) p a w.drew) : (Code.region id l.toArray true).wp P Q a w := by
 refine Code.wp_mono (Q := OnlyN fun a w => Q .normal a w) (fun e a w hq => by cases e <;> first | exact hq | exact hq.elim) (wp_region_any hm ?_)
 have hcl : Closed l.toArray (Array.replicate l.toArray.size false) := fun m o hm => by rw [getD_replicate_false] at hm; cases hm
 exact wpAny_of_E _ _ _ _ (wpAnyE_pl (P := P) (Q := OnlyN fun a w => Q .normal a w) (S := S) hsel (fun c a a' w h => h) p _ _ a w.drew hcl hB (h _ (fun _ _ h => h)))
variable {ns : Nat → Bool} {R : Act → World → Prop} {rest : List (Nat × Cls × Oper)} {a : Act} {w : World} {i : Nat} {o : Oper}
theorem wpY_nil (h : R a w) : wpY P ops Q S ns R [] a w := h
theorem wpY_w (v : Value) (hy : Yields P ops o v a) (h : wpY P ops Q S ns R rest (a.put o.dst v) w) : wpY P ops Q S ns R ((i, 0, o) :: rest) a w := by
 simp only [wpY]
 exact ⟨v, by simpa using hy, h⟩
theorem wpY_l (v : Value) (hS : S w) (hy : YieldsIf P ops S o v a) (h : wpY P ops Q S ns R rest (a.put o.dst v) w) : wpY P ops Q S ns R ((i, 1, o) :: rest) a w := by
 simp only [wpY]
 exact ⟨v, by simpa using ⟨hy, hS⟩, h⟩
theorem wpY_e (hn : ns i = false)
 (h : ∀ K : Act → World → Prop, (∀ a w, wpY P ops Q S ns R rest a w → K a w) → if Region.wanted o (yielded ops a.tmps) = true then Oper.wp P o a w K Q else K (a.put o.dst undef) w) : wpY P ops Q S ns R ((i, 2, o) :: rest) a w := by
 have := h (fun a' w' => (ns i = true → S w') ∧ wpY P ops Q S ns R rest a' w') (fun a w h2 => ⟨fun h => absurd h (by rw [hn]; simp), h2⟩)
 simpa only [wpY, if_true] using this
theorem wpY_es
 (h : ∀ K : Act → World → Prop, (∀ a w, S w → wpY P ops Q S ns R rest a w → K a w) → if Region.wanted o (yielded ops a.tmps) = true then Oper.wp P o a w K Q else K (a.put o.dst undef) w) : wpY P ops Q S ns R ((i, 2, o) :: rest) a w := by
 have := h (fun a' w' => (ns i = true → S w') ∧ wpY P ops Q S ns R rest a' w') (fun a w h1 h2 => ⟨fun _ => h1, h2⟩)
 simpa only [wpY, if_true] using this
theorem wpOp_c {C : World → Prop} {H : Act → World → Prop} (hC : ∀ w, C w) (ho : ops[i]? = some o)
 (h : ∀ K : Act → World → Prop, (∀ a w, H a w → K a w) → if Region.wanted o (yielded ops a.tmps) = true then Oper.wp P o a w K Q else K (a.put o.dst undef) w) :
 wpOp P ops Q i (fun a' w' => C w' ∧ H a' w') a w := by
 have h2 := h (fun a' w' => C w' ∧ H a' w') (fun a w h2 => ⟨hC w, h2⟩)
 unfold wpOp
 simp only [ho]
 split
 · rename_i hw
   rw [if_pos hw] at h2
   exact .inl h2
 · rename_i hw
   rw [if_neg hw] at h2
   exact h2
theorem wpOp_cs {C : World → Prop} {H : Act → World → Prop} (ho : ops[i]? = some o)
 (h : ∀ K : Act → World → Prop, (∀ a w, C w → H a w → K a w) → if Region.wanted o (yielded ops a.tmps) = true then Oper.wp P o a w K Q else K (a.put o.dst undef) w) :
 wpOp P ops Q i (fun a' w' => C w' ∧ H a' w') a w := by
 have h2 := h (fun a' w' => C w' ∧ H a' w') (fun a w h1 h2 => ⟨h1, h2⟩)
 unfold wpOp
 simp only [ho]
 split
 · rename_i hw
   rw [if_pos hw] at h2
   exact .inl h2
 · rename_i hw
   rw [if_neg hw] at h2
   exact h2
end
end Go.Proofs.YtffemfglngikbaaGreat
