/-
  A region that leaves its order open, walked once: in an order of one's own choice in which what only reads comes first. Over any program.
-/
import Derived.Test.YthhhhjllpejpgaaMem
import Derived.OrdersHeld
import Derived.StillTail
namespace Go.Proofs.Ythhhhjllpejpgaa

/-- How an operation is met: it yields in whatever world (w), in every world that meets S (l), or it is carried out (e). -/
abbrev Cls := Nat
section
variable {P : Program} {ops : Array Oper} {Q : Exit → Act → World → Prop} {S : World → Prop}

/-- Does j wait for k, by whatever many steps? -/
def waitsT (ops : Array Oper) : Nat → Nat → Nat → Bool
  | 0, _, _ => false
  | n + 1, j, k => ((ops[j]?).map fun o => o.after.any fun e => Region.binds .any e && (e.on == k || waitsT ops n e.on k)).getD false
def needS (ops : Array Oper) (ord : List (Nat × Cls)) (j : Nat) : Bool := ord.any fun (k, c) => c == 1 && k != j && !waitsT ops ops.size j k
def okE (ops : Array Oper) : List (Nat × Cls) → Array Bool → Bool
  | [], listed => (Region.ready .any ops listed).isEmpty
  | (k, c) :: rest, listed => (if c == 2 then Region.ready .any ops listed == [k] else (Region.ready .any ops listed).contains k && Region.free .any ops listed k) && okE ops rest (listed.setIfInBounds k true)

/-- What is asked of the world behind operation i: a quiet one leaves it alone; another keeps S where a load may still come. -/
def behind (S : World → Prop) (qt ns : Nat → Bool) (i : Nat) (w w' : World) : Prop := if qt i = true then w' = w else (ns i = true → S w')
def wpAnyE (P : Program) (ops : Array Oper) (Q : Exit → Act → World → Prop) (S : World → Prop) (qt ns : Nat → Bool) : Nat → Array Bool → Act → World → Prop
  | 0, listed, a, w => Region.ready .any ops listed = [] ∧ Q .normal a w
  | fuel + 1, listed, a, w =>
    (Region.ready .any ops listed = [] → Q .normal a w) ∧
    ∀ i ∈ Region.ready .any ops listed, wpOp P ops Q i (fun a' w' => behind S qt ns i w w' ∧ wpAnyE P ops Q S qt ns fuel (listed.setIfInBounds i true) a' w') a w
theorem wpAny_of_E {qt ns : Nat → Bool} : ∀ (fuel : Nat) (listed : Array Bool) (a : Act) (w : World), wpAnyE P ops Q S qt ns fuel listed a w → wpAny P .any ops Q fuel listed a w
  | 0, _, _, _, h => h
  | fuel + 1, _, _, _, h => ⟨h.1, fun i hi => wpOp_mono (fun a' w' h' => wpAny_of_E fuel _ a' w' h'.2) (h.2 i hi)⟩

/-- The walk, in the order that was chosen. -/
def wpE (P : Program) (ops : Array Oper) (Q : Exit → Act → World → Prop) (S : World → Prop) (ns : Nat → Bool) : List (Nat × Cls) → Act → World → Prop
  | [], a, w => Q .normal a w
  | (i, c) :: rest, a, w =>
    if c = 2 then wpOp P ops Q i (fun a' w' => (ns i = true → S w') ∧ wpE P ops Q S ns rest a' w') a w
    else ∃ o v, ops[i]? = some o ∧ (if c = 1 then YieldsIf P ops S o v a ∧ S w else Yields P ops o v a) ∧ wpE P ops Q S ns rest (a.put o.dst v) w

def Closed (ops : Array Oper) (listed : Array Bool) : Prop := ∀ (m : Nat) (o : Oper), listed.getD m false = true → ops[m]? = some o → ∀ e ∈ o.after, Region.binds .any e = true → listed.getD e.on false = true
theorem closed_ready {listed : Array Bool} (hc : Closed ops listed) {i : Nat} (hi : i ∈ Region.ready .any ops listed) : Closed ops (listed.setIfInBounds i true) := by
  obtain ⟨hu, o, ho, hall⟩ := mem_ready.1 hi
  have up : ∀ m, listed.getD m false = true → (listed.setIfInBounds i true).getD m false = true := fun m hm => by
    by_cases e : i = m
    · subst e
      rcases Nat.lt_or_ge i listed.size with h' | h'
      · simp [h']
      · simp [Array.getElem?_eq_none h'] at hm
    · rw [getD_set_ne false e]; exact hm
  intro m om hm hom e he hb
  by_cases e' : i = m
  · subst e'
    rw [ho] at hom
    cases hom
    exact up _ (hall e he hb)
  · rw [getD_set_ne false e'] at hm
    exact up _ (hc m om hm hom e he hb)
theorem listed_not_waits {listed : Array Bool} (hc : Closed ops listed) {k : Nat} (hk : listed.getD k false = false) : ∀ (n m : Nat), listed.getD m false = true → waitsT ops n m k = false
  | 0, _, _ => rfl
  | n + 1, m, hm => by
    unfold waitsT
    cases ho : ops[m]? with
    | none => rfl
    | some o =>
      simp only [Option.map_some, Option.getD_some]
      rw [Array.any_eq_false]
      intro i hi
      simp only [Bool.and_eq_true, Bool.or_eq_true, beq_iff_eq, not_and, not_or, Bool.not_eq_true]
      intro hb
      have hl := hc m o hm ho o.after[i] (Array.getElem_mem hi) hb
      refine ⟨fun e => ?_, listed_not_waits hc hk n _ hl⟩
      rw [e, hk] at hl
      cases hl
theorem ready_not_waits {listed : Array Bool} (hc : Closed ops listed) {k j : Nat} (hk : listed.getD k false = false) (hj : j ∈ Region.ready .any ops listed) (n : Nat) : waitsT ops n j k = false := by
  cases n with
  | zero => rfl
  | succ n =>
    obtain ⟨_, o, ho, hall⟩ := mem_ready.1 hj
    unfold waitsT
    simp only [ho, Option.map_some, Option.getD_some]
    rw [Array.any_eq_false]
    intro i hi
    simp only [Bool.and_eq_true, Bool.or_eq_true, beq_iff_eq, not_and, not_or, Bool.not_eq_true]
    intro hb
    have hl := hall o.after[i] (Array.getElem_mem hi) hb
    refine ⟨fun e => ?_, listed_not_waits hc hk n _ hl⟩
    rw [e, hk] at hl
    cases hl

/-- Take it first. -/
theorem wpAnyE_first {qt ns : Nat → Bool} {i : Nat} {oi : Oper} {v : Value} (hi : ops[i]? = some oi) (hsel : ∀ (j : Nat) (o : Oper) cs b, ops[j]? = some o → o.op ≠ .select cs b)
    (hQ : ∀ c a w, Q (.panic c) (a.put oi.dst v) w → Q (.panic c) a w) (L : Bool) (hqt : qt i = true) (hns : L = true → ∀ (j : Nat), waitsT ops ops.size j i = false → j ≠ i → j < ops.size → ns j = true) :
    ∀ (fuel : Nat) (listed : Array Bool) (a : Act) (w : World), Closed ops listed →
      (∀ j oj, ops[j]? = some oj → j ≠ i → listed.getD j true = false → (∀ e ∈ oj.after, Region.binds .any e = true → e.on ≠ i) → oi.apart ops oj = true) →
      i ∈ Region.ready .any ops listed → YieldsIf P ops (fun w => L = true → S w) oi v a → (L = true → S w) →
      wpAnyE P ops Q S qt ns fuel (listed.setIfInBounds i true) (a.put oi.dst v) w → wpAnyE P ops Q S qt ns (fuel + 1) listed a w := by
  have own : ∀ w : World, behind S qt ns i w w := fun w => by unfold behind; rw [if_pos hqt]
  intro fuel
  induction fuel with
  | zero =>
    intro listed a w _ _ hr hy hS H
    refine ⟨fun h => (by rw [h] at hr; cases hr), fun j hj => ?_⟩
    by_cases hji : j = i
    · subst hji; exact hy.wpOp hi hS ⟨own w, H⟩
    · have := ready_mono hj hji
      rw [H.1] at this
      cases this
  | succ fuel ih =>
    intro listed a w hcl hfree hr hy hS H
    refine ⟨fun h => (by rw [h] at hr; cases hr), fun j hj => ?_⟩
    by_cases hji : j = i
    · subst hji; exact hy.wpOp hi hS ⟨own w, H⟩
    · have h1 := H.2 j (ready_mono hj hji)
      obtain ⟨hjun, oj, hoj, hall⟩ := mem_ready.1 hj
      have hiun : listed.getD i false = false := by
        have h0 := (mem_ready.1 hr).1
        rcases Nat.lt_or_ge i listed.size with h' | h'
        · simp [h'] at h0 ⊢; exact h0
        · simp [Array.getElem?_eq_none h'] at h0
      have hnot : ∀ e ∈ oj.after, Region.binds .any e = true → e.on ≠ i := fun e he hb heq => by
        have h1 := hall e he hb
        rw [heq, hiun] at h1
        cases h1
      have hnsj : L = true → ns j = true := fun hL => hns hL j (ready_not_waits hcl hiun hj _) hji (Array.getElem?_eq_some_iff.1 hoj).1
      have h2 := wpOp_putIf hoj (hfree j oj hoj hji hjun hnot) (fun cs b => hsel i oi cs b hi) (fun cs b => hsel j oj cs b hoj) hQ hy h1
      have hfree' : ∀ k ok, ops[k]? = some ok → k ≠ i → (listed.setIfInBounds j true).getD k true = false →
          (∀ e ∈ ok.after, Region.binds .any e = true → e.on ≠ i) → oi.apart ops ok = true := fun k ok hk hki hun hno => by
        refine hfree k ok hk hki ?_ hno
        by_cases hjk : j = k
        · subst hjk; exact hjun
        · rw [getD_set_ne true hjk] at hun; exact hun
      refine wpOp_mono (fun a' w' h3 => ⟨h3.2.1, ?_⟩) h2
      have hS' : L = true → S w' := fun hL => by
        have hb := h3.2.1
        unfold behind at hb
        by_cases hq : qt j = true
        · rw [if_pos hq] at hb; rw [hb]; exact hS hL
        · rw [if_neg hq] at hb; exact hb (hnsj hL)
      refine ih (listed.setIfInBounds j true) a' w' (closed_ready hcl hj) hfree' (ready_mono hr (Ne.symm hji)) h3.1 hS' ?_
      rw [Array.setIfInBounds_comm _ _ hji]
      exact h3.2.2

theorem wpAnyE_of {ord : List (Nat × Cls)} {qt ns : Nat → Bool} (hsel : Region.noSelect ops = true) (hQ : ∀ c a a' w, Q (.panic c) a w → Q (.panic c) a' w)
    (hqt : ∀ k c, (k, c) ∈ ord → (qt k = true ↔ c ≠ 2)) (hns : ∀ k, (k, 1) ∈ ord → ∀ j, waitsT ops ops.size j k = false → j ≠ k → j < ops.size → ns j = true) :
    ∀ (rest : List (Nat × Cls)) (listed : Array Bool) (a : Act) (w : World), (∀ x ∈ rest, x ∈ ord) → Closed ops listed → okE ops rest listed = true → wpE P ops Q S ns rest a w → wpAnyE P ops Q S qt ns rest.length listed a w
  | [], listed, a, w, _, _, hB, h => ⟨by simpa [okE] using hB, h⟩
  | (k, c) :: rest, listed, a, w, hm, hcl, hB, h => by
    simp only [okE, Bool.and_eq_true] at hB
    obtain ⟨hB1, hB2⟩ := hB
    have hmk := hm (k, c) (by simp)
    simp only [wpE] at h
    by_cases hc : c = 2
    · subst hc
      simp only [beq_self_eq_true, if_true] at hB1
      have hr : Region.ready .any ops listed = [k] := by simpa using hB1
      simp only [if_true] at h
      refine ⟨fun h0 => (by rw [hr] at h0; cases h0), fun i hi => ?_⟩
      rw [hr] at hi
      obtain rfl : i = k := by simpa using hi
      refine wpOp_mono (fun a' w' h' => ⟨?_, wpAnyE_of hsel hQ hqt hns rest _ a' w' (fun x hx => hm x (by simp [hx])) (closed_ready hcl (by rw [hr]; simp)) hB2 h'.2⟩) h
      unfold behind
      rw [if_neg (fun hq => (hqt i 2 hmk).1 hq rfl)]
      exact h'.1
    · rw [if_neg (by simpa using hc)] at hB1
      simp only [Bool.and_eq_true] at hB1
      rw [if_neg hc] at h
      obtain ⟨o, v, ho, hy, hk⟩ := h
      have hrdy : k ∈ Region.ready .any ops listed := by simpa using hB1.1
      have hrest := wpAnyE_of hsel hQ hqt hns rest _ _ w (fun x hx => hm x (by simp [hx])) (closed_ready hcl hrdy) hB2 hk
      by_cases h1 : c = 1
      · subst h1
        rw [if_pos rfl] at hy
        exact wpAnyE_first ho (Region.noSelect_spec hsel) (fun c a w => hQ c _ _ w) true ((hqt k 1 hmk).2 hc) (fun _ => hns k hmk) rest.length listed a w hcl (Region.free_spec ho hB1.2) hrdy
          (hy.1.imp (fun ⟨p, q⟩ => ⟨p, fun w' hw' => q w' (hw' rfl)⟩) id) (fun _ => hy.2) hrest
      · rw [if_neg h1] at hy
        exact wpAnyE_first ho (Region.noSelect_spec hsel) (fun c a w => hQ c _ _ w) false ((hqt k c hmk).2 hc) (fun h => by cases h) rest.length listed a w hcl (Region.free_spec ho hB1.2) hrdy
          (hy.imp (fun ⟨p, q⟩ => ⟨p, fun w' _ => q w'⟩) id) (fun h => by cases h) hrest

/-- The closed facts of an order that was chosen for a region. -/
def okOrd (ops : Array Oper) (ord : List (Nat × Cls)) : Bool :=
  Region.noSelect ops && okE ops ord (Array.replicate ops.size false) && ord.length == ops.size && (ord.map (·.1)).Nodup && ord.all fun x => x.1 < ops.size
/-- Only its end counts: a region that is shown not to panic. -/
def OnlyN (K : Act → World → Prop) : Exit → Act → World → Prop
  | .normal, a, w => K a w
  | _, _, _ => False
@[go_sem] theorem OnlyN_normal (K : Act → World → Prop) (a : Act) (w : World) : OnlyN K .normal a w = K a w := rfl

/-- The same, each operation beside its number. -/
def wpX (P : Program) (ops : Array Oper) (Q : Exit → Act → World → Prop) (S : World → Prop) (ns : Nat → Bool) : List (Nat × Cls × Oper) → Act → World → Prop
  | [], a, w => Q .normal a w
  | (i, c, o) :: rest, a, w =>
    if c = 2 then (if Region.wanted o (yielded ops a.tmps) = true then o.wp P a w (fun a' w' => (ns i = true → S w') ∧ wpX P ops Q S ns rest a' w') Q else (ns i = true → S w) ∧ wpX P ops Q S ns rest (a.put o.dst undef) w)
    else ∃ v, (if c = 1 then YieldsIf P ops S o v a ∧ S w else Yields P ops o v a) ∧ wpX P ops Q S ns rest (a.put o.dst v) w
def beside (ops : Array Oper) (ord : List (Nat × Cls)) : List (Nat × Cls × Oper) := ord.filterMap fun (i, c) => (ops[i]?).map fun o => (i, c, o)
theorem wpE_of_X {ns : Nat → Bool} : ∀ (ord : List (Nat × Cls)) (a : Act) (w : World), (∀ x ∈ ord, x.1 < ops.size) → wpX P ops Q S ns (beside ops ord) a w → wpE P ops Q S ns ord a w
  | [], _, _, _, h => h
  | (i, c) :: rest, a, w, hl, h => by
    have hi : i < ops.size := hl (i, c) (by simp)
    have ho : ops[i]? = some ops[i] := Array.getElem?_eq_getElem hi
    have hb : beside ops ((i, c) :: rest) = (i, c, ops[i]) :: beside ops rest := by simp [beside, ho]
    have ih := fun a w => wpE_of_X (ns := ns) rest a w (fun x hx => hl x (by simp [hx]))
    rw [hb] at h
    simp only [wpX] at h
    simp only [wpE]
    split
    · rename_i hc
      rw [if_pos hc] at h
      unfold wpOp
      simp only [ho]
      split
      · rename_i hw
        rw [if_pos hw] at h
        exact .inl (Oper.wp_mono (fun a w h => ⟨h.1, ih _ _ h.2⟩) h)
      · rename_i hw
        rw [if_neg hw] at h
        exact ⟨h.1, ih _ _ h.2⟩
    · rename_i hc
      rw [if_neg hc] at h
      obtain ⟨v, h1, h2⟩ := h
      exact ⟨_, v, ho, h1, ih _ _ h2⟩

/-- A REGION THAT DRAWS ITS ORDER, BY ONE WALK. S: what the loads need, where something else may come ahead of them. -/
theorem wpAny_E {l : List Oper} {a : Act} {w : World} (S : World → Prop) (ord : List (Nat × Cls)) (hB : okOrd l.toArray ord = true)
    (h : ∀ K : Act → World → Prop, (∀ a w, Q .normal a w → K a w) → wpX P l.toArray (OnlyN K) S (needS l.toArray ord) (beside l.toArray ord) a w.drew) :
    wpAny P .any l.toArray (OnlyN fun a w => Q .normal a w) l.toArray.size (Array.replicate l.toArray.size false) a w.drew := by
  simp only [okOrd, Bool.and_eq_true, beq_iff_eq, decide_eq_true_eq] at hB
  obtain ⟨⟨⟨⟨hsel, hE⟩, hlen⟩, hnd⟩, hlt0⟩ := hB
  have hlt : ∀ x ∈ ord, x.1 < l.toArray.size := by simpa [List.all_eq_true] using hlt0
  clear hlt0
  have h0 := wpE_of_X ord a w.drew hlt (h (fun a w => Q .normal a w) (fun _ _ h => h))
  have hcl : Closed l.toArray (Array.replicate l.toArray.size false) := fun m o hm => by rw [getD_replicate_false] at hm; cases hm
  have hone : ∀ k c c', (k, c) ∈ ord → (k, c') ∈ ord → c = c' := fun k c c' h1 h2 => by
    clear h h0 hE hlen hcl hlt
    induction ord with
    | nil => cases h1
    | cons x r ih =>
      simp only [List.map_cons, List.nodup_cons, List.mem_map, not_exists, not_and] at hnd
      rcases List.mem_cons.1 h1 with e1 | h3
      · rcases List.mem_cons.1 h2 with e2 | h4
        · rw [← e1] at e2; injection e2 with _ e; exact e.symm
        · subst e1; exact absurd rfl (hnd.1 (k, c') h4)
      · rcases List.mem_cons.1 h2 with e2 | h4
        · subst e2; exact absurd rfl (hnd.1 (k, c) h3)
        · exact ih hnd.2 h3 h4
  have H := wpAnyE_of (P := P) (Q := OnlyN fun a w => Q .normal a w) (S := S) (ord := ord) (qt := fun k => ord.any fun (j, c) => j == k && c != 2) (ns := needS l.toArray ord) hsel (fun c a a' w h => h)
    (fun k c hk => by
      simp only [List.any_eq_true, Bool.and_eq_true, beq_iff_eq, bne_iff_ne]
      constructor
      · rintro ⟨⟨j, c'⟩, hj, hjk, hc'⟩
        dsimp only at hjk hc'
        subst hjk
        rw [hone _ _ _ hk hj]; exact hc'
      · intro hc; exact ⟨(k, c), hk, rfl, hc⟩)
    (fun k hk j hw hjk _ => by
      unfold needS
      rw [List.any_eq_true]
      exact ⟨(k, 1), hk, by dsimp only; rw [hw]; simp [Ne.symm hjk]⟩)
    ord (Array.replicate l.toArray.size false) a w.drew (fun _ hx => hx) hcl hE h0
  rw [hlen] at H
  exact wpAny_of_E _ _ _ _ H

theorem wp_region_E {id : Nat} {l : List Oper} {a : Act} {w : World} (S : World → Prop) (ord : List (Nat × Cls)) (hm : P.follows .mixedOrders = true) (hB : okOrd l.toArray ord = true)
    (h : ∀ K : Act → World → Prop, (∀ a w, Q .normal a w → K a w) → wpX P l.toArray (OnlyN K) S (needS l.toArray ord) (beside l.toArray ord) a w.drew) : (Code.region id l.toArray true).wp P Q a w :=
  Code.wp_mono (Q := OnlyN fun a w => Q .normal a w) (fun e a w hq => by cases e <;> first | exact hq | exact hq.elim) (wp_region_any hm (wpAny_E S ord hB h))

/-! ### the steps -/
variable {ns : Nat → Bool} {rest : List (Nat × Cls × Oper)} {a : Act} {w : World} {i : Nat} {o : Oper}
theorem wpX_nil (h : Q .normal a w) : wpX P ops Q S ns [] a w := h
theorem wpX_w (v : Value) (hy : Yields P ops o v a) (h : wpX P ops Q S ns rest (a.put o.dst v) w) : wpX P ops Q S ns ((i, 0, o) :: rest) a w := by
  simp only [wpX]
  exact ⟨v, by simpa using hy, h⟩
theorem wpX_l (v : Value) (hS : S w) (hy : YieldsIf P ops S o v a) (h : wpX P ops Q S ns rest (a.put o.dst v) w) : wpX P ops Q S ns ((i, 1, o) :: rest) a w := by
  simp only [wpX]
  exact ⟨v, by simpa using ⟨hy, hS⟩, h⟩
/-- Nothing is asked of the world behind it. -/
theorem wpX_e (hn : ns i = false)
    (h : ∀ K : Act → World → Prop, (∀ a w, wpX P ops Q S ns rest a w → K a w) → if Region.wanted o (yielded ops a.tmps) = true then Oper.wp P o a w K Q else K (a.put o.dst undef) w) : wpX P ops Q S ns ((i, 2, o) :: rest) a w := by
  have := h (fun a' w' => (ns i = true → S w') ∧ wpX P ops Q S ns rest a' w') (fun a w h2 => ⟨fun h => absurd h (by rw [hn]; simp), h2⟩)
  simpa only [wpX, if_true] using this
theorem wpX_es
    (h : ∀ K : Act → World → Prop, (∀ a w, S w → wpX P ops Q S ns rest a w → K a w) → if Region.wanted o (yielded ops a.tmps) = true then Oper.wp P o a w K Q else K (a.put o.dst undef) w) : wpX P ops Q S ns ((i, 2, o) :: rest) a w := by
  have := h (fun a' w' => (ns i = true → S w') ∧ wpX P ops Q S ns rest a' w') (fun a w h1 h2 => ⟨fun _ => h1, h2⟩)
  simpa only [wpX, if_true] using this
end
end Go.Proofs.Ythhhhjllpejpgaa
